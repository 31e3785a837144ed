/- Bodies of functions, lowered: printed by a program (wip/tools/lower.py); each is held against the program by the kernel. -/
import Derived.Test.YtafghkbedkjpmaaDoorAvU
import Derived.Test.YtafghkbedkjpmaaDoorRows
import Derived.KernelRfl
set_option maxRecDepth 100000
set_option linter.unusedSimpArgs false
set_option linter.unusedVariables false
namespace Go.Proofs.YtafghkbedkjpmaaDoor.Av
open Go

/-! castellan/policy.time -/
def r_policy_time_0 : List LOper :=
   [⟨(some 2), (.mv (.av (.bool false))), none⟩]
def r_policy_time_1 : List LOper :=
   [⟨(some 3), (.mv (.tmp 0)), none⟩,
    ⟨(some 4), (.bin .geq (.tmp 3) (.av (.int .i64 0))), none⟩,
    ⟨(some 5), (.mv (.tmp 4)), none⟩,
    ⟨(some 6), (.mv (.tmp 0)), (some (5, true))⟩,
    ⟨(some 7), (.bin .leq (.tmp 6) (.av (.int .i64 9007199254740991))), (some (5, true))⟩,
    ⟨(some 8), (.pick (.tmp 5) (.tmp 7) (.av (.bool false))), none⟩,
    ⟨(some 2), (.mv (.tmp 8)), none⟩]
def c_policy_time : LFun := ⟨9, (.seq (.region r_policy_time_0)
  (.seq (.region r_policy_time_1)
  .ret)), [(.tmp 2)]⟩
attribute [push_cast] r_policy_time_0 r_policy_time_1
theorem c_policy_time_eq : lowF Tryd.prog (fun _ _ => 1) 10 = some c_policy_time.raw := by kernel_rfl

/-! castellan/policy.Check -/
def r_policy_Check_0 : List LOper :=
   [⟨(some 1), (.box (.tmp 0)), none⟩,
    ⟨(some 2), (.mv (.av (.int .i64 0))), none⟩]
def r_policy_Check_1 : List LOper :=
   [⟨(some 3), (.faddr 0 (.tmp 1)), none⟩,
    ⟨(some 4), (.load false 1 (.tmp 3)), none⟩,
    ⟨(some 5), (.bin .lss (.tmp 4) (.av (.int .i64 0))), none⟩,
    ⟨(some 6), (.mv (.tmp 5)), none⟩,
    ⟨(some 7), (.faddr 0 (.tmp 1)), (some (6, false))⟩,
    ⟨(some 8), (.load false 1 (.tmp 7)), (some (6, false))⟩,
    ⟨(some 9), (.bin .gtr (.tmp 8) (.av (.int .i64 100))), (some (6, false))⟩,
    ⟨(some 10), (.pick (.tmp 6) (.av (.bool true)) (.tmp 9)), none⟩,
    ⟨(some 11), (.mv (.tmp 10)), none⟩,
    ⟨(some 12), (.faddr 1 (.tmp 1)), (some (11, false))⟩,
    ⟨(some 13), (.load false 1 (.tmp 12)), (some (11, false))⟩,
    ⟨(some 14), (.call 10 [(.tmp 13)]), (some (11, false))⟩,
    ⟨(some 15), (.un .not (.tmp 14)), (some (11, false))⟩,
    ⟨(some 16), (.pick (.tmp 11) (.av (.bool true)) (.tmp 15)), none⟩,
    ⟨(some 17), (.mv (.tmp 16)), none⟩,
    ⟨(some 18), (.faddr 2 (.tmp 1)), (some (17, false))⟩,
    ⟨(some 19), (.load false 1 (.tmp 18)), (some (17, false))⟩,
    ⟨(some 20), (.call 10 [(.tmp 19)]), (some (17, false))⟩,
    ⟨(some 21), (.un .not (.tmp 20)), (some (17, false))⟩,
    ⟨(some 22), (.pick (.tmp 17) (.av (.bool true)) (.tmp 21)), none⟩,
    ⟨(some 23), (.mv (.tmp 22)), none⟩,
    ⟨(some 24), (.faddr 3 (.tmp 1)), (some (23, false))⟩,
    ⟨(some 25), (.load false 1 (.tmp 24)), (some (23, false))⟩,
    ⟨(some 26), (.call 10 [(.tmp 25)]), (some (23, false))⟩,
    ⟨(some 27), (.un .not (.tmp 26)), (some (23, false))⟩,
    ⟨(some 28), (.pick (.tmp 23) (.av (.bool true)) (.tmp 27)), none⟩]
def r_policy_Check_2 : List LOper :=
   [⟨(some 2), (.mv (.av (.int .i64 2))), none⟩]
def r_policy_Check_3 : List LOper :=
   [⟨(some 2), (.mv (.av (.int .i64 0))), none⟩]
def c_policy_Check : LFun := ⟨29, (.seq (.region r_policy_Check_0)
  (.seq (.seq (.region r_policy_Check_1)
  (.cond (.tmp 28) (.seq (.region r_policy_Check_2)
  .ret)
  .skip))
  (.seq (.region r_policy_Check_3)
  .ret))), [(.tmp 2)]⟩
attribute [push_cast] r_policy_Check_0 r_policy_Check_1 r_policy_Check_2 r_policy_Check_3
theorem c_policy_Check_eq : lowF Tryd.prog (fun _ _ => 1) 13 = some c_policy_Check.raw := by kernel_rfl

/-! castellan/policy.Right -/
def r_policy_Right_0 : List LOper :=
   [⟨(some 1), (.box (.tmp 0)), none⟩,
    ⟨(some 2), (.mv (.av (.bool false))), none⟩]
def r_policy_Right_1 : List LOper :=
   [⟨(some 5), (.faddr 0 (.tmp 1)), none⟩,
    ⟨(some 6), (.load false 1 (.tmp 5)), none⟩,
    ⟨(some 7), (.len false (.tmp 6)), none⟩,
    ⟨(some 8), (.mv (.av (.int .i64 0))), none⟩]
def r_policy_Right_2 : List LOper :=
   [⟨(some 9), (.bin .lss (.tmp 8) (.tmp 7)), none⟩]
def r_policy_Right_3 : List LOper :=
   [⟨(some 10), (.mv (.tmp 8)), none⟩,
    ⟨(some 11), (.iaddr 1 (.tmp 6) (.tmp 8)), none⟩,
    ⟨(some 12), (.load false 1 (.tmp 11)), none⟩,
    ⟨(some 3), (.mv (.tmp 10)), none⟩,
    ⟨(some 4), (.mv (.tmp 12)), none⟩]
def r_policy_Right_4 : List LOper :=
   [⟨(some 13), (.mv (.tmp 4)), none⟩,
    ⟨(some 14), (.call 10 [(.tmp 13)]), none⟩,
    ⟨(some 15), (.un .not (.tmp 14)), none⟩,
    ⟨(some 16), (.mv (.tmp 15)), none⟩,
    ⟨(some 17), (.mv (.tmp 3)), (some (16, false))⟩,
    ⟨(some 18), (.bin .gtr (.tmp 17) (.av (.int .i64 0))), (some (16, false))⟩,
    ⟨(some 19), (.mv (.tmp 18)), (some (16, false))⟩,
    ⟨(some 20), (.faddr 0 (.tmp 1)), (some (19, true))⟩,
    ⟨(some 21), (.load false 1 (.tmp 20)), (some (19, true))⟩,
    ⟨(some 22), (.mv (.tmp 3)), (some (19, true))⟩,
    ⟨(some 23), (.bin .sub (.tmp 22) (.av (.int .i64 1))), (some (19, true))⟩,
    ⟨(some 24), (.iaddr 1 (.tmp 21) (.tmp 23)), (some (19, true))⟩,
    ⟨(some 25), (.load false 1 (.tmp 24)), (some (19, true))⟩,
    ⟨(some 26), (.mv (.tmp 4)), (some (19, true))⟩,
    ⟨(some 27), (.bin .gtr (.tmp 25) (.tmp 26)), (some (19, true))⟩,
    ⟨(some 28), (.pick (.tmp 19) (.tmp 27) (.av (.bool false))), (some (16, false))⟩,
    ⟨(some 29), (.pick (.tmp 16) (.av (.bool true)) (.tmp 28)), none⟩]
def r_policy_Right_5 : List LOper :=
   [⟨(some 2), (.mv (.av (.bool false))), none⟩]
def r_policy_Right_6 : List LOper :=
   [⟨(some 30), (.bin .add (.tmp 8) (.av (.int .i64 1))), none⟩,
    ⟨(some 8), (.mv (.tmp 30)), none⟩]
def r_policy_Right_7 : List LOper :=
   [⟨(some 31), (.faddr 0 (.tmp 1)), none⟩,
    ⟨(some 32), (.load false 1 (.tmp 31)), none⟩,
    ⟨(some 33), (.len false (.tmp 32)), none⟩,
    ⟨(some 34), (.bin .leq (.tmp 33) (.av (.int .i64 100))), none⟩,
    ⟨(some 35), (.mv (.tmp 34)), none⟩,
    ⟨(some 36), (.faddr 1 (.tmp 1)), (some (35, true))⟩,
    ⟨(some 37), (.load false 1 (.tmp 36)), (some (35, true))⟩,
    ⟨(some 38), (.bin .eql (.tmp 37) (.av (.int .i64 (-1)))), (some (35, true))⟩,
    ⟨(some 39), (.mv (.tmp 38)), (some (35, true))⟩,
    ⟨(some 40), (.faddr 1 (.tmp 1)), (some (39, false))⟩,
    ⟨(some 41), (.load false 1 (.tmp 40)), (some (39, false))⟩,
    ⟨(some 42), (.call 10 [(.tmp 41)]), (some (39, false))⟩,
    ⟨(some 43), (.pick (.tmp 39) (.av (.bool true)) (.tmp 42)), (some (35, true))⟩,
    ⟨(some 44), (.pick (.tmp 35) (.tmp 43) (.av (.bool false))), none⟩,
    ⟨(some 45), (.mv (.tmp 44)), none⟩,
    ⟨(some 46), (.faddr 2 (.tmp 1)), (some (45, true))⟩,
    ⟨(some 47), (.load false 1 (.tmp 46)), (some (45, true))⟩,
    ⟨(some 48), (.call 10 [(.tmp 47)]), (some (45, true))⟩,
    ⟨(some 49), (.pick (.tmp 45) (.tmp 48) (.av (.bool false))), none⟩,
    ⟨(some 2), (.mv (.tmp 49)), none⟩]
def c_policy_Right : LFun := ⟨50, (.seq (.region r_policy_Right_0)
  (.seq (.seq (.region r_policy_Right_1)
  (.block 0 (.loop (.seq (.region r_policy_Right_2)
  (.seq (.cond (.tmp 9) .skip
  (.exit 0))
  (.seq (.block 1 (.seq (.region r_policy_Right_3)
  (.seq (.region r_policy_Right_4)
  (.cond (.tmp 29) (.seq (.region r_policy_Right_5)
  .ret)
  .skip))))
  (.region r_policy_Right_6)))))))
  (.seq (.region r_policy_Right_7)
  .ret))), [(.tmp 2)]⟩
attribute [push_cast] r_policy_Right_0 r_policy_Right_1 r_policy_Right_2 r_policy_Right_3 r_policy_Right_4 r_policy_Right_5 r_policy_Right_6 r_policy_Right_7
theorem c_policy_Right_eq : lowF Tryd.prog (fun _ _ => 1) 4 = some c_policy_Right.raw := by kernel_rfl

/-! castellan/policy.New -/
def r_policy_New_0 : List LOper :=
   [⟨(some 2), (.alloc [(.sl [] 0 (some 0)), (.int .i64 0), (.int .i64 0)]), none⟩]
def r_policy_New_1 : List LOper :=
   [⟨(some 3), (.mv (.tmp 0)), none⟩,
    ⟨(some 4), (.build [(.sl [] 0 (some 0)), (.int .i64 0), (.int .i64 0)] [(1, (1, (.av (.int .i64 (-1))))), (2, (1, (.tmp 3)))]), none⟩,
    ⟨none, (.store 3 (.tmp 2) (.tmp 4)), none⟩]
def c_policy_New : LFun := ⟨5, (.seq (.region r_policy_New_0)
  (.seq (.region r_policy_New_1)
  .ret)), [(.cell true 3 2)]⟩
attribute [push_cast] r_policy_New_0 r_policy_New_1
theorem c_policy_New_eq : lowF Tryd.prog (fun _ _ => 1) 12 = some c_policy_New.raw := by kernel_rfl

/-! castellan/castellanlaw23.to -/
def r_law23_to_0 : List LOper :=
   [⟨(some 1), (.box (.tmp 0)), none⟩,
    ⟨(some 2), (.alloc [(.sl [] 0 (some 0)), (.int .i64 0), (.int .i64 0)]), none⟩]
def r_law23_to_1 : List LOper :=
   [⟨(some 3), (.faddr 0 (.tmp 1)), none⟩,
    ⟨(some 4), (.load false 1 (.tmp 3)), none⟩,
    ⟨(some 5), (.faddr 1 (.tmp 1)), none⟩,
    ⟨(some 6), (.load false 1 (.tmp 5)), none⟩,
    ⟨(some 7), (.faddr 2 (.tmp 1)), none⟩,
    ⟨(some 8), (.load false 1 (.tmp 7)), none⟩,
    ⟨(some 9), (.build [(.sl [] 0 (some 0)), (.int .i64 0), (.int .i64 0)] [(0, (1, (.tmp 4))), (1, (1, (.tmp 6))), (2, (1, (.tmp 8)))]), none⟩,
    ⟨none, (.store 3 (.tmp 2) (.tmp 9)), none⟩]
def c_law23_to : LFun := ⟨10, (.seq (.region r_law23_to_0)
  (.seq (.region r_law23_to_1)
  .ret)), [(.cell true 3 2)]⟩
attribute [push_cast] r_law23_to_0 r_law23_to_1
theorem c_law23_to_eq : lowF Tryd.prog (fun _ _ => 1) 8 = some c_law23_to.raw := by kernel_rfl

/-! castellan/policy.Try -/
def r_policy_Try_0 : List LOper :=
   [⟨(some 4), (.box (.tmp 0)), none⟩,
    ⟨(some 5), (.box (.tmp 1)), none⟩,
    ⟨(some 6), (.box (.tmp 2)), none⟩,
    ⟨(some 8), (.alloc [(.sl [] 0 (some 0)), (.int .i64 0), (.int .i64 0)]), none⟩,
    ⟨(some 9), (.mv (.av (.int .i64 0))), none⟩]
def r_policy_Try_1 : List LOper :=
   [⟨(some 13), (.faddr 0 (.tmp 5)), none⟩,
    ⟨(some 14), (.load false 1 (.tmp 13)), none⟩,
    ⟨(some 15), (.call 18 [(.tmp 14)]), none⟩,
    ⟨(some 16), (.faddr 0 (.tmp 5)), none⟩,
    ⟨none, (.store 1 (.tmp 16) (.tmp 15)), none⟩]
def r_policy_Try_2 : List LOper :=
   [⟨(some 18), (.load true 4 (.tmp 4)), none⟩,
    ⟨(some 19), (.call 13 [(.tmp 18)]), none⟩,
    ⟨(some 20), (.bin .neq (.tmp 19) (.av (.int .i64 0))), none⟩,
    ⟨(some 21), (.mv (.tmp 20)), none⟩,
    ⟨(some 22), (.load true 3 (.tmp 5)), (some (21, false))⟩,
    ⟨(some 23), (.call 4 [(.tmp 22)]), (some (21, false))⟩,
    ⟨(some 24), (.un .not (.tmp 23)), (some (21, false))⟩,
    ⟨(some 25), (.pick (.tmp 21) (.av (.bool true)) (.tmp 24)), none⟩,
    ⟨(some 26), (.mv (.tmp 25)), none⟩,
    ⟨(some 27), (.load false 1 (.tmp 6)), (some (26, false))⟩,
    ⟨(some 28), (.call 10 [(.tmp 27)]), (some (26, false))⟩,
    ⟨(some 29), (.un .not (.tmp 28)), (some (26, false))⟩,
    ⟨(some 30), (.pick (.tmp 26) (.av (.bool true)) (.tmp 29)), none⟩,
    ⟨(some 17), (.mv (.tmp 30)), none⟩]
def r_policy_Try_3 : List LOper :=
   [⟨(some 31), (.load true 3 (.tmp 5)), none⟩,
    ⟨none, (.store 3 (.tmp 8) (.tmp 31)), none⟩,
    ⟨(some 9), (.mv (.av (.int .i64 1))), none⟩]
def r_policy_Try_4 : List LOper :=
   [⟨(some 33), (.faddr 1 (.tmp 5)), none⟩,
    ⟨(some 34), (.load false 1 (.tmp 33)), none⟩,
    ⟨(some 35), (.bin .geq (.tmp 34) (.av (.int .i64 0))), none⟩,
    ⟨(some 36), (.mv (.tmp 35)), none⟩,
    ⟨(some 37), (.faddr 2 (.tmp 4)), (some (36, true))⟩,
    ⟨(some 38), (.load false 1 (.tmp 37)), (some (36, true))⟩,
    ⟨(some 39), (.bin .eql (.tmp 38) (.av (.int .i64 0))), (some (36, true))⟩,
    ⟨(some 40), (.mv (.tmp 39)), (some (36, true))⟩,
    ⟨(some 41), (.load false 1 (.tmp 6)), (some (40, false))⟩,
    ⟨(some 42), (.faddr 1 (.tmp 5)), (some (40, false))⟩,
    ⟨(some 43), (.load false 1 (.tmp 42)), (some (40, false))⟩,
    ⟨(some 44), (.bin .sub (.tmp 41) (.tmp 43)), (some (40, false))⟩,
    ⟨(some 45), (.faddr 2 (.tmp 4)), (some (40, false))⟩,
    ⟨(some 46), (.load false 1 (.tmp 45)), (some (40, false))⟩,
    ⟨(some 47), (.bin .lss (.tmp 44) (.tmp 46)), (some (40, false))⟩,
    ⟨(some 48), (.pick (.tmp 40) (.av (.bool true)) (.tmp 47)), (some (36, true))⟩,
    ⟨(some 49), (.pick (.tmp 36) (.tmp 48) (.av (.bool false))), none⟩,
    ⟨(some 32), (.mv (.tmp 49)), none⟩]
def r_policy_Try_5 : List LOper :=
   [⟨(some 50), (.load true 3 (.tmp 5)), none⟩,
    ⟨none, (.store 3 (.tmp 8) (.tmp 50)), none⟩,
    ⟨(some 9), (.mv (.av (.int .i64 2))), none⟩]
def r_policy_Try_6 : List LOper :=
   [⟨(some 52), (.mv (.tmp 3)), none⟩,
    ⟨(some 53), (.mv (.tmp 52)), none⟩,
    ⟨(some 54), (.faddr 3 (.tmp 4)), (some (53, true))⟩,
    ⟨(some 55), (.load false 1 (.tmp 54)), (some (53, true))⟩,
    ⟨(some 56), (.bin .gtr (.tmp 55) (.av (.int .i64 0))), (some (53, true))⟩,
    ⟨(some 57), (.pick (.tmp 53) (.tmp 56) (.av (.bool false))), none⟩,
    ⟨(some 58), (.mv (.tmp 57)), none⟩,
    ⟨(some 59), (.load false 1 (.tmp 6)), (some (58, true))⟩,
    ⟨(some 60), (.faddr 2 (.tmp 5)), (some (58, true))⟩,
    ⟨(some 61), (.load false 1 (.tmp 60)), (some (58, true))⟩,
    ⟨(some 62), (.bin .sub (.tmp 59) (.tmp 61)), (some (58, true))⟩,
    ⟨(some 63), (.faddr 3 (.tmp 4)), (some (58, true))⟩,
    ⟨(some 64), (.load false 1 (.tmp 63)), (some (58, true))⟩,
    ⟨(some 65), (.bin .geq (.tmp 62) (.tmp 64)), (some (58, true))⟩,
    ⟨(some 66), (.pick (.tmp 58) (.tmp 65) (.av (.bool false))), none⟩,
    ⟨(some 51), (.mv (.tmp 66)), none⟩]
def r_policy_Try_7 : List LOper :=
   [⟨(some 67), (.load true 3 (.tmp 5)), none⟩,
    ⟨none, (.store 3 (.tmp 8) (.tmp 67)), none⟩,
    ⟨(some 9), (.mv (.av (.int .i64 3))), none⟩]
def r_policy_Try_8 : List LOper :=
   [⟨(some 69), (.mv (.tmp 3)), none⟩,
    ⟨(some 68), (.mv (.tmp 69)), none⟩]
def r_policy_Try_9 : List LOper :=
   [⟨(some 70), (.faddr 2 (.tmp 5)), none⟩,
    ⟨(some 71), (.load false 1 (.tmp 70)), none⟩,
    ⟨(some 72), (.build [(.sl [] 0 (some 0)), (.int .i64 0), (.int .i64 0)] [(1, (1, (.av (.int .i64 (-1))))), (2, (1, (.tmp 71)))]), none⟩,
    ⟨none, (.store 3 (.tmp 8) (.tmp 72)), none⟩,
    ⟨(some 9), (.mv (.av (.int .i64 0))), none⟩]
def r_policy_Try_10 : List LOper :=
   [⟨(some 73), (.faddr 2 (.tmp 5)), none⟩,
    ⟨(some 74), (.load false 1 (.tmp 73)), none⟩,
    ⟨(some 75), (.build [(.sl [] 0 (some 0)), (.int .i64 0), (.int .i64 0)] [(1, (1, (.av (.int .i64 (-1))))), (2, (1, (.tmp 74)))]), none⟩,
    ⟨(some 10), (.alloc [(.sl [] 0 (some 0)), (.int .i64 0), (.int .i64 0)]), none⟩,
    ⟨none, (.store 3 (.tmp 10) (.tmp 75)), none⟩]
def r_policy_Try_11 : List LOper :=
   [⟨(some 76), (.faddr 1 (.tmp 5)), none⟩,
    ⟨(some 77), (.load false 1 (.tmp 76)), none⟩,
    ⟨(some 78), (.bin .lss (.tmp 77) (.av (.int .i64 0))), none⟩]
def r_policy_Try_12 : List LOper :=
   [⟨(some 79), (.faddr 0 (.tmp 5)), none⟩,
    ⟨(some 80), (.load false 1 (.tmp 79)), none⟩,
    ⟨(some 81), (.mkfn 20 [(.tmp 4), (.tmp 6)]), none⟩,
    ⟨(some 82), (.call 19 [(.tmp 80), (.tmp 81)]), none⟩,
    ⟨(some 83), (.faddr 0 (.tmp 10)), none⟩,
    ⟨none, (.store 1 (.tmp 83) (.tmp 82)), none⟩]
def r_policy_Try_13 : List LOper :=
   [⟨(some 85), (.faddr 0 (.tmp 10)), none⟩,
    ⟨(some 86), (.load false 1 (.tmp 85)), none⟩,
    ⟨(some 87), (.load false 1 (.tmp 6)), none⟩,
    ⟨(some 88), (.call 21 [(.tmp 86), (.tmp 87)]), none⟩,
    ⟨(some 84), (.mv (.tmp 88)), none⟩,
    ⟨(some 89), (.extract (.tmp 84) 0), none⟩,
    ⟨(some 90), (.extract (.tmp 84) 1), none⟩,
    ⟨(some 11), (.mv (.tmp 89)), none⟩,
    ⟨(some 12), (.mv (.tmp 90)), none⟩]
def r_policy_Try_14 : List LOper :=
   [⟨(some 91), (.faddr 0 (.tmp 10)), none⟩,
    ⟨(some 92), (.load false 1 (.tmp 91)), none⟩,
    ⟨(some 93), (.mv (.tmp 11)), none⟩,
    ⟨(some 94), (.load false 1 (.tmp 6)), none⟩,
    ⟨(some 95), (.bslice false 1 1 [(.int .i64 0)] [(0, (1, (.tmp 94)))]), none⟩,
    ⟨(some 96), (.call 22 [(.tmp 92), (.tmp 93), (.tmp 95)]), none⟩,
    ⟨(some 97), (.faddr 0 (.tmp 10)), none⟩,
    ⟨none, (.store 1 (.tmp 97) (.tmp 96)), none⟩]
def r_policy_Try_15 : List LOper :=
   [⟨(some 98), (.faddr 0 (.tmp 10)), none⟩,
    ⟨(some 99), (.load false 1 (.tmp 98)), none⟩,
    ⟨(some 100), (.len false (.tmp 99)), none⟩,
    ⟨(some 101), (.bin .gtr (.tmp 100) (.av (.int .i64 100))), none⟩]
def r_policy_Try_16 : List LOper :=
   [⟨(some 102), (.faddr 0 (.tmp 10)), none⟩,
    ⟨(some 103), (.load false 1 (.tmp 102)), none⟩,
    ⟨(some 104), (.slV 1 (.tmp 103) (some (.av (.int .i64 1))) none none), none⟩,
    ⟨(some 105), (.faddr 0 (.tmp 10)), none⟩,
    ⟨none, (.store 1 (.tmp 105) (.tmp 104)), none⟩]
def r_policy_Try_17 : List LOper :=
   [⟨(some 106), (.faddr 0 (.tmp 4)), none⟩,
    ⟨(some 107), (.load false 1 (.tmp 106)), none⟩,
    ⟨(some 108), (.bin .gtr (.tmp 107) (.av (.int .i64 0))), none⟩,
    ⟨(some 109), (.mv (.tmp 108)), none⟩,
    ⟨(some 110), (.faddr 0 (.tmp 10)), (some (109, true))⟩,
    ⟨(some 111), (.load false 1 (.tmp 110)), (some (109, true))⟩,
    ⟨(some 112), (.len false (.tmp 111)), (some (109, true))⟩,
    ⟨(some 113), (.faddr 0 (.tmp 4)), (some (109, true))⟩,
    ⟨(some 114), (.load false 1 (.tmp 113)), (some (109, true))⟩,
    ⟨(some 115), (.bin .geq (.tmp 112) (.tmp 114)), (some (109, true))⟩,
    ⟨(some 116), (.pick (.tmp 109) (.tmp 115) (.av (.bool false))), none⟩]
def r_policy_Try_18 : List LOper :=
   [⟨(some 117), (.load false 1 (.tmp 6)), none⟩,
    ⟨(some 118), (.faddr 2 (.tmp 5)), none⟩,
    ⟨(some 119), (.load false 1 (.tmp 118)), none⟩,
    ⟨(some 120), (.build [(.sl [] 0 (some 0)), (.int .i64 0), (.int .i64 0)] [(1, (1, (.tmp 117))), (2, (1, (.tmp 119)))]), none⟩,
    ⟨none, (.store 3 (.tmp 8) (.tmp 120)), none⟩,
    ⟨(some 9), (.mv (.av (.int .i64 1))), none⟩]
def r_policy_Try_19 : List LOper :=
   [⟨(some 121), (.load true 3 (.tmp 10)), none⟩,
    ⟨none, (.store 3 (.tmp 8) (.tmp 121)), none⟩,
    ⟨(some 9), (.mv (.av (.int .i64 1))), none⟩]
def c_policy_Try : LFun := ⟨122, (.seq (.region r_policy_Try_0)
  (.seq (.region r_policy_Try_1)
  (.seq (.block 0 (.seq (.region r_policy_Try_2)
  (.cond (.tmp 17) (.seq (.region r_policy_Try_3)
  .ret)
  (.seq (.region r_policy_Try_4)
  (.cond (.tmp 32) (.seq (.region r_policy_Try_5)
  .ret)
  (.seq (.region r_policy_Try_6)
  (.cond (.tmp 51) (.seq (.region r_policy_Try_7)
  .ret)
  (.seq (.region r_policy_Try_8)
  (.cond (.tmp 68) (.seq (.region r_policy_Try_9)
  .ret)
  .skip)))))))))
  (.seq (.region r_policy_Try_10)
  (.seq (.seq (.region r_policy_Try_11)
  (.cond (.tmp 78) (.region r_policy_Try_12)
  .skip))
  (.seq (.region r_policy_Try_13)
  (.seq (.region r_policy_Try_14)
  (.seq (.seq (.region r_policy_Try_15)
  (.cond (.tmp 101) (.region r_policy_Try_16)
  .skip))
  (.seq (.seq (.region r_policy_Try_17)
  (.cond (.tmp 116) (.seq (.region r_policy_Try_18)
  .ret)
  .skip))
  (.seq (.region r_policy_Try_19)
  .ret)))))))))), [(.cell true 3 8), (.tmp 9)]⟩
attribute [push_cast] r_policy_Try_0 r_policy_Try_1 r_policy_Try_2 r_policy_Try_3 r_policy_Try_4 r_policy_Try_5 r_policy_Try_6 r_policy_Try_7 r_policy_Try_8 r_policy_Try_9 r_policy_Try_10 r_policy_Try_11 r_policy_Try_12 r_policy_Try_13 r_policy_Try_14 r_policy_Try_15 r_policy_Try_16 r_policy_Try_17 r_policy_Try_18 r_policy_Try_19
theorem c_policy_Try_eq : lowF Tryd.prog (fun _ _ => 1) 11 = some c_policy_Try.raw := by kernel_rfl

/-! castellan/policy.Try$1 -/
def r_policy_Try_1_0 : List LOper :=
   [⟨(some 4), (.mv (.av (.bool false))), none⟩]
def r_policy_Try_1_1 : List LOper :=
   [⟨(some 5), (.faddr 1 (.tmp 1)), none⟩,
    ⟨(some 6), (.load false 1 (.tmp 5)), none⟩,
    ⟨(some 7), (.bin .gtr (.tmp 6) (.av (.int .i64 0))), none⟩,
    ⟨(some 8), (.mv (.tmp 7)), none⟩,
    ⟨(some 9), (.load false 1 (.tmp 2)), (some (8, true))⟩,
    ⟨(some 10), (.mv (.tmp 0)), (some (8, true))⟩,
    ⟨(some 11), (.bin .sub (.tmp 9) (.tmp 10)), (some (8, true))⟩,
    ⟨(some 12), (.faddr 1 (.tmp 1)), (some (8, true))⟩,
    ⟨(some 13), (.load false 1 (.tmp 12)), (some (8, true))⟩,
    ⟨(some 14), (.bin .geq (.tmp 11) (.tmp 13)), (some (8, true))⟩,
    ⟨(some 15), (.pick (.tmp 8) (.tmp 14) (.av (.bool false))), none⟩,
    ⟨(some 4), (.mv (.tmp 15)), none⟩]
def c_policy_Try_1 : LFun := ⟨16, (.seq (.region r_policy_Try_1_0)
  (.seq (.region r_policy_Try_1_1)
  .ret)), [(.tmp 4)]⟩
attribute [push_cast] r_policy_Try_1_0 r_policy_Try_1_1
theorem c_policy_Try_1_eq : lowF Tryd.prog (fun _ _ => 1) 20 = some c_policy_Try_1.raw := by kernel_rfl

/-! slices.Clone[[]int64,int64] -/
def r_slices_Clone_int64_int64_0 : List LOper :=
   [⟨(some 2), (.mv (.av (.sl [] 0 (some 0)))), none⟩]
def r_slices_Clone_int64_int64_1 : List LOper :=
   [⟨(some 3), (.mv (.tmp 0)), none⟩,
    ⟨(some 4), (.slnil false (.tmp 3)), none⟩]
def r_slices_Clone_int64_int64_2 : List LOper :=
   [⟨(some 2), (.mv (.av (.sl [] 0 (some 0)))), none⟩]
def r_slices_Clone_int64_int64_3 : List LOper :=
   [⟨(some 5), (.bslice false 1 0 [] []), none⟩,
    ⟨(some 6), (.mv (.tmp 0)), none⟩,
    ⟨(some 7), (.app 2 1 8 [(.int .i64 0)] (.tmp 5) (.tmp 6)), none⟩,
    ⟨(some 2), (.mv (.tmp 7)), none⟩]
def c_slices_Clone_int64_int64 : LFun := ⟨8, (.seq (.region r_slices_Clone_int64_int64_0)
  (.seq (.seq (.region r_slices_Clone_int64_int64_1)
  (.cond (.tmp 4) (.seq (.region r_slices_Clone_int64_int64_2)
  .ret)
  .skip))
  (.seq (.region r_slices_Clone_int64_int64_3)
  .ret))), [(.tmp 2)]⟩
attribute [push_cast] r_slices_Clone_int64_int64_0 r_slices_Clone_int64_int64_1 r_slices_Clone_int64_int64_2 r_slices_Clone_int64_int64_3
theorem c_slices_Clone_int64_int64_eq : lowF Tryd.prog (fun r i => if r = 3 ∧ i = 2 then 2 else 1) 18 = some c_slices_Clone_int64_int64.raw := by kernel_rfl

/-! slices.DeleteFunc[[]int64,int64] -/
def r_slices_DeleteFunc_int64_int64_0 : List LOper :=
   [⟨(some 4), (.mv (.av (.sl [] 0 (some 0)))), none⟩]
def r_slices_DeleteFunc_int64_int64_1 : List LOper :=
   [⟨(some 8), (.mv (.tmp 0)), none⟩,
    ⟨(some 9), (.mv (.tmp 1)), none⟩,
    ⟨(some 10), (.call 25 [(.tmp 8), (.tmp 9)]), none⟩,
    ⟨(some 5), (.mv (.tmp 10)), none⟩]
def r_slices_DeleteFunc_int64_int64_2 : List LOper :=
   [⟨(some 11), (.mv (.tmp 5)), none⟩,
    ⟨(some 12), (.bin .eql (.tmp 11) (.av (.int .i64 (-1)))), none⟩]
def r_slices_DeleteFunc_int64_int64_3 : List LOper :=
   [⟨(some 13), (.mv (.tmp 0)), none⟩,
    ⟨(some 4), (.mv (.tmp 13)), none⟩]
def r_slices_DeleteFunc_int64_int64_4 : List LOper :=
   [⟨(some 14), (.mv (.tmp 5)), none⟩,
    ⟨(some 15), (.bin .add (.tmp 14) (.av (.int .i64 1))), none⟩,
    ⟨(some 6), (.mv (.tmp 15)), none⟩]
def r_slices_DeleteFunc_int64_int64_5 : List LOper :=
   [⟨(some 16), (.mv (.tmp 6)), none⟩,
    ⟨(some 17), (.mv (.tmp 0)), none⟩,
    ⟨(some 18), (.len false (.tmp 17)), none⟩,
    ⟨(some 19), (.bin .lss (.tmp 16) (.tmp 18)), none⟩]
def r_slices_DeleteFunc_int64_int64_6 : List LOper :=
   [⟨(some 22), (.mv (.tmp 0)), none⟩,
    ⟨(some 23), (.mv (.tmp 6)), none⟩,
    ⟨(some 24), (.iaddr 1 (.tmp 22) (.tmp 23)), none⟩,
    ⟨(some 25), (.load false 1 (.tmp 24)), none⟩,
    ⟨(some 7), (.mv (.tmp 25)), none⟩]
def r_slices_DeleteFunc_int64_int64_7 : List LOper :=
   [⟨(some 26), (.mv (.tmp 1)), none⟩,
    ⟨(some 27), (.mv (.tmp 7)), none⟩,
    ⟨(some 28), (.callv (.tmp 26) [(.tmp 27)]), none⟩,
    ⟨(some 29), (.un .not (.tmp 28)), none⟩]
def r_slices_DeleteFunc_int64_int64_8 : List LOper :=
   [⟨(some 30), (.mv (.tmp 0)), none⟩,
    ⟨(some 31), (.mv (.tmp 5)), none⟩,
    ⟨(some 32), (.mv (.tmp 7)), none⟩,
    ⟨(some 33), (.iaddr 1 (.tmp 30) (.tmp 31)), none⟩,
    ⟨none, (.store 1 (.tmp 33) (.tmp 32)), none⟩]
def r_slices_DeleteFunc_int64_int64_9 : List LOper :=
   [⟨(some 34), (.mv (.tmp 5)), none⟩,
    ⟨(some 35), (.bin .add (.tmp 34) (.av (.int .i64 1))), none⟩,
    ⟨(some 5), (.mv (.tmp 35)), none⟩]
def r_slices_DeleteFunc_int64_int64_10 : List LOper :=
   [⟨(some 20), (.mv (.tmp 6)), none⟩,
    ⟨(some 21), (.bin .add (.tmp 20) (.av (.int .i64 1))), none⟩,
    ⟨(some 6), (.mv (.tmp 21)), none⟩]
def r_slices_DeleteFunc_int64_int64_11 : List LOper :=
   [⟨(some 36), (.mv (.tmp 0)), none⟩,
    ⟨(some 37), (.mv (.tmp 5)), none⟩,
    ⟨(some 38), (.slV 1 (.tmp 36) (some (.tmp 37)) none none), none⟩,
    ⟨none, (.clear 1 [(.int .i64 0)] (.tmp 38)), none⟩]
def r_slices_DeleteFunc_int64_int64_12 : List LOper :=
   [⟨(some 39), (.mv (.tmp 0)), none⟩,
    ⟨(some 40), (.mv (.tmp 5)), none⟩,
    ⟨(some 41), (.slV 1 (.tmp 39) none (some (.tmp 40)) none), none⟩,
    ⟨(some 4), (.mv (.tmp 41)), none⟩]
def c_slices_DeleteFunc_int64_int64 : LFun := ⟨42, (.seq (.region r_slices_DeleteFunc_int64_int64_0)
  (.seq (.region r_slices_DeleteFunc_int64_int64_1)
  (.seq (.seq (.region r_slices_DeleteFunc_int64_int64_2)
  (.cond (.tmp 12) (.seq (.region r_slices_DeleteFunc_int64_int64_3)
  .ret)
  .skip))
  (.seq (.seq (.region r_slices_DeleteFunc_int64_int64_4)
  (.block 0 (.loop (.seq (.seq (.region r_slices_DeleteFunc_int64_int64_5)
  (.cond (.tmp 19) .skip
  (.exit 0)))
  (.seq (.block 1 (.seq (.region r_slices_DeleteFunc_int64_int64_6)
  (.seq (.region r_slices_DeleteFunc_int64_int64_7)
  (.cond (.tmp 29) (.seq (.region r_slices_DeleteFunc_int64_int64_8)
  (.region r_slices_DeleteFunc_int64_int64_9))
  .skip))))
  (.region r_slices_DeleteFunc_int64_int64_10))))))
  (.seq (.region r_slices_DeleteFunc_int64_int64_11)
  (.seq (.region r_slices_DeleteFunc_int64_int64_12)
  .ret)))))), [(.tmp 4)]⟩
attribute [push_cast] r_slices_DeleteFunc_int64_int64_0 r_slices_DeleteFunc_int64_int64_1 r_slices_DeleteFunc_int64_int64_2 r_slices_DeleteFunc_int64_int64_3 r_slices_DeleteFunc_int64_int64_4 r_slices_DeleteFunc_int64_int64_5 r_slices_DeleteFunc_int64_int64_6 r_slices_DeleteFunc_int64_int64_7 r_slices_DeleteFunc_int64_int64_8 r_slices_DeleteFunc_int64_int64_9 r_slices_DeleteFunc_int64_int64_10 r_slices_DeleteFunc_int64_int64_11 r_slices_DeleteFunc_int64_int64_12
theorem c_slices_DeleteFunc_int64_int64_eq : lowF Tryd.prog (fun _ _ => 1) 19 = some c_slices_DeleteFunc_int64_int64.raw := by kernel_rfl

/-! slices.BinarySearch[[]int64,int64] -/
def r_slices_BinarySearch_int64_int64_0 : List LOper :=
   [⟨(some 4), (.mv (.av (.int .i64 0))), none⟩,
    ⟨(some 5), (.mv (.av (.bool false))), none⟩]
def r_slices_BinarySearch_int64_int64_1 : List LOper :=
   [⟨(some 10), (.mv (.tmp 0)), none⟩,
    ⟨(some 11), (.len false (.tmp 10)), none⟩,
    ⟨(some 6), (.mv (.tmp 11)), none⟩]
def r_slices_BinarySearch_int64_int64_2 : List LOper :=
   [⟨(some 12), (.mv (.tmp 6)), none⟩,
    ⟨(some 7), (.mv (.av (.int .i64 0))), none⟩,
    ⟨(some 8), (.mv (.tmp 12)), none⟩]
def r_slices_BinarySearch_int64_int64_3 : List LOper :=
   [⟨(some 13), (.mv (.tmp 7)), none⟩,
    ⟨(some 14), (.mv (.tmp 8)), none⟩,
    ⟨(some 15), (.bin .lss (.tmp 13) (.tmp 14)), none⟩]
def r_slices_BinarySearch_int64_int64_4 : List LOper :=
   [⟨(some 16), (.mv (.tmp 7)), none⟩,
    ⟨(some 17), (.mv (.tmp 8)), none⟩,
    ⟨(some 18), (.bin .add (.tmp 16) (.tmp 17)), none⟩,
    ⟨(some 19), (.conv .u64 (.tmp 18)), none⟩,
    ⟨(some 20), (.bin .shr (.tmp 19) (.av (.int .u64 1))), none⟩,
    ⟨(some 21), (.conv .i64 (.tmp 20)), none⟩,
    ⟨(some 9), (.mv (.tmp 21)), none⟩]
def r_slices_BinarySearch_int64_int64_5 : List LOper :=
   [⟨(some 22), (.mv (.tmp 0)), none⟩,
    ⟨(some 23), (.mv (.tmp 9)), none⟩,
    ⟨(some 24), (.iaddr 1 (.tmp 22) (.tmp 23)), none⟩,
    ⟨(some 25), (.load false 1 (.tmp 24)), none⟩,
    ⟨(some 26), (.mv (.tmp 1)), none⟩,
    ⟨(some 27), (.call 26 [(.tmp 25), (.tmp 26)]), none⟩]
def r_slices_BinarySearch_int64_int64_6 : List LOper :=
   [⟨(some 28), (.mv (.tmp 9)), none⟩,
    ⟨(some 29), (.bin .add (.tmp 28) (.av (.int .i64 1))), none⟩,
    ⟨(some 7), (.mv (.tmp 29)), none⟩]
def r_slices_BinarySearch_int64_int64_7 : List LOper :=
   [⟨(some 30), (.mv (.tmp 9)), none⟩,
    ⟨(some 8), (.mv (.tmp 30)), none⟩]
def r_slices_BinarySearch_int64_int64_8 : List LOper :=
   [⟨(some 31), (.mv (.tmp 7)), none⟩,
    ⟨(some 32), (.mv (.tmp 7)), none⟩,
    ⟨(some 33), (.mv (.tmp 6)), none⟩,
    ⟨(some 34), (.bin .lss (.tmp 32) (.tmp 33)), none⟩,
    ⟨(some 35), (.mv (.tmp 34)), none⟩,
    ⟨(some 36), (.mv (.tmp 0)), (some (35, true))⟩,
    ⟨(some 37), (.mv (.tmp 7)), (some (35, true))⟩,
    ⟨(some 38), (.iaddr 1 (.tmp 36) (.tmp 37)), (some (35, true))⟩,
    ⟨(some 39), (.load false 1 (.tmp 38)), (some (35, true))⟩,
    ⟨(some 40), (.mv (.tmp 1)), (some (35, true))⟩,
    ⟨(some 41), (.bin .eql (.tmp 39) (.tmp 40)), (some (35, true))⟩,
    ⟨(some 42), (.mv (.tmp 41)), (some (35, true))⟩,
    ⟨(some 43), (.mv (.tmp 0)), (some (42, false))⟩,
    ⟨(some 44), (.mv (.tmp 7)), (some (42, false))⟩,
    ⟨(some 45), (.iaddr 1 (.tmp 43) (.tmp 44)), (some (42, false))⟩,
    ⟨(some 46), (.load false 1 (.tmp 45)), (some (42, false))⟩,
    ⟨(some 47), (.call 27 [(.tmp 46)]), (some (42, false))⟩,
    ⟨(some 48), (.mv (.tmp 47)), (some (42, false))⟩,
    ⟨(some 49), (.mv (.tmp 1)), (some (48, true))⟩,
    ⟨(some 50), (.call 27 [(.tmp 49)]), (some (48, true))⟩,
    ⟨(some 51), (.pick (.tmp 48) (.tmp 50) (.av (.bool false))), (some (42, false))⟩,
    ⟨(some 52), (.pick (.tmp 42) (.av (.bool true)) (.tmp 51)), (some (35, true))⟩,
    ⟨(some 53), (.pick (.tmp 35) (.tmp 52) (.av (.bool false))), none⟩,
    ⟨(some 4), (.mv (.tmp 31)), none⟩,
    ⟨(some 5), (.mv (.tmp 53)), none⟩]
def c_slices_BinarySearch_int64_int64 : LFun := ⟨54, (.seq (.region r_slices_BinarySearch_int64_int64_0)
  (.seq (.region r_slices_BinarySearch_int64_int64_1)
  (.seq (.region r_slices_BinarySearch_int64_int64_2)
  (.seq (.block 0 (.loop (.seq (.seq (.region r_slices_BinarySearch_int64_int64_3)
  (.cond (.tmp 15) .skip
  (.exit 0)))
  (.block 1 (.seq (.region r_slices_BinarySearch_int64_int64_4)
  (.seq (.region r_slices_BinarySearch_int64_int64_5)
  (.cond (.tmp 27) (.region r_slices_BinarySearch_int64_int64_6)
  (.region r_slices_BinarySearch_int64_int64_7))))))))
  (.seq (.region r_slices_BinarySearch_int64_int64_8)
  .ret))))), [(.tmp 4), (.tmp 5)]⟩
attribute [push_cast] r_slices_BinarySearch_int64_int64_0 r_slices_BinarySearch_int64_int64_1 r_slices_BinarySearch_int64_int64_2 r_slices_BinarySearch_int64_int64_3 r_slices_BinarySearch_int64_int64_4 r_slices_BinarySearch_int64_int64_5 r_slices_BinarySearch_int64_int64_6 r_slices_BinarySearch_int64_int64_7 r_slices_BinarySearch_int64_int64_8
theorem c_slices_BinarySearch_int64_int64_eq : lowF Tryd.prog (fun _ _ => 1) 21 = some c_slices_BinarySearch_int64_int64.raw := by kernel_rfl

/-! slices.Insert[[]int64,int64] -/
def r_slices_Insert_int64_int64_0 : List LOper :=
   [⟨(some 6), (.mv (.av (.sl [] 0 (some 0)))), none⟩]
def r_slices_Insert_int64_int64_1 : List LOper :=
   [⟨(some 10), (.mv (.tmp 0)), none⟩,
    ⟨(some 11), (.mv (.tmp 1)), none⟩,
    ⟨(some 12), (.slV 1 (.tmp 10) (some (.tmp 11)) none none), none⟩]
def r_slices_Insert_int64_int64_2 : List LOper :=
   [⟨(some 13), (.mv (.tmp 2)), none⟩,
    ⟨(some 14), (.len false (.tmp 13)), none⟩,
    ⟨(some 7), (.mv (.tmp 14)), none⟩]
def r_slices_Insert_int64_int64_3 : List LOper :=
   [⟨(some 15), (.mv (.tmp 7)), none⟩,
    ⟨(some 16), (.bin .eql (.tmp 15) (.av (.int .i64 0))), none⟩]
def r_slices_Insert_int64_int64_4 : List LOper :=
   [⟨(some 17), (.mv (.tmp 0)), none⟩,
    ⟨(some 6), (.mv (.tmp 17)), none⟩]
def r_slices_Insert_int64_int64_5 : List LOper :=
   [⟨(some 18), (.mv (.tmp 0)), none⟩,
    ⟨(some 19), (.len false (.tmp 18)), none⟩,
    ⟨(some 8), (.mv (.tmp 19)), none⟩]
def r_slices_Insert_int64_int64_6 : List LOper :=
   [⟨(some 20), (.mv (.tmp 1)), none⟩,
    ⟨(some 21), (.mv (.tmp 8)), none⟩,
    ⟨(some 22), (.bin .eql (.tmp 20) (.tmp 21)), none⟩]
def r_slices_Insert_int64_int64_7 : List LOper :=
   [⟨(some 23), (.mv (.tmp 0)), none⟩,
    ⟨(some 24), (.mv (.tmp 2)), none⟩,
    ⟨(some 25), (.app 2 1 8 [(.int .i64 0)] (.tmp 23) (.tmp 24)), none⟩,
    ⟨(some 6), (.mv (.tmp 25)), none⟩]
def r_slices_Insert_int64_int64_8 : List LOper :=
   [⟨(some 26), (.mv (.tmp 8)), none⟩,
    ⟨(some 27), (.mv (.tmp 7)), none⟩,
    ⟨(some 28), (.bin .add (.tmp 26) (.tmp 27)), none⟩,
    ⟨(some 29), (.mv (.tmp 0)), none⟩,
    ⟨(some 30), (.cap (.tmp 29)), none⟩,
    ⟨(some 31), (.bin .gtr (.tmp 28) (.tmp 30)), none⟩]
def r_slices_Insert_int64_int64_9 : List LOper :=
   [⟨(some 32), (.mv (.tmp 0)), none⟩,
    ⟨(some 33), (.mv (.tmp 1)), none⟩,
    ⟨(some 34), (.slV 1 (.tmp 32) none (some (.tmp 33)) none), none⟩,
    ⟨(some 35), (.mv (.tmp 8)), none⟩,
    ⟨(some 36), (.mv (.tmp 7)), none⟩,
    ⟨(some 37), (.bin .add (.tmp 35) (.tmp 36)), none⟩,
    ⟨(some 38), (.mv (.tmp 1)), none⟩,
    ⟨(some 39), (.bin .sub (.tmp 37) (.tmp 38)), none⟩,
    ⟨(some 40), (.appz 1 8 [(.int .i64 0)] (.tmp 34) (.tmp 39)), none⟩,
    ⟨(some 9), (.mv (.tmp 40)), none⟩]
def r_slices_Insert_int64_int64_10 : List LOper :=
   [⟨(some 41), (.mv (.tmp 9)), none⟩,
    ⟨(some 42), (.mv (.tmp 1)), none⟩,
    ⟨(some 43), (.slV 1 (.tmp 41) (some (.tmp 42)) none none), none⟩,
    ⟨(some 44), (.mv (.tmp 2)), none⟩,
    ⟨(some 45), (.copy 1 (.tmp 43) (.tmp 44)), none⟩]
def r_slices_Insert_int64_int64_11 : List (LOper × Kd) :=
   [(⟨(some 46), (.mv (.tmp 9)), none⟩, .pure),
    (⟨(some 47), (.mv (.tmp 1)), none⟩, .pure),
    (⟨(some 48), (.mv (.tmp 7)), none⟩, .pure),
    (⟨(some 49), (.bin .add (.tmp 47) (.tmp 48)), none⟩, .pure),
    (⟨(some 50), (.slV 1 (.tmp 46) (some (.tmp 49)) none none), none⟩, (.read 0 0)),
    (⟨(some 51), (.mv (.tmp 0)), none⟩, .pure),
    (⟨(some 52), (.mv (.tmp 1)), none⟩, .pure),
    (⟨(some 53), (.slV 1 (.tmp 51) (some (.tmp 52)) none none), none⟩, (.read 0 0))]
def r_slices_Insert_int64_int64_11t : List LOper :=
   [⟨(some 54), (.copy 1 (.tmp 50) (.tmp 53)), none⟩]
def r_slices_Insert_int64_int64_12 : List LOper :=
   [⟨(some 55), (.mv (.tmp 9)), none⟩,
    ⟨(some 6), (.mv (.tmp 55)), none⟩]
def r_slices_Insert_int64_int64_13 : List LOper :=
   [⟨(some 56), (.mv (.tmp 0)), none⟩,
    ⟨(some 57), (.mv (.tmp 8)), none⟩,
    ⟨(some 58), (.mv (.tmp 7)), none⟩,
    ⟨(some 59), (.bin .add (.tmp 57) (.tmp 58)), none⟩,
    ⟨(some 60), (.slV 1 (.tmp 56) none (some (.tmp 59)) none), none⟩,
    ⟨(some 0), (.mv (.tmp 60)), none⟩]
def r_slices_Insert_int64_int64_14 : List LOper :=
   [⟨(some 61), (.mv (.tmp 2)), none⟩,
    ⟨(some 62), (.mv (.tmp 0)), none⟩,
    ⟨(some 63), (.mv (.tmp 1)), none⟩,
    ⟨(some 64), (.mv (.tmp 7)), none⟩,
    ⟨(some 65), (.bin .add (.tmp 63) (.tmp 64)), none⟩,
    ⟨(some 66), (.slV 1 (.tmp 62) (some (.tmp 65)) none none), none⟩,
    ⟨(some 67), (.call 28 [(.tmp 61), (.tmp 66)]), none⟩,
    ⟨(some 68), (.un .not (.tmp 67)), none⟩]
def r_slices_Insert_int64_int64_15 : List (LOper × Kd) :=
   [(⟨(some 69), (.mv (.tmp 0)), none⟩, .pure),
    (⟨(some 70), (.mv (.tmp 1)), none⟩, .pure),
    (⟨(some 71), (.mv (.tmp 7)), none⟩, .pure),
    (⟨(some 72), (.bin .add (.tmp 70) (.tmp 71)), none⟩, .pure),
    (⟨(some 73), (.slV 1 (.tmp 69) (some (.tmp 72)) none none), none⟩, (.read 0 0)),
    (⟨(some 74), (.mv (.tmp 0)), none⟩, .pure),
    (⟨(some 75), (.mv (.tmp 1)), none⟩, .pure),
    (⟨(some 76), (.slV 1 (.tmp 74) (some (.tmp 75)) none none), none⟩, (.read 0 0))]
def r_slices_Insert_int64_int64_15t : List LOper :=
   [⟨(some 77), (.copy 1 (.tmp 73) (.tmp 76)), none⟩]
def r_slices_Insert_int64_int64_16 : List LOper :=
   [⟨(some 78), (.mv (.tmp 0)), none⟩,
    ⟨(some 79), (.mv (.tmp 1)), none⟩,
    ⟨(some 80), (.slV 1 (.tmp 78) (some (.tmp 79)) none none), none⟩,
    ⟨(some 81), (.mv (.tmp 2)), none⟩,
    ⟨(some 82), (.copy 1 (.tmp 80) (.tmp 81)), none⟩]
def r_slices_Insert_int64_int64_17 : List LOper :=
   [⟨(some 83), (.mv (.tmp 0)), none⟩,
    ⟨(some 6), (.mv (.tmp 83)), none⟩]
def r_slices_Insert_int64_int64_18 : List LOper :=
   [⟨(some 84), (.mv (.tmp 0)), none⟩,
    ⟨(some 85), (.mv (.tmp 8)), none⟩,
    ⟨(some 86), (.slV 1 (.tmp 84) (some (.tmp 85)) none none), none⟩,
    ⟨(some 87), (.mv (.tmp 2)), none⟩,
    ⟨(some 88), (.copy 1 (.tmp 86) (.tmp 87)), none⟩]
def r_slices_Insert_int64_int64_19 : List LOper :=
   [⟨(some 89), (.mv (.tmp 0)), none⟩,
    ⟨(some 90), (.mv (.tmp 1)), none⟩,
    ⟨(some 91), (.slV 1 (.tmp 89) (some (.tmp 90)) none none), none⟩,
    ⟨(some 92), (.mv (.tmp 7)), none⟩,
    ⟨(some 93), (.call 29 [(.tmp 91), (.tmp 92)]), none⟩]
def r_slices_Insert_int64_int64_20 : List LOper :=
   [⟨(some 94), (.mv (.tmp 0)), none⟩,
    ⟨(some 6), (.mv (.tmp 94)), none⟩]
def c_slices_Insert_int64_int64 : LFun := ⟨95, (.seq (.region r_slices_Insert_int64_int64_0)
  (.seq (.region r_slices_Insert_int64_int64_1)
  (.seq (.region r_slices_Insert_int64_int64_2)
  (.seq (.seq (.region r_slices_Insert_int64_int64_3)
  (.cond (.tmp 16) (.seq (.region r_slices_Insert_int64_int64_4)
  .ret)
  .skip))
  (.seq (.region r_slices_Insert_int64_int64_5)
  (.seq (.seq (.region r_slices_Insert_int64_int64_6)
  (.cond (.tmp 22) (.seq (.region r_slices_Insert_int64_int64_7)
  .ret)
  .skip))
  (.seq (.seq (.region r_slices_Insert_int64_int64_8)
  (.cond (.tmp 31) (.seq (.region r_slices_Insert_int64_int64_9)
  (.seq (.region r_slices_Insert_int64_int64_10)
  (.seq (.dregion r_slices_Insert_int64_int64_11 r_slices_Insert_int64_int64_11t)
  (.seq (.region r_slices_Insert_int64_int64_12)
  .ret))))
  .skip))
  (.seq (.region r_slices_Insert_int64_int64_13)
  (.seq (.seq (.region r_slices_Insert_int64_int64_14)
  (.cond (.tmp 68) (.seq (.dregion r_slices_Insert_int64_int64_15 r_slices_Insert_int64_int64_15t)
  (.seq (.region r_slices_Insert_int64_int64_16)
  (.seq (.region r_slices_Insert_int64_int64_17)
  .ret)))
  .skip))
  (.seq (.region r_slices_Insert_int64_int64_18)
  (.seq (.region r_slices_Insert_int64_int64_19)
  (.seq (.region r_slices_Insert_int64_int64_20)
  .ret)))))))))))), [(.tmp 6)]⟩
attribute [push_cast] r_slices_Insert_int64_int64_0 r_slices_Insert_int64_int64_1 r_slices_Insert_int64_int64_2 r_slices_Insert_int64_int64_3 r_slices_Insert_int64_int64_4 r_slices_Insert_int64_int64_5 r_slices_Insert_int64_int64_6 r_slices_Insert_int64_int64_7 r_slices_Insert_int64_int64_8 r_slices_Insert_int64_int64_9 r_slices_Insert_int64_int64_10 r_slices_Insert_int64_int64_11 r_slices_Insert_int64_int64_11t r_slices_Insert_int64_int64_12 r_slices_Insert_int64_int64_13 r_slices_Insert_int64_int64_14 r_slices_Insert_int64_int64_15 r_slices_Insert_int64_int64_15t r_slices_Insert_int64_int64_16 r_slices_Insert_int64_int64_17 r_slices_Insert_int64_int64_18 r_slices_Insert_int64_int64_19 r_slices_Insert_int64_int64_20
theorem c_slices_Insert_int64_int64_eq : lowF Tryd.prog (fun r i => if r = 7 ∧ i = 2 then 2 else 1) 22 = some c_slices_Insert_int64_int64.raw := by kernel_rfl

/-! slices.IndexFunc[[]int64,int64] -/
def r_slices_IndexFunc_int64_int64_0 : List LOper :=
   [⟨(some 4), (.mv (.av (.int .i64 0))), none⟩]
def r_slices_IndexFunc_int64_int64_1 : List LOper :=
   [⟨(some 6), (.mv (.tmp 0)), none⟩,
    ⟨(some 7), (.len false (.tmp 6)), none⟩,
    ⟨(some 8), (.mv (.av (.int .i64 0))), none⟩]
def r_slices_IndexFunc_int64_int64_2 : List LOper :=
   [⟨(some 9), (.bin .lss (.tmp 8) (.tmp 7)), none⟩]
def r_slices_IndexFunc_int64_int64_3 : List LOper :=
   [⟨(some 10), (.mv (.tmp 8)), none⟩,
    ⟨(some 5), (.mv (.tmp 10)), none⟩]
def r_slices_IndexFunc_int64_int64_4 : List LOper :=
   [⟨(some 11), (.mv (.tmp 1)), none⟩,
    ⟨(some 12), (.mv (.tmp 0)), none⟩,
    ⟨(some 13), (.mv (.tmp 5)), none⟩,
    ⟨(some 14), (.iaddr 1 (.tmp 12) (.tmp 13)), none⟩,
    ⟨(some 15), (.load false 1 (.tmp 14)), none⟩,
    ⟨(some 16), (.callv (.tmp 11) [(.tmp 15)]), none⟩]
def r_slices_IndexFunc_int64_int64_5 : List LOper :=
   [⟨(some 17), (.mv (.tmp 5)), none⟩,
    ⟨(some 4), (.mv (.tmp 17)), none⟩]
def r_slices_IndexFunc_int64_int64_6 : List LOper :=
   [⟨(some 18), (.bin .add (.tmp 8) (.av (.int .i64 1))), none⟩,
    ⟨(some 8), (.mv (.tmp 18)), none⟩]
def r_slices_IndexFunc_int64_int64_7 : List LOper :=
   [⟨(some 4), (.mv (.av (.int .i64 (-1)))), none⟩]
def c_slices_IndexFunc_int64_int64 : LFun := ⟨19, (.seq (.region r_slices_IndexFunc_int64_int64_0)
  (.seq (.seq (.region r_slices_IndexFunc_int64_int64_1)
  (.block 0 (.loop (.seq (.region r_slices_IndexFunc_int64_int64_2)
  (.seq (.cond (.tmp 9) .skip
  (.exit 0))
  (.seq (.block 1 (.seq (.region r_slices_IndexFunc_int64_int64_3)
  (.seq (.region r_slices_IndexFunc_int64_int64_4)
  (.cond (.tmp 16) (.seq (.region r_slices_IndexFunc_int64_int64_5)
  .ret)
  .skip))))
  (.region r_slices_IndexFunc_int64_int64_6)))))))
  (.seq (.region r_slices_IndexFunc_int64_int64_7)
  .ret))), [(.tmp 4)]⟩
attribute [push_cast] r_slices_IndexFunc_int64_int64_0 r_slices_IndexFunc_int64_int64_1 r_slices_IndexFunc_int64_int64_2 r_slices_IndexFunc_int64_int64_3 r_slices_IndexFunc_int64_int64_4 r_slices_IndexFunc_int64_int64_5 r_slices_IndexFunc_int64_int64_6 r_slices_IndexFunc_int64_int64_7
theorem c_slices_IndexFunc_int64_int64_eq : lowF Tryd.prog (fun _ _ => 1) 25 = some c_slices_IndexFunc_int64_int64.raw := by kernel_rfl

/-! cmp.Less[int64] -/
def r_cmp_Less_int64_0 : List LOper :=
   [⟨(some 4), (.mv (.av (.bool false))), none⟩]
def r_cmp_Less_int64_1 : List LOper :=
   [⟨(some 5), (.mv (.tmp 0)), none⟩,
    ⟨(some 6), (.call 34 [(.tmp 5)]), none⟩,
    ⟨(some 7), (.mv (.tmp 6)), none⟩,
    ⟨(some 8), (.mv (.tmp 1)), (some (7, true))⟩,
    ⟨(some 9), (.call 34 [(.tmp 8)]), (some (7, true))⟩,
    ⟨(some 10), (.un .not (.tmp 9)), (some (7, true))⟩,
    ⟨(some 11), (.pick (.tmp 7) (.tmp 10) (.av (.bool false))), none⟩,
    ⟨(some 12), (.mv (.tmp 11)), none⟩,
    ⟨(some 13), (.mv (.tmp 0)), (some (12, false))⟩,
    ⟨(some 14), (.mv (.tmp 1)), (some (12, false))⟩,
    ⟨(some 15), (.bin .lss (.tmp 13) (.tmp 14)), (some (12, false))⟩,
    ⟨(some 16), (.pick (.tmp 12) (.av (.bool true)) (.tmp 15)), none⟩,
    ⟨(some 4), (.mv (.tmp 16)), none⟩]
def c_cmp_Less_int64 : LFun := ⟨17, (.seq (.region r_cmp_Less_int64_0)
  (.seq (.region r_cmp_Less_int64_1)
  .ret)), [(.tmp 4)]⟩
attribute [push_cast] r_cmp_Less_int64_0 r_cmp_Less_int64_1
theorem c_cmp_Less_int64_eq : lowF Tryd.prog (fun _ _ => 1) 26 = some c_cmp_Less_int64.raw := by kernel_rfl

/-! slices.isNaN[int64] -/
def r_slices_isNaN_int64_0 : List LOper :=
   [⟨(some 2), (.mv (.av (.bool false))), none⟩]
def r_slices_isNaN_int64_1 : List LOper :=
   [⟨(some 3), (.mv (.tmp 0)), none⟩,
    ⟨(some 4), (.mv (.tmp 0)), none⟩,
    ⟨(some 5), (.bin .neq (.tmp 3) (.tmp 4)), none⟩,
    ⟨(some 2), (.mv (.tmp 5)), none⟩]
def c_slices_isNaN_int64 : LFun := ⟨6, (.seq (.region r_slices_isNaN_int64_0)
  (.seq (.region r_slices_isNaN_int64_1)
  .ret)), [(.tmp 2)]⟩
attribute [push_cast] r_slices_isNaN_int64_0 r_slices_isNaN_int64_1
theorem c_slices_isNaN_int64_eq : lowF Tryd.prog (fun _ _ => 1) 27 = some c_slices_isNaN_int64.raw := by kernel_rfl

/-! slices.rotateRight[int64] -/
def r_slices_rotateRight_int64_0 : List LOper :=
   [⟨(some 4), (.mv (.tmp 0)), none⟩,
    ⟨(some 5), (.mv (.tmp 0)), none⟩,
    ⟨(some 6), (.len false (.tmp 5)), none⟩,
    ⟨(some 7), (.mv (.tmp 1)), none⟩,
    ⟨(some 8), (.bin .sub (.tmp 6) (.tmp 7)), none⟩,
    ⟨(some 9), (.call 35 [(.tmp 4), (.tmp 8)]), none⟩]
def c_slices_rotateRight_int64 : LFun := ⟨10, (.region r_slices_rotateRight_int64_0), []⟩
attribute [push_cast] r_slices_rotateRight_int64_0
theorem c_slices_rotateRight_int64_eq : lowF Tryd.prog (fun _ _ => 1) 29 = some c_slices_rotateRight_int64.raw := by kernel_rfl

/-! cmp.isNaN[int64] -/
def r_cmp_isNaN_int64_0 : List LOper :=
   [⟨(some 2), (.mv (.av (.bool false))), none⟩]
def r_cmp_isNaN_int64_1 : List LOper :=
   [⟨(some 3), (.mv (.tmp 0)), none⟩,
    ⟨(some 4), (.mv (.tmp 0)), none⟩,
    ⟨(some 5), (.bin .neq (.tmp 3) (.tmp 4)), none⟩,
    ⟨(some 2), (.mv (.tmp 5)), none⟩]
def c_cmp_isNaN_int64 : LFun := ⟨6, (.seq (.region r_cmp_isNaN_int64_0)
  (.seq (.region r_cmp_isNaN_int64_1)
  .ret)), [(.tmp 2)]⟩
attribute [push_cast] r_cmp_isNaN_int64_0 r_cmp_isNaN_int64_1
theorem c_cmp_isNaN_int64_eq : lowF Tryd.prog (fun _ _ => 1) 34 = some c_cmp_isNaN_int64.raw := by kernel_rfl

/-! slices.rotateLeft[int64] -/
def r_slices_rotateLeft_int64_0 : List LOper :=
   [⟨(some 4), (.mv (.tmp 0)), none⟩,
    ⟨(some 5), (.mv (.tmp 1)), none⟩,
    ⟨(some 6), (.slV 1 (.tmp 4) none (some (.tmp 5)) none), none⟩,
    ⟨(some 7), (.call 41 [(.tmp 6)]), none⟩]
def r_slices_rotateLeft_int64_1 : List LOper :=
   [⟨(some 8), (.mv (.tmp 0)), none⟩,
    ⟨(some 9), (.mv (.tmp 1)), none⟩,
    ⟨(some 10), (.slV 1 (.tmp 8) (some (.tmp 9)) none none), none⟩,
    ⟨(some 11), (.call 41 [(.tmp 10)]), none⟩]
def r_slices_rotateLeft_int64_2 : List LOper :=
   [⟨(some 12), (.mv (.tmp 0)), none⟩,
    ⟨(some 13), (.call 41 [(.tmp 12)]), none⟩]
def c_slices_rotateLeft_int64 : LFun := ⟨14, (.seq (.region r_slices_rotateLeft_int64_0)
  (.seq (.region r_slices_rotateLeft_int64_1)
  (.region r_slices_rotateLeft_int64_2))), []⟩
attribute [push_cast] r_slices_rotateLeft_int64_0 r_slices_rotateLeft_int64_1 r_slices_rotateLeft_int64_2
theorem c_slices_rotateLeft_int64_eq : lowF Tryd.prog (fun _ _ => 1) 35 = some c_slices_rotateLeft_int64.raw := by kernel_rfl

/-! slices.Reverse[[]int64,int64] -/
def r_slices_Reverse_int64_int64_0 : List LOper :=
   [⟨(some 4), (.mv (.tmp 0)), none⟩,
    ⟨(some 5), (.len false (.tmp 4)), none⟩,
    ⟨(some 6), (.bin .sub (.tmp 5) (.av (.int .i64 1))), none⟩,
    ⟨(some 2), (.mv (.av (.int .i64 0))), none⟩,
    ⟨(some 3), (.mv (.tmp 6)), none⟩]
def r_slices_Reverse_int64_int64_1 : List LOper :=
   [⟨(some 7), (.mv (.tmp 2)), none⟩,
    ⟨(some 8), (.mv (.tmp 3)), none⟩,
    ⟨(some 9), (.bin .lss (.tmp 7) (.tmp 8)), none⟩]
def r_slices_Reverse_int64_int64_2 : List (LOper × Kd) :=
   [(⟨(some 14), (.mv (.tmp 0)), none⟩, .pure),
    (⟨(some 15), (.mv (.tmp 2)), none⟩, .pure),
    (⟨(some 16), (.mv (.tmp 0)), none⟩, .pure),
    (⟨(some 17), (.mv (.tmp 3)), none⟩, .pure),
    (⟨(some 18), (.mv (.tmp 0)), none⟩, .pure),
    (⟨(some 19), (.mv (.tmp 3)), none⟩, .pure),
    (⟨(some 20), (.iaddr 1 (.tmp 18) (.tmp 19)), none⟩, (.read 0 0)),
    (⟨(some 21), (.load false 1 (.tmp 20)), none⟩, (.read 0 0)),
    (⟨(some 22), (.mv (.tmp 0)), none⟩, .pure),
    (⟨(some 23), (.mv (.tmp 2)), none⟩, .pure),
    (⟨(some 24), (.iaddr 1 (.tmp 22) (.tmp 23)), none⟩, (.read 0 0)),
    (⟨(some 25), (.load false 1 (.tmp 24)), none⟩, (.read 0 0)),
    (⟨(some 26), (.iaddr 1 (.tmp 14) (.tmp 15)), none⟩, (.read 0 0)),
    (⟨none, (.store 1 (.tmp 26) (.tmp 21)), none⟩, .eff)]
def r_slices_Reverse_int64_int64_2t : List LOper :=
   [⟨(some 27), (.iaddr 1 (.tmp 16) (.tmp 17)), none⟩,
    ⟨none, (.store 1 (.tmp 27) (.tmp 25)), none⟩]
def r_slices_Reverse_int64_int64_3 : List LOper :=
   [⟨(some 10), (.mv (.tmp 2)), none⟩,
    ⟨(some 11), (.bin .add (.tmp 10) (.av (.int .i64 1))), none⟩,
    ⟨(some 12), (.mv (.tmp 3)), none⟩,
    ⟨(some 13), (.bin .sub (.tmp 12) (.av (.int .i64 1))), none⟩,
    ⟨(some 2), (.mv (.tmp 11)), none⟩,
    ⟨(some 3), (.mv (.tmp 13)), none⟩]
def c_slices_Reverse_int64_int64 : LFun := ⟨28, (.seq (.region r_slices_Reverse_int64_int64_0)
  (.block 0 (.loop (.seq (.seq (.region r_slices_Reverse_int64_int64_1)
  (.cond (.tmp 9) .skip
  (.exit 0)))
  (.seq (.block 1 (.dregion r_slices_Reverse_int64_int64_2 r_slices_Reverse_int64_int64_2t))
  (.region r_slices_Reverse_int64_int64_3)))))), []⟩
attribute [push_cast] r_slices_Reverse_int64_int64_0 r_slices_Reverse_int64_int64_1 r_slices_Reverse_int64_int64_2 r_slices_Reverse_int64_int64_2t r_slices_Reverse_int64_int64_3
theorem c_slices_Reverse_int64_int64_eq : lowF Tryd.prog (fun _ _ => 1) 41 = some c_slices_Reverse_int64_int64.raw := by kernel_rfl

/-! castellan/castellanlaw23.awake -/
def r_law23_awake_0 : List LOper :=
   [⟨(some 0), (.mv (.av (.bool false))), none⟩]
def r_law23_awake_1 : List LOper :=
   [⟨(some 9), (.build [(.int .i64 0), (.int .i64 0), (.int .i64 0), (.int .i64 0)] [(0, (1, (.av (.int .i64 2)))), (1, (1, (.av (.int .i64 10)))), (2, (1, (.av (.int .i64 5))))]), none⟩,
    ⟨(some 1), (.alloc [(.int .i64 0), (.int .i64 0), (.int .i64 0), (.int .i64 0)]), none⟩,
    ⟨none, (.store 4 (.tmp 1) (.tmp 9)), none⟩]
def r_law23_awake_2 : List (LOper × Kd) :=
   [(⟨(some 11), (.load true 4 (.tmp 1)), none⟩, (.read 0 1)),
    (⟨(some 12), (.call 12 [(.av (.int .i64 0))]), none⟩, (.read 0 1)),
    (⟨(some 13), (.call 11 [(.tmp 11), (.tmp 12), (.av (.int .i64 1)), (.av (.bool false))]), none⟩, (.read 0 1)),
    (⟨(some 10), (.mv (.tmp 13)), none⟩, .pure),
    (⟨(some 14), (.extract (.tmp 10) 0), none⟩, .pure),
    (⟨(some 15), (.extract (.tmp 10) 1), none⟩, .pure),
    (⟨(some 2), (.alloc [(.sl [] 0 (some 0)), (.int .i64 0), (.int .i64 0)]), none⟩, .eff),
    (⟨none, (.store 3 (.tmp 2) (.tmp 14)), none⟩, .eff)]
def r_law23_awake_2t : List LOper :=
   [⟨(some 3), (.mv (.tmp 15)), none⟩]
def r_law23_awake_3 : List LOper :=
   [⟨(some 17), (.load true 4 (.tmp 1)), none⟩,
    ⟨(some 18), (.load true 3 (.tmp 2)), none⟩,
    ⟨(some 19), (.call 11 [(.tmp 17), (.tmp 18), (.av (.int .i64 3)), (.av (.bool false))]), none⟩,
    ⟨(some 16), (.mv (.tmp 19)), none⟩,
    ⟨(some 20), (.extract (.tmp 16) 0), none⟩,
    ⟨(some 21), (.extract (.tmp 16) 1), none⟩,
    ⟨none, (.store 3 (.tmp 2) (.tmp 20)), none⟩,
    ⟨(some 4), (.mv (.tmp 21)), none⟩]
def r_law23_awake_4 : List LOper :=
   [⟨(some 23), (.load true 4 (.tmp 1)), none⟩,
    ⟨(some 24), (.load true 3 (.tmp 2)), none⟩,
    ⟨(some 25), (.call 11 [(.tmp 23), (.tmp 24), (.av (.int .i64 7)), (.av (.bool true))]), none⟩,
    ⟨(some 22), (.mv (.tmp 25)), none⟩,
    ⟨(some 26), (.extract (.tmp 22) 0), none⟩,
    ⟨(some 27), (.extract (.tmp 22) 1), none⟩,
    ⟨(some 5), (.alloc [(.sl [] 0 (some 0)), (.int .i64 0), (.int .i64 0)]), none⟩,
    ⟨none, (.store 3 (.tmp 5) (.tmp 26)), none⟩,
    ⟨(some 6), (.mv (.tmp 27)), none⟩]
def r_law23_awake_5 : List LOper :=
   [⟨(some 29), (.load true 4 (.tmp 1)), none⟩,
    ⟨(some 30), (.load true 3 (.tmp 2)), none⟩,
    ⟨(some 31), (.call 11 [(.tmp 29), (.tmp 30), (.av (.int .i64 8)), (.av (.bool true))]), none⟩,
    ⟨(some 28), (.mv (.tmp 31)), none⟩,
    ⟨(some 32), (.extract (.tmp 28) 0), none⟩,
    ⟨(some 33), (.extract (.tmp 28) 1), none⟩,
    ⟨(some 7), (.alloc [(.sl [] 0 (some 0)), (.int .i64 0), (.int .i64 0)]), none⟩,
    ⟨none, (.store 3 (.tmp 7) (.tmp 32)), none⟩,
    ⟨(some 8), (.mv (.tmp 33)), none⟩]
def r_law23_awake_6 : List LOper :=
   [⟨(some 34), (.mv (.tmp 3)), none⟩,
    ⟨(some 35), (.bin .eql (.tmp 34) (.av (.int .i64 1))), none⟩,
    ⟨(some 36), (.mv (.tmp 35)), none⟩,
    ⟨(some 37), (.mv (.tmp 4)), (some (36, true))⟩,
    ⟨(some 38), (.bin .eql (.tmp 37) (.av (.int .i64 1))), (some (36, true))⟩,
    ⟨(some 39), (.pick (.tmp 36) (.tmp 38) (.av (.bool false))), none⟩,
    ⟨(some 40), (.mv (.tmp 39)), none⟩,
    ⟨(some 41), (.faddr 1 (.tmp 2)), (some (40, true))⟩,
    ⟨(some 42), (.load false 1 (.tmp 41)), (some (40, true))⟩,
    ⟨(some 43), (.bin .eql (.tmp 42) (.av (.int .i64 3))), (some (40, true))⟩,
    ⟨(some 44), (.pick (.tmp 40) (.tmp 43) (.av (.bool false))), none⟩,
    ⟨(some 45), (.mv (.tmp 44)), none⟩,
    ⟨(some 46), (.mv (.tmp 6)), (some (45, true))⟩,
    ⟨(some 47), (.bin .eql (.tmp 46) (.av (.int .i64 2))), (some (45, true))⟩,
    ⟨(some 48), (.pick (.tmp 45) (.tmp 47) (.av (.bool false))), none⟩,
    ⟨(some 49), (.mv (.tmp 48)), none⟩,
    ⟨(some 50), (.mv (.tmp 8)), (some (49, true))⟩,
    ⟨(some 51), (.bin .eql (.tmp 50) (.av (.int .i64 0))), (some (49, true))⟩,
    ⟨(some 52), (.pick (.tmp 49) (.tmp 51) (.av (.bool false))), none⟩,
    ⟨(some 53), (.mv (.tmp 52)), none⟩,
    ⟨(some 54), (.load true 4 (.tmp 1)), (some (53, true))⟩,
    ⟨(some 55), (.call 13 [(.tmp 54)]), (some (53, true))⟩,
    ⟨(some 56), (.bin .eql (.tmp 55) (.av (.int .i64 0))), (some (53, true))⟩,
    ⟨(some 57), (.pick (.tmp 53) (.tmp 56) (.av (.bool false))), none⟩,
    ⟨(some 0), (.mv (.tmp 57)), none⟩]
def c_law23_awake : LFun := ⟨58, (.seq (.region r_law23_awake_0)
  (.seq (.region r_law23_awake_1)
  (.seq (.dregion r_law23_awake_2 r_law23_awake_2t)
  (.seq (.region r_law23_awake_3)
  (.seq (.region r_law23_awake_4)
  (.seq (.region r_law23_awake_5)
  (.seq (.region r_law23_awake_6)
  .ret))))))), [(.tmp 0)]⟩
attribute [push_cast] r_law23_awake_0 r_law23_awake_1 r_law23_awake_2 r_law23_awake_2t r_law23_awake_3 r_law23_awake_4 r_law23_awake_5 r_law23_awake_6
theorem c_law23_awake_eq : lowF Tryd.prog (fun _ _ => 1) 5 = some c_law23_awake.raw := by kernel_rfl

end Go.Proofs.YtafghkbedkjpmaaDoor.Av
