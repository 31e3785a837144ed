/- Bodies of functions, lowered: printed by a program (wip/tools/lower.py); each is held against the program by the kernel. -/
import Derived.Test.YtpednpndahgleaaGreatDoorAvT
import Derived.Test.YtpednpndahgleaaGreatDoorRows
import Derived.KernelRfl
set_option maxRecDepth 100000
set_option linter.unusedSimpArgs false
set_option linter.unusedVariables false
namespace Go.Proofs.YtpednpndahgleaaGreatDoor.Av
open Go

/-! slices.Clone[[]int,int] -/
def r_slices_Clone_int_int_0 : List LOper :=
   [⟨(some 2), (.mv (.av (.sl [] 0 (some 0)))), none⟩]
def r_slices_Clone_int_int_1 : List LOper :=
   [⟨(some 3), (.mv (.tmp 0)), none⟩,
    ⟨(some 4), (.slnil false (.tmp 3)), none⟩]
def r_slices_Clone_int_int_2 : List LOper :=
   [⟨(some 2), (.mv (.av (.sl [] 0 (some 0)))), none⟩]
def r_slices_Clone_int_int_3 : List LOper :=
   [⟨(some 5), (.bslice false 1 0 [] []), none⟩,
    ⟨(some 6), (.mv (.tmp 0)), none⟩,
    ⟨(some 7), (.app 2 1 8 [(.int .i64 0)] (.tmp 5) (.tmp 6)), none⟩,
    ⟨(some 2), (.mv (.tmp 7)), none⟩]
def c_slices_Clone_int_int : LFun := ⟨8, (.seq (.region r_slices_Clone_int_int_0)
  (.seq (.seq (.region r_slices_Clone_int_int_1)
  (.cond (.tmp 4) (.seq (.region r_slices_Clone_int_int_2)
  .ret)
  .skip))
  (.seq (.region r_slices_Clone_int_int_3)
  .ret))), [(.tmp 2)]⟩
attribute [push_cast] r_slices_Clone_int_int_0 r_slices_Clone_int_int_1 r_slices_Clone_int_int_2 r_slices_Clone_int_int_3
theorem c_slices_Clone_int_int_eq : lowF Tryz.prog (fun r i => if r = 3 ∧ i = 2 then 2 else 1) 87 = some c_slices_Clone_int_int.raw := by kernel_rfl

/-! slices.DeleteFunc[[]int,int] -/
def r_slices_DeleteFunc_int_int_0 : List LOper :=
   [⟨(some 4), (.mv (.av (.sl [] 0 (some 0)))), none⟩]
def r_slices_DeleteFunc_int_int_1 : List LOper :=
   [⟨(some 8), (.mv (.tmp 0)), none⟩,
    ⟨(some 9), (.mv (.tmp 1)), none⟩,
    ⟨(some 10), (.call 89 [(.tmp 8), (.tmp 9)]), none⟩,
    ⟨(some 5), (.mv (.tmp 10)), none⟩]
def r_slices_DeleteFunc_int_int_2 : List LOper :=
   [⟨(some 11), (.mv (.tmp 5)), none⟩,
    ⟨(some 12), (.bin .eql (.tmp 11) (.av (.int .i64 (-1)))), none⟩]
def r_slices_DeleteFunc_int_int_3 : List LOper :=
   [⟨(some 13), (.mv (.tmp 0)), none⟩,
    ⟨(some 4), (.mv (.tmp 13)), none⟩]
def r_slices_DeleteFunc_int_int_4 : List LOper :=
   [⟨(some 14), (.mv (.tmp 5)), none⟩,
    ⟨(some 15), (.bin .add (.tmp 14) (.av (.int .i64 1))), none⟩,
    ⟨(some 6), (.mv (.tmp 15)), none⟩]
def r_slices_DeleteFunc_int_int_5 : List LOper :=
   [⟨(some 16), (.mv (.tmp 6)), none⟩,
    ⟨(some 17), (.mv (.tmp 0)), none⟩,
    ⟨(some 18), (.len false (.tmp 17)), none⟩,
    ⟨(some 19), (.bin .lss (.tmp 16) (.tmp 18)), none⟩]
def r_slices_DeleteFunc_int_int_6 : List LOper :=
   [⟨(some 22), (.mv (.tmp 0)), none⟩,
    ⟨(some 23), (.mv (.tmp 6)), none⟩,
    ⟨(some 24), (.iaddr 1 (.tmp 22) (.tmp 23)), none⟩,
    ⟨(some 25), (.load false 1 (.tmp 24)), none⟩,
    ⟨(some 7), (.mv (.tmp 25)), none⟩]
def r_slices_DeleteFunc_int_int_7 : List LOper :=
   [⟨(some 26), (.mv (.tmp 1)), none⟩,
    ⟨(some 27), (.mv (.tmp 7)), none⟩,
    ⟨(some 28), (.callv (.tmp 26) [(.tmp 27)]), none⟩,
    ⟨(some 29), (.un .not (.tmp 28)), none⟩]
def r_slices_DeleteFunc_int_int_8 : List LOper :=
   [⟨(some 30), (.mv (.tmp 0)), none⟩,
    ⟨(some 31), (.mv (.tmp 5)), none⟩,
    ⟨(some 32), (.mv (.tmp 7)), none⟩,
    ⟨(some 33), (.iaddr 1 (.tmp 30) (.tmp 31)), none⟩,
    ⟨none, (.store 1 (.tmp 33) (.tmp 32)), none⟩]
def r_slices_DeleteFunc_int_int_9 : List LOper :=
   [⟨(some 34), (.mv (.tmp 5)), none⟩,
    ⟨(some 35), (.bin .add (.tmp 34) (.av (.int .i64 1))), none⟩,
    ⟨(some 5), (.mv (.tmp 35)), none⟩]
def r_slices_DeleteFunc_int_int_10 : List LOper :=
   [⟨(some 20), (.mv (.tmp 6)), none⟩,
    ⟨(some 21), (.bin .add (.tmp 20) (.av (.int .i64 1))), none⟩,
    ⟨(some 6), (.mv (.tmp 21)), none⟩]
def r_slices_DeleteFunc_int_int_11 : List LOper :=
   [⟨(some 36), (.mv (.tmp 0)), none⟩,
    ⟨(some 37), (.mv (.tmp 5)), none⟩,
    ⟨(some 38), (.slV 1 (.tmp 36) (some (.tmp 37)) none none), none⟩,
    ⟨none, (.clear 1 [(.int .i64 0)] (.tmp 38)), none⟩]
def r_slices_DeleteFunc_int_int_12 : List LOper :=
   [⟨(some 39), (.mv (.tmp 0)), none⟩,
    ⟨(some 40), (.mv (.tmp 5)), none⟩,
    ⟨(some 41), (.slV 1 (.tmp 39) none (some (.tmp 40)) none), none⟩,
    ⟨(some 4), (.mv (.tmp 41)), none⟩]
def c_slices_DeleteFunc_int_int : LFun := ⟨42, (.seq (.region r_slices_DeleteFunc_int_int_0)
  (.seq (.region r_slices_DeleteFunc_int_int_1)
  (.seq (.seq (.region r_slices_DeleteFunc_int_int_2)
  (.cond (.tmp 12) (.seq (.region r_slices_DeleteFunc_int_int_3)
  .ret)
  .skip))
  (.seq (.seq (.region r_slices_DeleteFunc_int_int_4)
  (.block 0 (.loop (.seq (.seq (.region r_slices_DeleteFunc_int_int_5)
  (.cond (.tmp 19) .skip
  (.exit 0)))
  (.seq (.block 1 (.seq (.region r_slices_DeleteFunc_int_int_6)
  (.seq (.region r_slices_DeleteFunc_int_int_7)
  (.cond (.tmp 29) (.seq (.region r_slices_DeleteFunc_int_int_8)
  (.region r_slices_DeleteFunc_int_int_9))
  .skip))))
  (.region r_slices_DeleteFunc_int_int_10))))))
  (.seq (.region r_slices_DeleteFunc_int_int_11)
  (.seq (.region r_slices_DeleteFunc_int_int_12)
  .ret)))))), [(.tmp 4)]⟩
attribute [push_cast] r_slices_DeleteFunc_int_int_0 r_slices_DeleteFunc_int_int_1 r_slices_DeleteFunc_int_int_2 r_slices_DeleteFunc_int_int_3 r_slices_DeleteFunc_int_int_4 r_slices_DeleteFunc_int_int_5 r_slices_DeleteFunc_int_int_6 r_slices_DeleteFunc_int_int_7 r_slices_DeleteFunc_int_int_8 r_slices_DeleteFunc_int_int_9 r_slices_DeleteFunc_int_int_10 r_slices_DeleteFunc_int_int_11 r_slices_DeleteFunc_int_int_12
theorem c_slices_DeleteFunc_int_int_eq : lowF Tryz.prog (fun _ _ => 1) 55 = some c_slices_DeleteFunc_int_int.raw := by kernel_rfl

/-! slices.IndexFunc[[]int,int] -/
def r_slices_IndexFunc_int_int_0 : List LOper :=
   [⟨(some 4), (.mv (.av (.int .i64 0))), none⟩]
def r_slices_IndexFunc_int_int_1 : List LOper :=
   [⟨(some 6), (.mv (.tmp 0)), none⟩,
    ⟨(some 7), (.len false (.tmp 6)), none⟩,
    ⟨(some 8), (.mv (.av (.int .i64 0))), none⟩]
def r_slices_IndexFunc_int_int_2 : List LOper :=
   [⟨(some 9), (.bin .lss (.tmp 8) (.tmp 7)), none⟩]
def r_slices_IndexFunc_int_int_3 : List LOper :=
   [⟨(some 10), (.mv (.tmp 8)), none⟩,
    ⟨(some 5), (.mv (.tmp 10)), none⟩]
def r_slices_IndexFunc_int_int_4 : List LOper :=
   [⟨(some 11), (.mv (.tmp 1)), none⟩,
    ⟨(some 12), (.mv (.tmp 0)), none⟩,
    ⟨(some 13), (.mv (.tmp 5)), none⟩,
    ⟨(some 14), (.iaddr 1 (.tmp 12) (.tmp 13)), none⟩,
    ⟨(some 15), (.load false 1 (.tmp 14)), none⟩,
    ⟨(some 16), (.callv (.tmp 11) [(.tmp 15)]), none⟩]
def r_slices_IndexFunc_int_int_5 : List LOper :=
   [⟨(some 17), (.mv (.tmp 5)), none⟩,
    ⟨(some 4), (.mv (.tmp 17)), none⟩]
def r_slices_IndexFunc_int_int_6 : List LOper :=
   [⟨(some 18), (.bin .add (.tmp 8) (.av (.int .i64 1))), none⟩,
    ⟨(some 8), (.mv (.tmp 18)), none⟩]
def r_slices_IndexFunc_int_int_7 : List LOper :=
   [⟨(some 4), (.mv (.av (.int .i64 (-1)))), none⟩]
def c_slices_IndexFunc_int_int : LFun := ⟨19, (.seq (.region r_slices_IndexFunc_int_int_0)
  (.seq (.seq (.region r_slices_IndexFunc_int_int_1)
  (.block 0 (.loop (.seq (.region r_slices_IndexFunc_int_int_2)
  (.seq (.cond (.tmp 9) .skip
  (.exit 0))
  (.seq (.block 1 (.seq (.region r_slices_IndexFunc_int_int_3)
  (.seq (.region r_slices_IndexFunc_int_int_4)
  (.cond (.tmp 16) (.seq (.region r_slices_IndexFunc_int_int_5)
  .ret)
  .skip))))
  (.region r_slices_IndexFunc_int_int_6)))))))
  (.seq (.region r_slices_IndexFunc_int_int_7)
  .ret))), [(.tmp 4)]⟩
attribute [push_cast] r_slices_IndexFunc_int_int_0 r_slices_IndexFunc_int_int_1 r_slices_IndexFunc_int_int_2 r_slices_IndexFunc_int_int_3 r_slices_IndexFunc_int_int_4 r_slices_IndexFunc_int_int_5 r_slices_IndexFunc_int_int_6 r_slices_IndexFunc_int_int_7
theorem c_slices_IndexFunc_int_int_eq : lowF Tryz.prog (fun _ _ => 1) 89 = some c_slices_IndexFunc_int_int.raw := by kernel_rfl

end Go.Proofs.YtpednpndahgleaaGreatDoor.Av

set_option maxRecDepth 100000
set_option linter.unusedSimpArgs false
set_option linter.unusedVariables false
namespace Go.Proofs.YtpednpndahgleaaGreatDoor.Av
open Go

/-! castellan/plan.clean -/
def r_plan_clean_0 : List SOp :=
   [.op ⟨(some 2), (.mv (.av (.sl [] 0 (some 0)))), none⟩]
def r_plan_clean_1 : List SOp :=
   [.op ⟨(some 4), (.mv (.tmp 0)), none⟩,
    .op ⟨(some 5), (.call 87 [(.tmp 4)]), none⟩,
    .op ⟨(some 3), (.mv (.tmp 5)), none⟩]
def r_plan_clean_2 : List SOp :=
   [.op ⟨(some 6), (.mv (.tmp 3)), none⟩,
    .op ⟨(some 7), (.call 81 [(.tmp 6)]), none⟩]
def r_plan_clean_3 : List SOp :=
   [.op ⟨(some 8), (.mv (.tmp 3)), none⟩,
    .op ⟨(some 9), (.call 88 [(.tmp 8)]), none⟩,
    .op ⟨(some 2), (.mv (.tmp 9)), none⟩]
def c_plan_clean : LFun := ⟨10, (.seq (.sreg r_plan_clean_0 [])
  (.seq (.sreg r_plan_clean_1 [true, false, false])
  (.seq (.sreg r_plan_clean_2 [false, false])
  (.seq (.sreg r_plan_clean_3 [true, false, false])
  .ret)))), [(.tmp 2)]⟩
attribute [push_cast] r_plan_clean_0 r_plan_clean_1 r_plan_clean_2 r_plan_clean_3
theorem c_plan_clean_eq : lowF Tryz.prog (fun _ _ => 1) 54 = some c_plan_clean.raw := by kernel_rfl

/-! castellan/plan.Meet -/
def r_plan_Meet_0 : List SOp :=
   [.op ⟨(some 2), (.mv (.av (.sl [] 0 (some 0)))), none⟩]
def r_plan_Meet_1 : List SOp :=
   [.op ⟨(some 7), (.mv (.tmp 0)), none⟩,
    .op ⟨(some 8), (.len false (.tmp 7)), none⟩,
    .op ⟨(some 9), (.bin .eql (.tmp 8) (.av (.int .i64 0))), none⟩]
def r_plan_Meet_2 : List SOp :=
   [.op ⟨(some 2), (.mv (.av (.sl [] 0 (some 0)))), none⟩]
def r_plan_Meet_3 : List SOp :=
   [.op ⟨(some 10), (.mv (.tmp 0)), none⟩,
    .op ⟨(some 11), (.iaddr 1 (.tmp 10) (.av (.int .i64 0))), none⟩,
    .op ⟨(some 12), (.load false 1 (.tmp 11)), none⟩,
    .op ⟨(some 13), (.call 54 [(.tmp 12)]), none⟩,
    .op ⟨(some 3), (.mv (.tmp 13)), none⟩]
def r_plan_Meet_4 : List SOp :=
   [.op ⟨(some 14), (.mv (.tmp 0)), none⟩,
    .op ⟨(some 15), (.slV 1 (.tmp 14) (some (.av (.int .i64 1))) none none), none⟩,
    .op ⟨(some 16), (.len false (.tmp 15)), none⟩,
    .op ⟨(some 17), (.mv (.av (.int .i64 0))), none⟩]
def r_plan_Meet_5 : List SOp :=
   [.op ⟨(some 18), (.bin .lss (.tmp 17) (.tmp 16)), none⟩]
def r_plan_Meet_6 : List SOp :=
   [.op ⟨(some 19), (.iaddr 1 (.tmp 15) (.tmp 17)), none⟩,
    .op ⟨(some 20), (.load false 1 (.tmp 19)), none⟩,
    .op ⟨(some 5), (.mv (.tmp 20)), none⟩]
def r_plan_Meet_7 : List SOp :=
   [.op ⟨(some 21), (.mv (.tmp 5)), none⟩,
    .op ⟨(some 22), (.call 54 [(.tmp 21)]), none⟩,
    .op ⟨(some 6), (.alloc [(.sl [] 0 (some 0))]), none⟩,
    .op ⟨none, (.store 1 (.tmp 6) (.tmp 22)), none⟩]
def r_plan_Meet_8 : List SOp :=
   [.op ⟨(some 23), (.mv (.tmp 3)), none⟩,
    .op ⟨(some 24), (.mkfn 56 [(.tmp 6)]), none⟩,
    .op ⟨(some 25), (.call 55 [(.tmp 23), (.tmp 24)]), none⟩,
    .op ⟨(some 3), (.mv (.tmp 25)), none⟩]
def r_plan_Meet_9 : List SOp :=
   [.op ⟨(some 26), (.bin .add (.tmp 17) (.av (.int .i64 1))), none⟩,
    .op ⟨(some 17), (.mv (.tmp 26)), none⟩]
def r_plan_Meet_10 : List SOp :=
   [.op ⟨(some 27), (.mv (.tmp 3)), none⟩,
    .op ⟨(some 2), (.mv (.tmp 27)), none⟩]
def c_plan_Meet : LFun := ⟨28, (.seq (.sreg r_plan_Meet_0 [])
  (.seq (.seq (.sreg r_plan_Meet_1 [true, false, false])
  (.cond (.tmp 9) (.seq (.sreg r_plan_Meet_2 [])
  .ret)
  .skip))
  (.seq (.sreg r_plan_Meet_3 [true, false, false, false, false])
  (.seq (.seq (.sreg r_plan_Meet_4 [true, true, true, false])
  (.block 0 (.loop (.seq (.sreg r_plan_Meet_5 [])
  (.seq (.cond (.tmp 18) .skip
  (.exit 0))
  (.seq (.block 1 (.seq (.sreg r_plan_Meet_6 [true, false, false])
  (.seq (.sreg r_plan_Meet_7 [true, false, false])
  (.sreg r_plan_Meet_8 [true, false, false, false]))))
  (.sreg r_plan_Meet_9 [true, false])))))))
  (.seq (.sreg r_plan_Meet_10 [true, false])
  .ret))))), [(.tmp 2)]⟩
attribute [push_cast] r_plan_Meet_0 r_plan_Meet_1 r_plan_Meet_2 r_plan_Meet_3 r_plan_Meet_4 r_plan_Meet_5 r_plan_Meet_6 r_plan_Meet_7 r_plan_Meet_8 r_plan_Meet_9 r_plan_Meet_10
theorem c_plan_Meet_eq : lowF Tryz.prog (fun _ _ => 1) 22 = some c_plan_Meet.raw := by kernel_rfl

/-! castellan/plan.Meet$1 -/
def r_plan_Meet_1_0 : List SOp :=
   [.op ⟨(some 3), (.mv (.av (.bool false))), none⟩]
def r_plan_Meet_1_1 : List SOp :=
   [.op ⟨(some 7), (.load false 1 (.tmp 1)), none⟩,
    .op ⟨(some 8), (.mv (.tmp 0)), none⟩,
    .op ⟨(some 9), (.call 57 [(.tmp 7), (.tmp 8)]), none⟩,
    .op ⟨(some 6), (.mv (.tmp 9)), none⟩,
    .op ⟨(some 10), (.extract (.tmp 6) 0), none⟩,
    .op ⟨(some 11), (.extract (.tmp 6) 1), none⟩,
    .op ⟨(some 4), (.mv (.tmp 10)), none⟩,
    .op ⟨(some 5), (.mv (.tmp 11)), none⟩]
def r_plan_Meet_1_2 : List SOp :=
   [.op ⟨(some 12), (.mv (.tmp 5)), none⟩,
    .op ⟨(some 13), (.un .not (.tmp 12)), none⟩,
    .op ⟨(some 3), (.mv (.tmp 13)), none⟩]
def c_plan_Meet_1 : LFun := ⟨14, (.seq (.sreg r_plan_Meet_1_0 [])
  (.seq (.sreg r_plan_Meet_1_1 [true, false, false, false, false, false, false, false])
  (.seq (.sreg r_plan_Meet_1_2 [true, false, false])
  .ret))), [(.tmp 3)]⟩
attribute [push_cast] r_plan_Meet_1_0 r_plan_Meet_1_1 r_plan_Meet_1_2
theorem c_plan_Meet_1_eq : lowF Tryz.prog (fun _ _ => 1) 56 = some c_plan_Meet_1.raw := by kernel_rfl

/-! castellan/plan.Join -/
def r_plan_Join_0 : List SOp :=
   [.op ⟨(some 2), (.mv (.av (.sl [] 0 (some 0)))), none⟩]
def r_plan_Join_1 : List SOp :=
   [.op ⟨(some 3), (.mv (.tmp 0)), none⟩,
    .op ⟨(some 4), (.call 59 [(.tmp 3)]), none⟩,
    .op ⟨(some 5), (.call 54 [(.tmp 4)]), none⟩,
    .op ⟨(some 2), (.mv (.tmp 5)), none⟩]
def c_plan_Join : LFun := ⟨6, (.seq (.sreg r_plan_Join_0 [])
  (.seq (.sreg r_plan_Join_1 [true, false, false, false])
  .ret)), [(.tmp 2)]⟩
attribute [push_cast] r_plan_Join_0 r_plan_Join_1
theorem c_plan_Join_eq : lowF Tryz.prog (fun _ _ => 1) 24 = some c_plan_Join.raw := by kernel_rfl

/-! slices.Concat[[]int,int] -/
def r_slices_Concat_int_int_0 : List SOp :=
   [.op ⟨(some 2), (.mv (.av (.sl [] 0 (some 0)))), none⟩]
def r_slices_Concat_int_int_1 : List SOp :=
   [.op ⟨(some 3), (.mv (.av (.int .i64 0))), none⟩]
def r_slices_Concat_int_int_2 : List SOp :=
   [.op ⟨(some 9), (.mv (.tmp 0)), none⟩,
    .op ⟨(some 10), (.len false (.tmp 9)), none⟩,
    .op ⟨(some 11), (.mv (.av (.int .i64 0))), none⟩]
def r_slices_Concat_int_int_3 : List SOp :=
   [.op ⟨(some 12), (.bin .lss (.tmp 11) (.tmp 10)), none⟩]
def r_slices_Concat_int_int_4 : List SOp :=
   [.op ⟨(some 13), (.iaddr 1 (.tmp 9) (.tmp 11)), none⟩,
    .op ⟨(some 14), (.load false 1 (.tmp 13)), none⟩,
    .op ⟨(some 5), (.mv (.tmp 14)), none⟩]
def r_slices_Concat_int_int_5 : List SOp :=
   [.op ⟨(some 15), (.mv (.tmp 3)), none⟩,
    .op ⟨(some 16), (.mv (.tmp 5)), none⟩,
    .op ⟨(some 17), (.len false (.tmp 16)), none⟩,
    .op ⟨(some 18), (.bin .add (.tmp 15) (.tmp 17)), none⟩,
    .op ⟨(some 3), (.mv (.tmp 18)), none⟩]
def r_slices_Concat_int_int_6 : List SOp :=
   [.op ⟨(some 19), (.mv (.tmp 3)), none⟩,
    .op ⟨(some 20), (.bin .lss (.tmp 19) (.av (.int .i64 0))), none⟩]
def r_slices_Concat_int_int_7 : List SOp :=
   [.op ⟨(some 21), (.mkif 9 (.av (.str [108, 101, 110, 32, 111, 117, 116, 32, 111, 102, 32, 114, 97, 110, 103, 101]))), none⟩,
    .op ⟨none, .bad, none⟩]
def r_slices_Concat_int_int_8 : List SOp :=
   [.op ⟨(some 22), (.bin .add (.tmp 11) (.av (.int .i64 1))), none⟩,
    .op ⟨(some 11), (.mv (.tmp 22)), none⟩]
def r_slices_Concat_int_int_9 : List SOp :=
   [.op ⟨(some 23), (.mv (.tmp 3)), none⟩,
    .op ⟨(some 24), (.call 92 [(.av (.sl [] 0 (some 0))), (.tmp 23)]), none⟩,
    .op ⟨(some 6), (.mv (.tmp 24)), none⟩]
def r_slices_Concat_int_int_10 : List SOp :=
   [.op ⟨(some 25), (.mv (.tmp 0)), none⟩,
    .op ⟨(some 26), (.len false (.tmp 25)), none⟩,
    .op ⟨(some 27), (.mv (.av (.int .i64 0))), none⟩]
def r_slices_Concat_int_int_11 : List SOp :=
   [.op ⟨(some 28), (.bin .lss (.tmp 27) (.tmp 26)), none⟩]
def r_slices_Concat_int_int_12 : List SOp :=
   [.op ⟨(some 29), (.iaddr 1 (.tmp 25) (.tmp 27)), none⟩,
    .op ⟨(some 30), (.load false 1 (.tmp 29)), none⟩,
    .op ⟨(some 8), (.mv (.tmp 30)), none⟩]
def r_slices_Concat_int_int_13 : List SOp :=
   [.op ⟨(some 31), (.mv (.tmp 6)), none⟩,
    .op ⟨(some 32), (.mv (.tmp 8)), none⟩,
    .op ⟨(some 33), (.app 1 1 8 [(.int .i64 0)] (.tmp 31) (.tmp 32)), none⟩,
    .op ⟨(some 6), (.mv (.tmp 33)), none⟩]
def r_slices_Concat_int_int_14 : List SOp :=
   [.op ⟨(some 34), (.bin .add (.tmp 27) (.av (.int .i64 1))), none⟩,
    .op ⟨(some 27), (.mv (.tmp 34)), none⟩]
def r_slices_Concat_int_int_15 : List SOp :=
   [.op ⟨(some 35), (.mv (.tmp 6)), none⟩,
    .op ⟨(some 2), (.mv (.tmp 35)), none⟩]
def c_slices_Concat_int_int : LFun := ⟨36, (.seq (.sreg r_slices_Concat_int_int_0 [])
  (.seq (.sreg r_slices_Concat_int_int_1 [])
  (.seq (.seq (.sreg r_slices_Concat_int_int_2 [])
  (.block 0 (.loop (.seq (.sreg r_slices_Concat_int_int_3 [])
  (.seq (.cond (.tmp 12) .skip
  (.exit 0))
  (.seq (.block 1 (.seq (.sreg r_slices_Concat_int_int_4 [true, false, false])
  (.seq (.sreg r_slices_Concat_int_int_5 [true, false, false, false, false])
  (.seq (.sreg r_slices_Concat_int_int_6 [true, false])
  (.cond (.tmp 20) (.sreg r_slices_Concat_int_int_7 [false])
  .skip)))))
  (.sreg r_slices_Concat_int_int_8 [true, false])))))))
  (.seq (.sreg r_slices_Concat_int_int_9 [true, false, false])
  (.seq (.seq (.sreg r_slices_Concat_int_int_10 [])
  (.block 2 (.loop (.seq (.sreg r_slices_Concat_int_int_11 [])
  (.seq (.cond (.tmp 28) .skip
  (.exit 2))
  (.seq (.block 3 (.seq (.sreg r_slices_Concat_int_int_12 [true, false, false])
  (.sreg r_slices_Concat_int_int_13 [true, false, false, false])))
  (.sreg r_slices_Concat_int_int_14 [true, false])))))))
  (.seq (.sreg r_slices_Concat_int_int_15 [true, false])
  .ret)))))), [(.tmp 2)]⟩
attribute [push_cast] r_slices_Concat_int_int_0 r_slices_Concat_int_int_1 r_slices_Concat_int_int_2 r_slices_Concat_int_int_3 r_slices_Concat_int_int_4 r_slices_Concat_int_int_5 r_slices_Concat_int_int_6 r_slices_Concat_int_int_7 r_slices_Concat_int_int_8 r_slices_Concat_int_int_9 r_slices_Concat_int_int_10 r_slices_Concat_int_int_11 r_slices_Concat_int_int_12 r_slices_Concat_int_int_13 r_slices_Concat_int_int_14 r_slices_Concat_int_int_15
theorem c_slices_Concat_int_int_eq : lowF Tryz.prog (fun _ _ => 1) 59 = some c_slices_Concat_int_int.raw := by kernel_rfl

/-! castellan/castellanlaw20.PlanOwn -/
def r_law20_PlanOwn_0 : List SOp :=
   [.op ⟨(some 4), (.mv (.av (.bool false))), none⟩]
def r_law20_PlanOwn_1 : List SOp :=
   [.op ⟨(some 13), (.mv (.tmp 0)), none⟩,
    .op ⟨(some 14), (.len false (.tmp 13)), none⟩,
    .op ⟨(some 15), (.bin .gtr (.tmp 14) (.av (.int .i64 500))), none⟩,
    .op ⟨(some 16), (.mv (.tmp 15)), none⟩,
    .grp none 16 false
      [.op ⟨(some 17), (.mv (.tmp 1)), (some (16, false))⟩,
      .op ⟨(some 18), (.len false (.tmp 17)), (some (16, false))⟩,
      .op ⟨(some 19), (.bin .gtr (.tmp 18) (.av (.int .i64 500))), (some (16, false))⟩]
      20 (.tmp 19)]
def r_law20_PlanOwn_2 : List SOp :=
   [.op ⟨(some 21), (.call 20 []), none⟩,
    .op ⟨(some 4), (.mv (.tmp 21)), none⟩]
def r_law20_PlanOwn_3 : List SOp :=
   [.op ⟨(some 22), (.mv (.tmp 0)), none⟩,
    .op ⟨(some 23), (.app 1 1 8 [(.int .i64 0)] (.av (.sl [] 0 (some 0))) (.tmp 22)), none⟩,
    .op ⟨(some 24), (.mv (.tmp 1)), none⟩,
    .op ⟨(some 25), (.app 1 1 8 [(.int .i64 0)] (.av (.sl [] 0 (some 0))) (.tmp 24)), none⟩,
    .op ⟨(some 5), (.mv (.tmp 23)), none⟩,
    .op ⟨(some 6), (.mv (.tmp 25)), none⟩]
def r_law20_PlanOwn_4 : List SOp :=
   [.op ⟨(some 26), (.mv (.tmp 0)), none⟩,
    .op ⟨(some 27), (.mv (.tmp 1)), none⟩,
    .op ⟨(some 28), (.bslice false 1 2 [(.sl [] 0 (some 0)), (.sl [] 0 (some 0))] [(0, (1, (.tmp 26))), (1, (1, (.tmp 27)))]), none⟩,
    .op ⟨(some 29), (.call 22 [(.tmp 28)]), none⟩,
    .op ⟨(some 30), (.mv (.tmp 0)), none⟩,
    .op ⟨(some 31), (.mv (.tmp 1)), none⟩,
    .op ⟨(some 32), (.bslice false 1 2 [(.sl [] 0 (some 0)), (.sl [] 0 (some 0))] [(0, (1, (.tmp 30))), (1, (1, (.tmp 31)))]), none⟩,
    .op ⟨(some 33), (.call 24 [(.tmp 32)]), none⟩,
    .op ⟨(some 7), (.mv (.tmp 29)), none⟩,
    .op ⟨(some 8), (.mv (.tmp 33)), none⟩]
def r_law20_PlanOwn_5 : List SOp :=
   [.op ⟨(some 34), (.mv (.tmp 0)), none⟩,
    .op ⟨(some 35), (.bslice false 1 1 [(.sl [] 0 (some 0))] [(0, (1, (.tmp 34)))]), none⟩,
    .op ⟨(some 36), (.call 22 [(.tmp 35)]), none⟩,
    .op ⟨(some 9), (.mv (.tmp 36)), none⟩]
def r_law20_PlanOwn_6 : List SOp :=
   [.op ⟨(some 37), (.mv (.tmp 7)), none⟩,
    .op ⟨(some 38), (.mv (.tmp 8)), none⟩,
    .op ⟨(some 39), (.mv (.tmp 9)), none⟩,
    .op ⟨(some 40), (.bslice false 1 3 [(.sl [] 0 (some 0)), (.sl [] 0 (some 0)), (.sl [] 0 (some 0))] [(0, (1, (.tmp 37))), (1, (1, (.tmp 38))), (2, (1, (.tmp 39)))]), none⟩,
    .op ⟨(some 41), (.len false (.tmp 40)), none⟩,
    .op ⟨(some 42), (.mv (.av (.int .i64 0))), none⟩]
def r_law20_PlanOwn_7 : List SOp :=
   [.op ⟨(some 43), (.bin .lss (.tmp 42) (.tmp 41)), none⟩]
def r_law20_PlanOwn_8 : List SOp :=
   [.op ⟨(some 44), (.iaddr 1 (.tmp 40) (.tmp 42)), none⟩,
    .op ⟨(some 45), (.load false 1 (.tmp 44)), none⟩,
    .op ⟨(some 11), (.mv (.tmp 45)), none⟩]
def r_law20_PlanOwn_9 : List SOp :=
   [.op ⟨(some 46), (.mv (.tmp 11)), none⟩,
    .op ⟨(some 47), (.len false (.tmp 46)), none⟩,
    .op ⟨(some 48), (.mv (.av (.int .i64 0))), none⟩]
def r_law20_PlanOwn_10 : List SOp :=
   [.op ⟨(some 49), (.bin .lss (.tmp 48) (.tmp 47)), none⟩]
def r_law20_PlanOwn_11 : List SOp :=
   [.op ⟨(some 50), (.mv (.tmp 48)), none⟩,
    .op ⟨(some 12), (.mv (.tmp 50)), none⟩]
def r_law20_PlanOwn_12 : List SOp :=
   [.op ⟨(some 51), (.mv (.tmp 11)), none⟩,
    .op ⟨(some 52), (.mv (.tmp 12)), none⟩,
    .op ⟨(some 53), (.iaddr 1 (.tmp 51) (.tmp 52)), none⟩,
    .op ⟨none, (.store 1 (.tmp 53) (.av (.int .i64 77))), none⟩]
def r_law20_PlanOwn_13 : List SOp :=
   [.op ⟨(some 54), (.bin .add (.tmp 48) (.av (.int .i64 1))), none⟩,
    .op ⟨(some 48), (.mv (.tmp 54)), none⟩]
def r_law20_PlanOwn_14 : List SOp :=
   [.op ⟨(some 55), (.bin .add (.tmp 42) (.av (.int .i64 1))), none⟩,
    .op ⟨(some 42), (.mv (.tmp 55)), none⟩]
def r_law20_PlanOwn_15 : List SOp :=
   [.op ⟨(some 56), (.call 20 []), none⟩,
    .op ⟨(some 57), (.mv (.tmp 56)), none⟩,
    .grp none 57 true
      [.op ⟨(some 58), (.mv (.tmp 0)), (some (57, true))⟩,
      .op ⟨(some 59), (.mv (.tmp 5)), (some (57, true))⟩,
      .op ⟨(some 60), (.call 21 [(.tmp 58), (.tmp 59)]), (some (57, true))⟩]
      61 (.tmp 60),
    .op ⟨(some 62), (.mv (.tmp 61)), none⟩,
    .grp none 62 true
      [.op ⟨(some 63), (.mv (.tmp 1)), (some (62, true))⟩,
      .op ⟨(some 64), (.mv (.tmp 6)), (some (62, true))⟩,
      .op ⟨(some 65), (.call 21 [(.tmp 63), (.tmp 64)]), (some (62, true))⟩]
      66 (.tmp 65),
    .op ⟨(some 4), (.mv (.tmp 66)), none⟩]
def c_law20_PlanOwn : LFun := ⟨67, (.seq (.sreg r_law20_PlanOwn_0 [])
  (.seq (.seq (.sreg r_law20_PlanOwn_1 [true, false, false, false, false])
  (.cond (.tmp 20) (.seq (.sreg r_law20_PlanOwn_2 [true, false])
  .ret)
  .skip))
  (.seq (.sreg r_law20_PlanOwn_3 [true, true, false, false, false, false])
  (.seq (.sreg r_law20_PlanOwn_4 [true, true, false, false, false, false, false, false, false, false])
  (.seq (.sreg r_law20_PlanOwn_5 [true, false, false, false])
  (.seq (.seq (.sreg r_law20_PlanOwn_6 [true, true, true, false, false, false])
  (.block 0 (.loop (.seq (.sreg r_law20_PlanOwn_7 [])
  (.seq (.cond (.tmp 43) .skip
  (.exit 0))
  (.seq (.block 1 (.seq (.sreg r_law20_PlanOwn_8 [true, false, false])
  (.seq (.sreg r_law20_PlanOwn_9 [true, true, false])
  (.block 2 (.loop (.seq (.sreg r_law20_PlanOwn_10 [])
  (.seq (.cond (.tmp 49) .skip
  (.exit 2))
  (.seq (.block 3 (.seq (.sreg r_law20_PlanOwn_11 [true, false])
  (.sreg r_law20_PlanOwn_12 [false, false, false])))
  (.sreg r_law20_PlanOwn_13 [true, false])))))))))
  (.sreg r_law20_PlanOwn_14 [true, false])))))))
  (.seq (.sreg r_law20_PlanOwn_15 [true, false, false, false, false, false])
  .ret))))))), [(.tmp 4)]⟩
attribute [push_cast] r_law20_PlanOwn_0 r_law20_PlanOwn_1 r_law20_PlanOwn_2 r_law20_PlanOwn_3 r_law20_PlanOwn_4 r_law20_PlanOwn_5 r_law20_PlanOwn_6 r_law20_PlanOwn_7 r_law20_PlanOwn_8 r_law20_PlanOwn_9 r_law20_PlanOwn_10 r_law20_PlanOwn_11 r_law20_PlanOwn_12 r_law20_PlanOwn_13 r_law20_PlanOwn_14 r_law20_PlanOwn_15
theorem c_law20_PlanOwn_eq : lowF Tryz.prog (fun _ _ => 1) 6 = some c_law20_PlanOwn.raw := by kernel_rfl

/-! castellan/castellanlaw19.Same -/
def r_law19_Same_0 : List SOp :=
   [.op ⟨(some 4), (.mv (.av (.bool false))), none⟩]
def r_law19_Same_1 : List SOp :=
   [.op ⟨(some 6), (.mv (.tmp 0)), none⟩,
    .op ⟨(some 7), (.len false (.tmp 6)), none⟩,
    .op ⟨(some 8), (.mv (.tmp 1)), none⟩,
    .op ⟨(some 9), (.len false (.tmp 8)), none⟩,
    .op ⟨(some 10), (.bin .neq (.tmp 7) (.tmp 9)), none⟩]
def r_law19_Same_2 : List SOp :=
   [.op ⟨(some 4), (.mv (.av (.bool false))), none⟩]
def r_law19_Same_3 : List SOp :=
   [.op ⟨(some 11), (.mv (.tmp 0)), none⟩,
    .op ⟨(some 12), (.len false (.tmp 11)), none⟩,
    .op ⟨(some 13), (.mv (.av (.int .i64 0))), none⟩]
def r_law19_Same_4 : List SOp :=
   [.op ⟨(some 14), (.bin .lss (.tmp 13) (.tmp 12)), none⟩]
def r_law19_Same_5 : List SOp :=
   [.op ⟨(some 15), (.mv (.tmp 13)), none⟩,
    .op ⟨(some 5), (.mv (.tmp 15)), none⟩]
def r_law19_Same_6 : List SOp :=
   [.op ⟨(some 16), (.mv (.tmp 0)), none⟩,
    .op ⟨(some 17), (.mv (.tmp 5)), none⟩,
    .op ⟨(some 18), (.iaddr 1 (.tmp 16) (.tmp 17)), none⟩,
    .op ⟨(some 19), (.load false 1 (.tmp 18)), none⟩,
    .op ⟨(some 20), (.mv (.tmp 1)), none⟩,
    .op ⟨(some 21), (.mv (.tmp 5)), none⟩,
    .op ⟨(some 22), (.iaddr 1 (.tmp 20) (.tmp 21)), none⟩,
    .op ⟨(some 23), (.load false 1 (.tmp 22)), none⟩,
    .op ⟨(some 24), (.bin .neq (.tmp 19) (.tmp 23)), none⟩]
def r_law19_Same_7 : List SOp :=
   [.op ⟨(some 4), (.mv (.av (.bool false))), none⟩]
def r_law19_Same_8 : List SOp :=
   [.op ⟨(some 25), (.bin .add (.tmp 13) (.av (.int .i64 1))), none⟩,
    .op ⟨(some 13), (.mv (.tmp 25)), none⟩]
def r_law19_Same_9 : List SOp :=
   [.op ⟨(some 4), (.mv (.av (.bool true))), none⟩]
def c_law19_Same : LFun := ⟨26, (.seq (.sreg r_law19_Same_0 [])
  (.seq (.seq (.sreg r_law19_Same_1 [true, false, false, false, false])
  (.cond (.tmp 10) (.seq (.sreg r_law19_Same_2 [])
  .ret)
  .skip))
  (.seq (.seq (.sreg r_law19_Same_3 [true, true, false])
  (.block 0 (.loop (.seq (.sreg r_law19_Same_4 [])
  (.seq (.cond (.tmp 14) .skip
  (.exit 0))
  (.seq (.block 1 (.seq (.sreg r_law19_Same_5 [true, false])
  (.seq (.sdreg r_law19_Same_6 [.pure, .pure, (.read 0 0), (.read 0 0), .pure, .pure, (.read 0 0), (.read 0 0)] [true, false, false, false, false, false, false, false, false])
  (.cond (.tmp 24) (.seq (.sreg r_law19_Same_7 [])
  .ret)
  .skip))))
  (.sreg r_law19_Same_8 [true, false])))))))
  (.seq (.sreg r_law19_Same_9 [])
  .ret)))), [(.tmp 4)]⟩
attribute [push_cast] r_law19_Same_0 r_law19_Same_1 r_law19_Same_2 r_law19_Same_3 r_law19_Same_4 r_law19_Same_5 r_law19_Same_6 r_law19_Same_7 r_law19_Same_8 r_law19_Same_9
theorem c_law19_Same_eq : lowF Tryz.prog (fun _ _ => 1) 21 = some c_law19_Same.raw := by kernel_rfl

end Go.Proofs.YtpednpndahgleaaGreatDoor.Av

set_option maxRecDepth 100000
set_option linter.unusedSimpArgs false
set_option linter.unusedVariables false
namespace Go.Proofs.YtpednpndahgleaaGreatDoor.Av
open Go

/-! castellan/castellanref20.in -/
def r_ref20_in_0 : List SOp :=
   [.op ⟨(some 4), (.mv (.av (.bool false))), none⟩]
def r_ref20_in_1 : List SOp :=
   [.op ⟨(some 7), (.mv (.tmp 0)), none⟩,
    .op ⟨(some 8), (.len false (.tmp 7)), none⟩,
    .op ⟨(some 9), (.mv (.av (.int .i64 0))), none⟩]
def r_ref20_in_2 : List SOp :=
   [.op ⟨(some 10), (.bin .lss (.tmp 9) (.tmp 8)), none⟩]
def r_ref20_in_3 : List SOp :=
   [.op ⟨(some 11), (.iaddr 1 (.tmp 7) (.tmp 9)), none⟩,
    .op ⟨(some 12), (.load false 1 (.tmp 11)), none⟩,
    .op ⟨(some 6), (.mv (.tmp 12)), none⟩]
def r_ref20_in_4 : List SOp :=
   [.op ⟨(some 13), (.mv (.tmp 6)), none⟩,
    .op ⟨(some 14), (.mv (.tmp 1)), none⟩,
    .op ⟨(some 15), (.bin .eql (.tmp 13) (.tmp 14)), none⟩]
def r_ref20_in_5 : List SOp :=
   [.op ⟨(some 4), (.mv (.av (.bool true))), none⟩]
def r_ref20_in_6 : List SOp :=
   [.op ⟨(some 16), (.bin .add (.tmp 9) (.av (.int .i64 1))), none⟩,
    .op ⟨(some 9), (.mv (.tmp 16)), none⟩]
def r_ref20_in_7 : List SOp :=
   [.op ⟨(some 4), (.mv (.av (.bool false))), none⟩]
def c_ref20_in : LFun := ⟨17, (.seq (.sreg r_ref20_in_0 [])
  (.seq (.seq (.sreg r_ref20_in_1 [])
  (.block 0 (.loop (.seq (.sreg r_ref20_in_2 [])
  (.seq (.cond (.tmp 10) .skip
  (.exit 0))
  (.seq (.block 1 (.seq (.sreg r_ref20_in_3 [true, false, false])
  (.seq (.sreg r_ref20_in_4 [true, false, false])
  (.cond (.tmp 15) (.seq (.sreg r_ref20_in_5 [])
  .ret)
  .skip))))
  (.sreg r_ref20_in_6 [true, false])))))))
  (.seq (.sreg r_ref20_in_7 [])
  .ret))), [(.tmp 4)]⟩
attribute [push_cast] r_ref20_in_0 r_ref20_in_1 r_ref20_in_2 r_ref20_in_3 r_ref20_in_4 r_ref20_in_5 r_ref20_in_6 r_ref20_in_7
theorem c_ref20_in_eq : lowF Tryz.prog (fun _ _ => 1) 58 = some c_ref20_in.raw := by kernel_rfl

/-! castellan/castellanref20.put -/
def r_ref20_put_0 : List SOp :=
   [.op ⟨(some 4), (.mv (.av (.sl [] 0 (some 0)))), none⟩]
def r_ref20_put_1 : List SOp :=
   [.op ⟨(some 5), (.mv (.av (.sl [] 0 (some 0)))), none⟩]
def r_ref20_put_2 : List SOp :=
   [.op ⟨(some 6), (.mv (.av (.bool false))), none⟩]
def r_ref20_put_3 : List SOp :=
   [.op ⟨(some 9), (.mv (.tmp 0)), none⟩,
    .op ⟨(some 10), (.len false (.tmp 9)), none⟩,
    .op ⟨(some 11), (.mv (.av (.int .i64 0))), none⟩]
def r_ref20_put_4 : List SOp :=
   [.op ⟨(some 12), (.bin .lss (.tmp 11) (.tmp 10)), none⟩]
def r_ref20_put_5 : List SOp :=
   [.op ⟨(some 13), (.iaddr 1 (.tmp 9) (.tmp 11)), none⟩,
    .op ⟨(some 14), (.load false 1 (.tmp 13)), none⟩,
    .op ⟨(some 8), (.mv (.tmp 14)), none⟩]
def r_ref20_put_6 : List SOp :=
   [.op ⟨(some 15), (.mv (.tmp 8)), none⟩,
    .op ⟨(some 16), (.mv (.tmp 1)), none⟩,
    .op ⟨(some 17), (.bin .eql (.tmp 15) (.tmp 16)), none⟩]
def r_ref20_put_7 : List SOp :=
   [.op ⟨(some 18), (.mv (.tmp 0)), none⟩,
    .op ⟨(some 4), (.mv (.tmp 18)), none⟩]
def r_ref20_put_8 : List SOp :=
   [.op ⟨(some 19), (.mv (.tmp 6)), none⟩,
    .op ⟨(some 20), (.un .not (.tmp 19)), none⟩,
    .op ⟨(some 21), (.mv (.tmp 20)), none⟩,
    .grp none 21 true
      [.op ⟨(some 22), (.mv (.tmp 1)), (some (21, true))⟩,
      .op ⟨(some 23), (.mv (.tmp 8)), (some (21, true))⟩,
      .op ⟨(some 24), (.bin .lss (.tmp 22) (.tmp 23)), (some (21, true))⟩]
      25 (.tmp 24)]
def r_ref20_put_9 : List SOp :=
   [.op ⟨(some 26), (.mv (.tmp 5)), none⟩,
    .op ⟨(some 27), (.mv (.tmp 1)), none⟩,
    .op ⟨(some 28), (.bslice false 1 1 [(.int .i64 0)] [(0, (1, (.tmp 27)))]), none⟩,
    .op ⟨(some 29), (.app 1 1 8 [(.int .i64 0)] (.tmp 26) (.tmp 28)), none⟩,
    .op ⟨(some 5), (.mv (.tmp 29)), none⟩]
def r_ref20_put_10 : List SOp :=
   [.op ⟨(some 6), (.mv (.av (.bool true))), none⟩]
def r_ref20_put_11 : List SOp :=
   [.op ⟨(some 30), (.mv (.tmp 5)), none⟩,
    .op ⟨(some 31), (.mv (.tmp 8)), none⟩,
    .op ⟨(some 32), (.bslice false 1 1 [(.int .i64 0)] [(0, (1, (.tmp 31)))]), none⟩,
    .op ⟨(some 33), (.app 1 1 8 [(.int .i64 0)] (.tmp 30) (.tmp 32)), none⟩,
    .op ⟨(some 5), (.mv (.tmp 33)), none⟩]
def r_ref20_put_12 : List SOp :=
   [.op ⟨(some 34), (.bin .add (.tmp 11) (.av (.int .i64 1))), none⟩,
    .op ⟨(some 11), (.mv (.tmp 34)), none⟩]
def r_ref20_put_13 : List SOp :=
   [.op ⟨(some 35), (.mv (.tmp 6)), none⟩,
    .op ⟨(some 36), (.un .not (.tmp 35)), none⟩]
def r_ref20_put_14 : List SOp :=
   [.op ⟨(some 37), (.mv (.tmp 5)), none⟩,
    .op ⟨(some 38), (.mv (.tmp 1)), none⟩,
    .op ⟨(some 39), (.bslice false 1 1 [(.int .i64 0)] [(0, (1, (.tmp 38)))]), none⟩,
    .op ⟨(some 40), (.app 1 1 8 [(.int .i64 0)] (.tmp 37) (.tmp 39)), none⟩,
    .op ⟨(some 5), (.mv (.tmp 40)), none⟩]
def r_ref20_put_15 : List SOp :=
   [.op ⟨(some 41), (.mv (.tmp 5)), none⟩,
    .op ⟨(some 4), (.mv (.tmp 41)), none⟩]
def c_ref20_put : LFun := ⟨42, (.seq (.sreg r_ref20_put_0 [])
  (.seq (.sreg r_ref20_put_1 [])
  (.seq (.sreg r_ref20_put_2 [])
  (.seq (.seq (.sreg r_ref20_put_3 [])
  (.block 0 (.loop (.seq (.sreg r_ref20_put_4 [])
  (.seq (.cond (.tmp 12) .skip
  (.exit 0))
  (.seq (.block 1 (.seq (.sreg r_ref20_put_5 [true, false, false])
  (.seq (.seq (.sreg r_ref20_put_6 [true, false, false])
  (.cond (.tmp 17) (.seq (.sreg r_ref20_put_7 [true, false])
  .ret)
  .skip))
  (.seq (.seq (.sreg r_ref20_put_8 [true, false, false, false])
  (.cond (.tmp 25) (.seq (.sreg r_ref20_put_9 [true, false, false, false, false])
  (.sreg r_ref20_put_10 []))
  .skip))
  (.sreg r_ref20_put_11 [true, false, false, false, false])))))
  (.sreg r_ref20_put_12 [true, false])))))))
  (.seq (.seq (.sreg r_ref20_put_13 [true, false])
  (.cond (.tmp 36) (.sreg r_ref20_put_14 [true, false, false, false, false])
  .skip))
  (.seq (.sreg r_ref20_put_15 [true, false])
  .ret)))))), [(.tmp 4)]⟩
attribute [push_cast] r_ref20_put_0 r_ref20_put_1 r_ref20_put_2 r_ref20_put_3 r_ref20_put_4 r_ref20_put_5 r_ref20_put_6 r_ref20_put_7 r_ref20_put_8 r_ref20_put_9 r_ref20_put_10 r_ref20_put_11 r_ref20_put_12 r_ref20_put_13 r_ref20_put_14 r_ref20_put_15
theorem c_ref20_put_eq : lowF Tryz.prog (fun _ _ => 1) 60 = some c_ref20_put.raw := by kernel_rfl

/-! castellan/castellanref20.Join -/
def r_ref20_Join_0 : List SOp :=
   [.op ⟨(some 2), (.mv (.av (.sl [] 0 (some 0)))), none⟩]
def r_ref20_Join_1 : List SOp :=
   [.op ⟨(some 3), (.mv (.av (.sl [] 0 (some 0)))), none⟩]
def r_ref20_Join_2 : List SOp :=
   [.op ⟨(some 8), (.mv (.tmp 0)), none⟩,
    .op ⟨(some 9), (.len false (.tmp 8)), none⟩,
    .op ⟨(some 10), (.mv (.av (.int .i64 0))), none⟩]
def r_ref20_Join_3 : List SOp :=
   [.op ⟨(some 11), (.bin .lss (.tmp 10) (.tmp 9)), none⟩]
def r_ref20_Join_4 : List SOp :=
   [.op ⟨(some 12), (.iaddr 1 (.tmp 8) (.tmp 10)), none⟩,
    .op ⟨(some 13), (.load false 1 (.tmp 12)), none⟩,
    .op ⟨(some 5), (.mv (.tmp 13)), none⟩]
def r_ref20_Join_5 : List SOp :=
   [.op ⟨(some 14), (.mv (.tmp 5)), none⟩,
    .op ⟨(some 15), (.len false (.tmp 14)), none⟩,
    .op ⟨(some 16), (.mv (.av (.int .i64 0))), none⟩]
def r_ref20_Join_6 : List SOp :=
   [.op ⟨(some 17), (.bin .lss (.tmp 16) (.tmp 15)), none⟩]
def r_ref20_Join_7 : List SOp :=
   [.op ⟨(some 18), (.iaddr 1 (.tmp 14) (.tmp 16)), none⟩,
    .op ⟨(some 19), (.load false 1 (.tmp 18)), none⟩,
    .op ⟨(some 7), (.mv (.tmp 19)), none⟩]
def r_ref20_Join_8 : List SOp :=
   [.op ⟨(some 20), (.mv (.tmp 3)), none⟩,
    .op ⟨(some 21), (.mv (.tmp 7)), none⟩,
    .op ⟨(some 22), (.call 60 [(.tmp 20), (.tmp 21)]), none⟩,
    .op ⟨(some 3), (.mv (.tmp 22)), none⟩]
def r_ref20_Join_9 : List SOp :=
   [.op ⟨(some 23), (.bin .add (.tmp 16) (.av (.int .i64 1))), none⟩,
    .op ⟨(some 16), (.mv (.tmp 23)), none⟩]
def r_ref20_Join_10 : List SOp :=
   [.op ⟨(some 24), (.bin .add (.tmp 10) (.av (.int .i64 1))), none⟩,
    .op ⟨(some 10), (.mv (.tmp 24)), none⟩]
def r_ref20_Join_11 : List SOp :=
   [.op ⟨(some 25), (.mv (.tmp 3)), none⟩,
    .op ⟨(some 2), (.mv (.tmp 25)), none⟩]
def c_ref20_Join : LFun := ⟨26, (.seq (.sreg r_ref20_Join_0 [])
  (.seq (.sreg r_ref20_Join_1 [])
  (.seq (.seq (.sreg r_ref20_Join_2 [])
  (.block 0 (.loop (.seq (.sreg r_ref20_Join_3 [])
  (.seq (.cond (.tmp 11) .skip
  (.exit 0))
  (.seq (.block 1 (.seq (.sreg r_ref20_Join_4 [true, false, false])
  (.seq (.sreg r_ref20_Join_5 [])
  (.block 2 (.loop (.seq (.sreg r_ref20_Join_6 [])
  (.seq (.cond (.tmp 17) .skip
  (.exit 2))
  (.seq (.block 3 (.seq (.sreg r_ref20_Join_7 [true, false, false])
  (.sreg r_ref20_Join_8 [true, false, false, false])))
  (.sreg r_ref20_Join_9 [true, false])))))))))
  (.sreg r_ref20_Join_10 [true, false])))))))
  (.seq (.sreg r_ref20_Join_11 [true, false])
  .ret)))), [(.tmp 2)]⟩
attribute [push_cast] r_ref20_Join_0 r_ref20_Join_1 r_ref20_Join_2 r_ref20_Join_3 r_ref20_Join_4 r_ref20_Join_5 r_ref20_Join_6 r_ref20_Join_7 r_ref20_Join_8 r_ref20_Join_9 r_ref20_Join_10 r_ref20_Join_11
theorem c_ref20_Join_eq : lowF Tryz.prog (fun _ _ => 1) 25 = some c_ref20_Join.raw := by kernel_rfl

/-! castellan/castellanref20.Meet -/
def r_ref20_Meet_0 : List SOp :=
   [.op ⟨(some 2), (.mv (.av (.sl [] 0 (some 0)))), none⟩]
def r_ref20_Meet_1 : List SOp :=
   [.op ⟨(some 3), (.mv (.av (.sl [] 0 (some 0)))), none⟩]
def r_ref20_Meet_2 : List SOp :=
   [.op ⟨(some 9), (.mv (.tmp 0)), none⟩,
    .op ⟨(some 10), (.call 25 [(.tmp 9)]), none⟩,
    .op ⟨(some 11), (.len false (.tmp 10)), none⟩,
    .op ⟨(some 12), (.mv (.av (.int .i64 0))), none⟩]
def r_ref20_Meet_3 : List SOp :=
   [.op ⟨(some 13), (.bin .lss (.tmp 12) (.tmp 11)), none⟩]
def r_ref20_Meet_4 : List SOp :=
   [.op ⟨(some 14), (.iaddr 1 (.tmp 10) (.tmp 12)), none⟩,
    .op ⟨(some 15), (.load false 1 (.tmp 14)), none⟩,
    .op ⟨(some 5), (.mv (.tmp 15)), none⟩]
def r_ref20_Meet_5 : List SOp :=
   [.op ⟨(some 6), (.mv (.av (.bool true))), none⟩]
def r_ref20_Meet_6 : List SOp :=
   [.op ⟨(some 16), (.mv (.tmp 0)), none⟩,
    .op ⟨(some 17), (.len false (.tmp 16)), none⟩,
    .op ⟨(some 18), (.mv (.av (.int .i64 0))), none⟩]
def r_ref20_Meet_7 : List SOp :=
   [.op ⟨(some 19), (.bin .lss (.tmp 18) (.tmp 17)), none⟩]
def r_ref20_Meet_8 : List SOp :=
   [.op ⟨(some 20), (.iaddr 1 (.tmp 16) (.tmp 18)), none⟩,
    .op ⟨(some 21), (.load false 1 (.tmp 20)), none⟩,
    .op ⟨(some 8), (.mv (.tmp 21)), none⟩]
def r_ref20_Meet_9 : List SOp :=
   [.op ⟨(some 22), (.mv (.tmp 6)), none⟩,
    .op ⟨(some 23), (.mv (.tmp 22)), none⟩,
    .grp none 23 true
      [.op ⟨(some 24), (.mv (.tmp 8)), (some (23, true))⟩,
      .op ⟨(some 25), (.mv (.tmp 5)), (some (23, true))⟩,
      .op ⟨(some 26), (.call 58 [(.tmp 24), (.tmp 25)]), (some (23, true))⟩]
      27 (.tmp 26),
    .op ⟨(some 6), (.mv (.tmp 27)), none⟩]
def r_ref20_Meet_10 : List SOp :=
   [.op ⟨(some 28), (.bin .add (.tmp 18) (.av (.int .i64 1))), none⟩,
    .op ⟨(some 18), (.mv (.tmp 28)), none⟩]
def r_ref20_Meet_11 : List SOp :=
   [.op ⟨(some 29), (.mv (.tmp 6)), none⟩]
def r_ref20_Meet_12 : List SOp :=
   [.op ⟨(some 30), (.mv (.tmp 3)), none⟩,
    .op ⟨(some 31), (.mv (.tmp 5)), none⟩,
    .op ⟨(some 32), (.bslice false 1 1 [(.int .i64 0)] [(0, (1, (.tmp 31)))]), none⟩,
    .op ⟨(some 33), (.app 1 1 8 [(.int .i64 0)] (.tmp 30) (.tmp 32)), none⟩,
    .op ⟨(some 3), (.mv (.tmp 33)), none⟩]
def r_ref20_Meet_13 : List SOp :=
   [.op ⟨(some 34), (.bin .add (.tmp 12) (.av (.int .i64 1))), none⟩,
    .op ⟨(some 12), (.mv (.tmp 34)), none⟩]
def r_ref20_Meet_14 : List SOp :=
   [.op ⟨(some 35), (.mv (.tmp 3)), none⟩,
    .op ⟨(some 2), (.mv (.tmp 35)), none⟩]
def c_ref20_Meet : LFun := ⟨36, (.seq (.sreg r_ref20_Meet_0 [])
  (.seq (.sreg r_ref20_Meet_1 [])
  (.seq (.seq (.sreg r_ref20_Meet_2 [true, true, true, false])
  (.block 0 (.loop (.seq (.sreg r_ref20_Meet_3 [])
  (.seq (.cond (.tmp 13) .skip
  (.exit 0))
  (.seq (.block 1 (.seq (.sreg r_ref20_Meet_4 [true, false, false])
  (.seq (.sreg r_ref20_Meet_5 [])
  (.seq (.seq (.sreg r_ref20_Meet_6 [])
  (.block 2 (.loop (.seq (.sreg r_ref20_Meet_7 [])
  (.seq (.cond (.tmp 19) .skip
  (.exit 2))
  (.seq (.block 3 (.seq (.sreg r_ref20_Meet_8 [true, false, false])
  (.sreg r_ref20_Meet_9 [true, false, false, false])))
  (.sreg r_ref20_Meet_10 [true, false])))))))
  (.seq (.sreg r_ref20_Meet_11 [])
  (.cond (.tmp 29) (.sreg r_ref20_Meet_12 [true, false, false, false, false])
  .skip))))))
  (.sreg r_ref20_Meet_13 [true, false])))))))
  (.seq (.sreg r_ref20_Meet_14 [true, false])
  .ret)))), [(.tmp 2)]⟩
attribute [push_cast] r_ref20_Meet_0 r_ref20_Meet_1 r_ref20_Meet_2 r_ref20_Meet_3 r_ref20_Meet_4 r_ref20_Meet_5 r_ref20_Meet_6 r_ref20_Meet_7 r_ref20_Meet_8 r_ref20_Meet_9 r_ref20_Meet_10 r_ref20_Meet_11 r_ref20_Meet_12 r_ref20_Meet_13 r_ref20_Meet_14
theorem c_ref20_Meet_eq : lowF Tryz.prog (fun _ _ => 1) 23 = some c_ref20_Meet.raw := by kernel_rfl

/-! castellan/castellanlaw20.PlanLists -/
def r_law20_PlanLists_0 : List SOp :=
   [.op ⟨(some 2), (.mv (.av (.bool false))), none⟩]
def r_law20_PlanLists_1 : List SOp :=
   [.op ⟨(some 5), (.mv (.tmp 0)), none⟩,
    .op ⟨(some 6), (.len false (.tmp 5)), none⟩,
    .op ⟨(some 7), (.mv (.av (.int .i64 0))), none⟩]
def r_law20_PlanLists_2 : List SOp :=
   [.op ⟨(some 8), (.bin .lss (.tmp 7) (.tmp 6)), none⟩]
def r_law20_PlanLists_3 : List SOp :=
   [.op ⟨(some 9), (.iaddr 1 (.tmp 5) (.tmp 7)), none⟩,
    .op ⟨(some 10), (.load false 1 (.tmp 9)), none⟩,
    .op ⟨(some 4), (.mv (.tmp 10)), none⟩]
def r_law20_PlanLists_4 : List SOp :=
   [.op ⟨(some 11), (.mv (.tmp 0)), none⟩,
    .op ⟨(some 12), (.len false (.tmp 11)), none⟩,
    .op ⟨(some 13), (.bin .gtr (.tmp 12) (.av (.int .i64 20))), none⟩,
    .op ⟨(some 14), (.mv (.tmp 13)), none⟩,
    .grp none 14 false
      [.op ⟨(some 15), (.mv (.tmp 4)), (some (14, false))⟩,
      .op ⟨(some 16), (.len false (.tmp 15)), (some (14, false))⟩,
      .op ⟨(some 17), (.bin .gtr (.tmp 16) (.av (.int .i64 60))), (some (14, false))⟩]
      18 (.tmp 17)]
def r_law20_PlanLists_5 : List SOp :=
   [.op ⟨(some 19), (.call 20 []), none⟩,
    .op ⟨(some 2), (.mv (.tmp 19)), none⟩]
def r_law20_PlanLists_6 : List SOp :=
   [.op ⟨(some 20), (.bin .add (.tmp 7) (.av (.int .i64 1))), none⟩,
    .op ⟨(some 7), (.mv (.tmp 20)), none⟩]
def r_law20_PlanLists_7 : List SOp :=
   [.op ⟨(some 21), (.call 20 []), none⟩,
    .op ⟨(some 22), (.mv (.tmp 21)), none⟩,
    .grp none 22 true
      [.op ⟨(some 23), (.mv (.tmp 0)), (some (22, true))⟩,
      .op ⟨(some 24), (.call 22 [(.tmp 23)]), (some (22, true))⟩,
      .op ⟨(some 25), (.mv (.tmp 0)), (some (22, true))⟩,
      .op ⟨(some 26), (.call 23 [(.tmp 25)]), (some (22, true))⟩,
      .op ⟨(some 27), (.call 21 [(.tmp 24), (.tmp 26)]), (some (22, true))⟩]
      28 (.tmp 27),
    .op ⟨(some 29), (.mv (.tmp 28)), none⟩,
    .grp none 29 true
      [.op ⟨(some 30), (.mv (.tmp 0)), (some (29, true))⟩,
      .op ⟨(some 31), (.call 24 [(.tmp 30)]), (some (29, true))⟩,
      .op ⟨(some 32), (.mv (.tmp 0)), (some (29, true))⟩,
      .op ⟨(some 33), (.call 25 [(.tmp 32)]), (some (29, true))⟩,
      .op ⟨(some 34), (.call 21 [(.tmp 31), (.tmp 33)]), (some (29, true))⟩]
      35 (.tmp 34),
    .op ⟨(some 2), (.mv (.tmp 35)), none⟩]
def c_law20_PlanLists : LFun := ⟨36, (.seq (.sreg r_law20_PlanLists_0 [])
  (.seq (.seq (.sreg r_law20_PlanLists_1 [])
  (.block 0 (.loop (.seq (.sreg r_law20_PlanLists_2 [])
  (.seq (.cond (.tmp 8) .skip
  (.exit 0))
  (.seq (.block 1 (.seq (.sreg r_law20_PlanLists_3 [true, false, false])
  (.seq (.sreg r_law20_PlanLists_4 [true, false, false, false, false])
  (.cond (.tmp 18) (.seq (.sreg r_law20_PlanLists_5 [true, false])
  .ret)
  .skip))))
  (.sreg r_law20_PlanLists_6 [true, false])))))))
  (.seq (.sreg r_law20_PlanLists_7 [true, false, false, false, false, false])
  .ret))), [(.tmp 2)]⟩
attribute [push_cast] r_law20_PlanLists_0 r_law20_PlanLists_1 r_law20_PlanLists_2 r_law20_PlanLists_3 r_law20_PlanLists_4 r_law20_PlanLists_5 r_law20_PlanLists_6 r_law20_PlanLists_7
theorem c_law20_PlanLists_eq : lowF Tryz.prog (fun _ _ => 1) 5 = some c_law20_PlanLists.raw := by kernel_rfl

end Go.Proofs.YtpednpndahgleaaGreatDoor.Av
