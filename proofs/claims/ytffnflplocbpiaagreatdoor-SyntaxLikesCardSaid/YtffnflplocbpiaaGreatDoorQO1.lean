/- Bodies of functions, lowered: printed by a program (wip/tools/lower.py); each is held against the program by the kernel. -/
import Derived.Test.YtffnflplocbpiaaGreatDoorQP4
import Derived.Test.YtffnflplocbpiaaGreatDoorRows
import Derived.KernelRfl
import Derived.Test.YtffnflplocbpiaaGreatDoorQP5
set_option maxRecDepth 100000
set_option linter.unusedSimpArgs false
set_option linter.unusedVariables false
namespace Go.Proofs.YtffnflplocbpiaaGreatDoor.Av
open Go

/-! castellan/octet.Fold -/
def r_octet_Fold_0 : List SOp :=
   [.op ⟨(some 2), (.mv (.av (.str []))), none⟩]
def r_octet_Fold_1 : List SOp :=
   [.op ⟨(some 6), (.mv (.tmp 0)), none⟩,
    .op ⟨(some 7), (.s2bO (.tmp 6)), none⟩,
    .op ⟨(some 3), (.mv (.tmp 7)), none⟩]
def r_octet_Fold_2 : List SOp :=
   [.op ⟨(some 8), (.mv (.tmp 3)), none⟩,
    .op ⟨(some 9), (.len false (.tmp 8)), none⟩,
    .op ⟨(some 10), (.mv (.av (.int .i64 0))), none⟩]
def r_octet_Fold_3 : List SOp :=
   [.op ⟨(some 11), (.bin .lss (.tmp 10) (.tmp 9)), none⟩]
def r_octet_Fold_4 : List SOp :=
   [.op ⟨(some 12), (.mv (.tmp 10)), none⟩,
    .op ⟨(some 13), (.iaddr 1 (.tmp 8) (.tmp 10)), none⟩,
    .op ⟨(some 14), (.load false 1 (.tmp 13)), none⟩,
    .op ⟨(some 4), (.mv (.tmp 12)), none⟩,
    .op ⟨(some 5), (.mv (.tmp 14)), none⟩]
def r_octet_Fold_5 : List SOp :=
   [.op ⟨(some 15), (.mv (.tmp 5)), none⟩,
    .op ⟨(some 16), (.bin .geq (.tmp 15) (.av (.int .u8 65))), none⟩,
    .op ⟨(some 17), (.mv (.tmp 16)), none⟩,
    .grp none 17 true
      [.op ⟨(some 18), (.mv (.tmp 5)), (some (17, true))⟩,
      .op ⟨(some 19), (.bin .leq (.tmp 18) (.av (.int .u8 90))), (some (17, true))⟩]
      20 (.tmp 19)]
def r_octet_Fold_6 : List SOp :=
   [.op ⟨(some 21), (.mv (.tmp 3)), none⟩,
    .op ⟨(some 22), (.mv (.tmp 4)), none⟩,
    .op ⟨(some 23), (.mv (.tmp 5)), none⟩,
    .op ⟨(some 24), (.bin .add (.tmp 23) (.av (.int .u8 32))), none⟩,
    .op ⟨(some 25), (.iaddr 1 (.tmp 21) (.tmp 22)), none⟩,
    .op ⟨none, (.store 1 (.tmp 25) (.tmp 24)), none⟩]
def r_octet_Fold_7 : List SOp :=
   [.op ⟨(some 26), (.bin .add (.tmp 10) (.av (.int .i64 1))), none⟩,
    .op ⟨(some 10), (.mv (.tmp 26)), none⟩]
def r_octet_Fold_8 : List SOp :=
   [.op ⟨(some 27), (.mv (.tmp 3)), none⟩,
    .op ⟨(some 28), (.b2s (.tmp 27)), none⟩,
    .op ⟨(some 2), (.mv (.tmp 28)), none⟩]
def c_octet_Fold : LFun := ⟨29, (.seq (.sreg r_octet_Fold_0 [])
  (.seq (.sreg r_octet_Fold_1 [true, false, false])
  (.seq (.seq (.sreg r_octet_Fold_2 [])
  (.block 0 (.loop (.seq (.sreg r_octet_Fold_3 [])
  (.seq (.cond (.tmp 11) .skip
  (.exit 0))
  (.seq (.block 1 (.seq (.sreg r_octet_Fold_4 [true, true, false, false, false])
  (.seq (.sreg r_octet_Fold_5 [true, false, false, false])
  (.cond (.tmp 20) (.sreg r_octet_Fold_6 [false, false, false, false, false])
  .skip))))
  (.sreg r_octet_Fold_7 [true, false])))))))
  (.seq (.sreg r_octet_Fold_8 [true, false, false])
  .ret)))), [(.tmp 2)]⟩
attribute [push_cast] r_octet_Fold_0 r_octet_Fold_1 r_octet_Fold_2 r_octet_Fold_3 r_octet_Fold_4 r_octet_Fold_5 r_octet_Fold_6 r_octet_Fold_7 r_octet_Fold_8
theorem c_octet_Fold_eq : lowF Tryz.prog (fun r i => if r = 1 ∧ i = 1 then 2 else 1) 31 = some c_octet_Fold.raw := by kernel_rfl

/-! castellan/octet.Prep -/
def r_octet_Prep_0 : List SOp :=
   [.op ⟨(some 2), (.mv (.av (.str []))), none⟩]
def r_octet_Prep_1 : List SOp :=
   [.op ⟨(some 3), (.mv (.av (.sl [] 0 (some 0)))), none⟩]
def r_octet_Prep_2 : List SOp :=
   [.op ⟨(some 6), (.mv (.tmp 0)), none⟩,
    .op ⟨(some 7), (.call 31 [(.tmp 6)]), none⟩,
    .op ⟨(some 8), (.s2b (.tmp 7)), none⟩,
    .op ⟨(some 9), (.len false (.tmp 8)), none⟩,
    .op ⟨(some 10), (.mv (.av (.int .i64 0))), none⟩]
def r_octet_Prep_3 : List SOp :=
   [.op ⟨(some 11), (.bin .lss (.tmp 10) (.tmp 9)), none⟩]
def r_octet_Prep_4 : List SOp :=
   [.op ⟨(some 12), (.iaddr 1 (.tmp 8) (.tmp 10)), none⟩,
    .op ⟨(some 13), (.load false 1 (.tmp 12)), none⟩,
    .op ⟨(some 5), (.mv (.tmp 13)), none⟩]
def r_octet_Prep_5 : List SOp :=
   [.op ⟨(some 14), (.mv (.tmp 5)), none⟩,
    .op ⟨(some 15), (.bin .eql (.tmp 14) (.av (.int .u8 32))), none⟩,
    .op ⟨(some 16), (.mv (.tmp 15)), none⟩,
    .grp none 16 true
      [.op ⟨(some 17), (.mv (.tmp 3)), (some (16, true))⟩,
      .op ⟨(some 18), (.len false (.tmp 17)), (some (16, true))⟩,
      .op ⟨(some 19), (.bin .eql (.tmp 18) (.av (.int .i64 0))), (some (16, true))⟩,
      .op ⟨(some 20), (.mv (.tmp 19)), (some (16, true))⟩,
      .grp (some (16, true)) 20 false
        [.op ⟨(some 21), (.mv (.tmp 3)), (some (20, false))⟩,
        .op ⟨(some 22), (.mv (.tmp 3)), (some (20, false))⟩,
        .op ⟨(some 23), (.len false (.tmp 22)), (some (20, false))⟩,
        .op ⟨(some 24), (.bin .sub (.tmp 23) (.av (.int .i64 1))), (some (20, false))⟩,
        .op ⟨(some 25), (.iaddr 1 (.tmp 21) (.tmp 24)), (some (20, false))⟩,
        .op ⟨(some 26), (.load false 1 (.tmp 25)), (some (20, false))⟩,
        .op ⟨(some 27), (.bin .eql (.tmp 26) (.av (.int .u8 32))), (some (20, false))⟩]
        28 (.tmp 27)]
      29 (.tmp 28)]
def r_octet_Prep_6 : List SOp :=
   [.op ⟨(some 30), (.mv (.tmp 3)), none⟩,
    .op ⟨(some 31), (.mv (.tmp 5)), none⟩,
    .op ⟨(some 32), (.bslice false 1 1 [(.int .u8 0)] [(0, (1, (.tmp 31)))]), none⟩,
    .op ⟨(some 33), (.app 1 1 1 [(.int .u8 0)] (.tmp 30) (.tmp 32)), none⟩,
    .op ⟨(some 3), (.mv (.tmp 33)), none⟩]
def r_octet_Prep_7 : List SOp :=
   [.op ⟨(some 34), (.bin .add (.tmp 10) (.av (.int .i64 1))), none⟩,
    .op ⟨(some 10), (.mv (.tmp 34)), none⟩]
def r_octet_Prep_8 : List SOp :=
   [.op ⟨(some 35), (.mv (.tmp 3)), none⟩,
    .op ⟨(some 36), (.len false (.tmp 35)), none⟩,
    .op ⟨(some 37), (.bin .gtr (.tmp 36) (.av (.int .i64 0))), none⟩,
    .op ⟨(some 38), (.mv (.tmp 37)), none⟩,
    .grp none 38 true
      [.op ⟨(some 39), (.mv (.tmp 3)), (some (38, true))⟩,
      .op ⟨(some 40), (.mv (.tmp 3)), (some (38, true))⟩,
      .op ⟨(some 41), (.len false (.tmp 40)), (some (38, true))⟩,
      .op ⟨(some 42), (.bin .sub (.tmp 41) (.av (.int .i64 1))), (some (38, true))⟩,
      .op ⟨(some 43), (.iaddr 1 (.tmp 39) (.tmp 42)), (some (38, true))⟩,
      .op ⟨(some 44), (.load false 1 (.tmp 43)), (some (38, true))⟩,
      .op ⟨(some 45), (.bin .eql (.tmp 44) (.av (.int .u8 32))), (some (38, true))⟩]
      46 (.tmp 45)]
def r_octet_Prep_9 : List SOp :=
   [.op ⟨(some 47), (.mv (.tmp 3)), none⟩,
    .op ⟨(some 48), (.mv (.tmp 3)), none⟩,
    .op ⟨(some 49), (.len false (.tmp 48)), none⟩,
    .op ⟨(some 50), (.bin .sub (.tmp 49) (.av (.int .i64 1))), none⟩,
    .op ⟨(some 51), (.slV 1 (.tmp 47) none (some (.tmp 50)) none), none⟩,
    .op ⟨(some 3), (.mv (.tmp 51)), none⟩]
def r_octet_Prep_10 : List SOp :=
   [.op ⟨(some 52), (.mv (.tmp 3)), none⟩,
    .op ⟨(some 53), (.b2s (.tmp 52)), none⟩,
    .op ⟨(some 2), (.mv (.tmp 53)), none⟩]
def c_octet_Prep : LFun := ⟨54, (.seq (.sreg r_octet_Prep_0 [])
  (.seq (.sreg r_octet_Prep_1 [])
  (.seq (.seq (.sreg r_octet_Prep_2 [true, true, true, false, false])
  (.block 0 (.loop (.seq (.sreg r_octet_Prep_3 [])
  (.seq (.cond (.tmp 11) .skip
  (.exit 0))
  (.seq (.block 1 (.seq (.sreg r_octet_Prep_4 [true, false, false])
  (.seq (.seq (.sreg r_octet_Prep_5 [true, false, false, false])
  (.cond (.tmp 29) (.exit 1)
  .skip))
  (.sreg r_octet_Prep_6 [true, false, false, false, false]))))
  (.sreg r_octet_Prep_7 [true, false])))))))
  (.seq (.seq (.sreg r_octet_Prep_8 [true, false, false, false, false])
  (.cond (.tmp 46) (.sreg r_octet_Prep_9 [true, false, false, false, false, false])
  .skip))
  (.seq (.sreg r_octet_Prep_10 [true, false, false])
  .ret))))), [(.tmp 2)]⟩
attribute [push_cast] r_octet_Prep_0 r_octet_Prep_1 r_octet_Prep_2 r_octet_Prep_3 r_octet_Prep_4 r_octet_Prep_5 r_octet_Prep_6 r_octet_Prep_7 r_octet_Prep_8 r_octet_Prep_9 r_octet_Prep_10
theorem c_octet_Prep_eq : lowF Tryz.prog (fun _ _ => 1) 15 = some c_octet_Prep.raw := by kernel_rfl

/-! castellan/castellanref01.Fold -/
def r_ref01_Fold_0 : List SOp :=
   [.op ⟨(some 2), (.mv (.av (.str []))), none⟩]
def r_ref01_Fold_1 : List SOp :=
   [.op ⟨(some 3), (.mv (.av (.sl [] 0 (some 0)))), none⟩]
def r_ref01_Fold_2 : List SOp :=
   [.op ⟨(some 4), (.mv (.av (.int .i64 0))), none⟩]
def r_ref01_Fold_3 : List SOp :=
   [.op ⟨(some 6), (.mv (.tmp 4)), none⟩,
    .op ⟨(some 7), (.mv (.tmp 0)), none⟩,
    .op ⟨(some 8), (.len true (.tmp 7)), none⟩,
    .op ⟨(some 9), (.bin .lss (.tmp 6) (.tmp 8)), none⟩]
def r_ref01_Fold_4 : List SOp :=
   [.op ⟨(some 12), (.mv (.tmp 0)), none⟩,
    .op ⟨(some 13), (.mv (.tmp 4)), none⟩,
    .op ⟨(some 14), (.idxS (.tmp 12) (.tmp 13)), none⟩,
    .op ⟨(some 5), (.mv (.tmp 14)), none⟩]
def r_ref01_Fold_5 : List SOp :=
   [.op ⟨(some 15), (.mv (.tmp 5)), none⟩,
    .op ⟨(some 16), (.bin .geq (.tmp 15) (.av (.int .u8 65))), none⟩,
    .op ⟨(some 17), (.mv (.tmp 16)), none⟩,
    .grp none 17 true
      [.op ⟨(some 18), (.mv (.tmp 5)), (some (17, true))⟩,
      .op ⟨(some 19), (.bin .leq (.tmp 18) (.av (.int .u8 90))), (some (17, true))⟩]
      20 (.tmp 19)]
def r_ref01_Fold_6 : List SOp :=
   [.op ⟨(some 21), (.mv (.tmp 5)), none⟩,
    .op ⟨(some 22), (.bin .sub (.tmp 21) (.av (.int .u8 65))), none⟩,
    .op ⟨(some 23), (.bin .add (.tmp 22) (.av (.int .u8 97))), none⟩,
    .op ⟨(some 5), (.mv (.tmp 23)), none⟩]
def r_ref01_Fold_7 : List SOp :=
   [.op ⟨(some 24), (.mv (.tmp 3)), none⟩,
    .op ⟨(some 25), (.mv (.tmp 5)), none⟩,
    .op ⟨(some 26), (.bslice false 1 1 [(.int .u8 0)] [(0, (1, (.tmp 25)))]), none⟩,
    .op ⟨(some 27), (.app 1 1 1 [(.int .u8 0)] (.tmp 24) (.tmp 26)), none⟩,
    .op ⟨(some 3), (.mv (.tmp 27)), none⟩]
def r_ref01_Fold_8 : List SOp :=
   [.op ⟨(some 10), (.mv (.tmp 4)), none⟩,
    .op ⟨(some 11), (.bin .add (.tmp 10) (.av (.int .i64 1))), none⟩,
    .op ⟨(some 4), (.mv (.tmp 11)), none⟩]
def r_ref01_Fold_9 : List SOp :=
   [.op ⟨(some 28), (.mv (.tmp 3)), none⟩,
    .op ⟨(some 29), (.b2s (.tmp 28)), none⟩,
    .op ⟨(some 2), (.mv (.tmp 29)), none⟩]
def c_ref01_Fold : LFun := ⟨30, (.seq (.sreg r_ref01_Fold_0 [])
  (.seq (.sreg r_ref01_Fold_1 [])
  (.seq (.seq (.sreg r_ref01_Fold_2 [])
  (.block 0 (.loop (.seq (.seq (.sreg r_ref01_Fold_3 [true, false, false, false])
  (.cond (.tmp 9) .skip
  (.exit 0)))
  (.seq (.block 1 (.seq (.sreg r_ref01_Fold_4 [true, false, false, false])
  (.seq (.seq (.sreg r_ref01_Fold_5 [true, false, false, false])
  (.cond (.tmp 20) (.sreg r_ref01_Fold_6 [true, false, false, false])
  .skip))
  (.sreg r_ref01_Fold_7 [true, false, false, false, false]))))
  (.sreg r_ref01_Fold_8 [true, false, false]))))))
  (.seq (.sreg r_ref01_Fold_9 [true, false, false])
  .ret)))), [(.tmp 2)]⟩
attribute [push_cast] r_ref01_Fold_0 r_ref01_Fold_1 r_ref01_Fold_2 r_ref01_Fold_3 r_ref01_Fold_4 r_ref01_Fold_5 r_ref01_Fold_6 r_ref01_Fold_7 r_ref01_Fold_8 r_ref01_Fold_9
theorem c_ref01_Fold_eq : lowF Tryz.prog (fun _ _ => 1) 36 = some c_ref01_Fold.raw := by kernel_rfl

/-! castellan/castellanref01.Prep -/
def r_ref01_Prep_0 : List SOp :=
   [.op ⟨(some 2), (.mv (.av (.str []))), none⟩]
def r_ref01_Prep_1 : List SOp :=
   [.op ⟨(some 8), (.mv (.tmp 0)), none⟩,
    .op ⟨(some 9), (.call 36 [(.tmp 8)]), none⟩,
    .op ⟨(some 3), (.mv (.tmp 9)), none⟩]
def r_ref01_Prep_2 : List SOp :=
   [.op ⟨(some 4), (.mv (.av (.sl [] 0 (some 0)))), none⟩]
def r_ref01_Prep_3 : List SOp :=
   [.op ⟨(some 5), (.mv (.av (.int .i64 0))), none⟩]
def r_ref01_Prep_4 : List SOp :=
   [.op ⟨(some 10), (.mv (.tmp 5)), none⟩,
    .op ⟨(some 11), (.mv (.tmp 3)), none⟩,
    .op ⟨(some 12), (.len true (.tmp 11)), none⟩,
    .op ⟨(some 13), (.bin .lss (.tmp 10) (.tmp 12)), none⟩]
def r_ref01_Prep_5 : List SOp :=
   [.op ⟨(some 6), (.mv (.av (.bool false))), none⟩]
def r_ref01_Prep_6 : List SOp :=
   [.op ⟨(some 16), (.mv (.tmp 5)), none⟩,
    .op ⟨(some 7), (.mv (.tmp 16)), none⟩]
def r_ref01_Prep_7 : List SOp :=
   [.op ⟨(some 17), (.mv (.tmp 7)), none⟩,
    .op ⟨(some 18), (.mv (.tmp 3)), none⟩,
    .op ⟨(some 19), (.len true (.tmp 18)), none⟩,
    .op ⟨(some 20), (.bin .lss (.tmp 17) (.tmp 19)), none⟩,
    .op ⟨(some 21), (.mv (.tmp 20)), none⟩,
    .grp none 21 true
      [.op ⟨(some 22), (.mv (.tmp 6)), (some (21, true))⟩,
      .op ⟨(some 23), (.un .not (.tmp 22)), (some (21, true))⟩]
      24 (.tmp 23)]
def r_ref01_Prep_8 : List SOp :=
   [.op ⟨(some 27), (.mv (.tmp 3)), none⟩,
    .op ⟨(some 28), (.mv (.tmp 7)), none⟩,
    .op ⟨(some 29), (.idxS (.tmp 27) (.tmp 28)), none⟩,
    .op ⟨(some 30), (.bin .neq (.tmp 29) (.av (.int .u8 32))), none⟩,
    .op ⟨(some 6), (.mv (.tmp 30)), none⟩]
def r_ref01_Prep_9 : List SOp :=
   [.op ⟨(some 25), (.mv (.tmp 7)), none⟩,
    .op ⟨(some 26), (.bin .add (.tmp 25) (.av (.int .i64 1))), none⟩,
    .op ⟨(some 7), (.mv (.tmp 26)), none⟩]
def r_ref01_Prep_10 : List SOp :=
   [.op ⟨(some 31), (.mv (.tmp 6)), none⟩,
    .op ⟨(some 32), (.un .not (.tmp 31)), none⟩,
    .op ⟨(some 33), (.mv (.tmp 32)), none⟩,
    .grp none 33 false
      [.op ⟨(some 34), (.mv (.tmp 3)), (some (33, false))⟩,
      .op ⟨(some 35), (.mv (.tmp 5)), (some (33, false))⟩,
      .op ⟨(some 36), (.idxS (.tmp 34) (.tmp 35)), (some (33, false))⟩,
      .op ⟨(some 37), (.bin .eql (.tmp 36) (.av (.int .u8 32))), (some (33, false))⟩,
      .op ⟨(some 38), (.mv (.tmp 37)), (some (33, false))⟩,
      .grp (some (33, false)) 38 true
        [.op ⟨(some 39), (.mv (.tmp 4)), (some (38, true))⟩,
        .op ⟨(some 40), (.len false (.tmp 39)), (some (38, true))⟩,
        .op ⟨(some 41), (.bin .eql (.tmp 40) (.av (.int .i64 0))), (some (38, true))⟩,
        .op ⟨(some 42), (.mv (.tmp 41)), (some (38, true))⟩,
        .grp (some (38, true)) 42 false
          [.op ⟨(some 43), (.mv (.tmp 3)), (some (42, false))⟩,
          .op ⟨(some 44), (.mv (.tmp 5)), (some (42, false))⟩,
          .op ⟨(some 45), (.bin .sub (.tmp 44) (.av (.int .i64 1))), (some (42, false))⟩,
          .op ⟨(some 46), (.idxS (.tmp 43) (.tmp 45)), (some (42, false))⟩,
          .op ⟨(some 47), (.bin .eql (.tmp 46) (.av (.int .u8 32))), (some (42, false))⟩]
          48 (.tmp 47)]
        49 (.tmp 48)]
      50 (.tmp 49)]
def r_ref01_Prep_11 : List SOp :=
   [.op ⟨(some 51), (.mv (.tmp 4)), none⟩,
    .op ⟨(some 52), (.mv (.tmp 3)), none⟩,
    .op ⟨(some 53), (.mv (.tmp 5)), none⟩,
    .op ⟨(some 54), (.idxS (.tmp 52) (.tmp 53)), none⟩,
    .op ⟨(some 55), (.bslice false 1 1 [(.int .u8 0)] [(0, (1, (.tmp 54)))]), none⟩,
    .op ⟨(some 56), (.app 1 1 1 [(.int .u8 0)] (.tmp 51) (.tmp 55)), none⟩,
    .op ⟨(some 4), (.mv (.tmp 56)), none⟩]
def r_ref01_Prep_12 : List SOp :=
   [.op ⟨(some 14), (.mv (.tmp 5)), none⟩,
    .op ⟨(some 15), (.bin .add (.tmp 14) (.av (.int .i64 1))), none⟩,
    .op ⟨(some 5), (.mv (.tmp 15)), none⟩]
def r_ref01_Prep_13 : List SOp :=
   [.op ⟨(some 57), (.mv (.tmp 4)), none⟩,
    .op ⟨(some 58), (.b2s (.tmp 57)), none⟩,
    .op ⟨(some 2), (.mv (.tmp 58)), none⟩]
def c_ref01_Prep : LFun := ⟨59, (.seq (.sreg r_ref01_Prep_0 [])
  (.seq (.sreg r_ref01_Prep_1 [true, false, false])
  (.seq (.sreg r_ref01_Prep_2 [])
  (.seq (.seq (.sreg r_ref01_Prep_3 [])
  (.block 0 (.loop (.seq (.seq (.sreg r_ref01_Prep_4 [true, false, false, false])
  (.cond (.tmp 13) .skip
  (.exit 0)))
  (.seq (.block 1 (.seq (.sreg r_ref01_Prep_5 [])
  (.seq (.seq (.sreg r_ref01_Prep_6 [true, false])
  (.block 2 (.loop (.seq (.seq (.sreg r_ref01_Prep_7 [true, false, false, false, false, false])
  (.cond (.tmp 24) .skip
  (.exit 2)))
  (.seq (.block 3 (.sreg r_ref01_Prep_8 [true, false, false, false, false]))
  (.sreg r_ref01_Prep_9 [true, false, false]))))))
  (.seq (.seq (.sreg r_ref01_Prep_10 [true, false, false, false])
  (.cond (.tmp 50) (.exit 1)
  .skip))
  (.sreg r_ref01_Prep_11 [true, false, false, false, false, false, false])))))
  (.sreg r_ref01_Prep_12 [true, false, false]))))))
  (.seq (.sreg r_ref01_Prep_13 [true, false, false])
  .ret))))), [(.tmp 2)]⟩
attribute [push_cast] r_ref01_Prep_0 r_ref01_Prep_1 r_ref01_Prep_2 r_ref01_Prep_3 r_ref01_Prep_4 r_ref01_Prep_5 r_ref01_Prep_6 r_ref01_Prep_7 r_ref01_Prep_8 r_ref01_Prep_9 r_ref01_Prep_10 r_ref01_Prep_11 r_ref01_Prep_12 r_ref01_Prep_13
theorem c_ref01_Prep_eq : lowF Tryz.prog (fun _ _ => 1) 23 = some c_ref01_Prep.raw := by kernel_rfl

/-! castellan/octet.half -/
def r_octet_half_0 : List SOp :=
   [.op ⟨(some 2), (.mv (.av (.int .u8 0))), none⟩,
    .op ⟨(some 3), (.mv (.av (.bool false))), none⟩]
def r_octet_half_1 : List SOp :=
   [.op ⟨(some 5), (.mv (.tmp 0)), none⟩,
    .op ⟨(some 6), (.bin .geq (.tmp 5) (.av (.int .u8 48))), none⟩,
    .op ⟨(some 7), (.mv (.tmp 6)), none⟩,
    .grp none 7 true
      [.op ⟨(some 8), (.mv (.tmp 0)), (some (7, true))⟩,
      .op ⟨(some 9), (.bin .leq (.tmp 8) (.av (.int .u8 57))), (some (7, true))⟩]
      10 (.tmp 9),
    .op ⟨(some 4), (.mv (.tmp 10)), none⟩]
def r_octet_half_2 : List SOp :=
   [.op ⟨(some 11), (.mv (.tmp 0)), none⟩,
    .op ⟨(some 12), (.bin .sub (.tmp 11) (.av (.int .u8 48))), none⟩,
    .op ⟨(some 2), (.mv (.tmp 12)), none⟩,
    .op ⟨(some 3), (.mv (.av (.bool true))), none⟩]
def r_octet_half_3 : List SOp :=
   [.op ⟨(some 14), (.mv (.tmp 0)), none⟩,
    .op ⟨(some 15), (.bin .geq (.tmp 14) (.av (.int .u8 97))), none⟩,
    .op ⟨(some 16), (.mv (.tmp 15)), none⟩,
    .grp none 16 true
      [.op ⟨(some 17), (.mv (.tmp 0)), (some (16, true))⟩,
      .op ⟨(some 18), (.bin .leq (.tmp 17) (.av (.int .u8 102))), (some (16, true))⟩]
      19 (.tmp 18),
    .op ⟨(some 13), (.mv (.tmp 19)), none⟩]
def r_octet_half_4 : List SOp :=
   [.op ⟨(some 20), (.mv (.tmp 0)), none⟩,
    .op ⟨(some 21), (.bin .sub (.tmp 20) (.av (.int .u8 97))), none⟩,
    .op ⟨(some 22), (.bin .add (.tmp 21) (.av (.int .u8 10))), none⟩,
    .op ⟨(some 2), (.mv (.tmp 22)), none⟩,
    .op ⟨(some 3), (.mv (.av (.bool true))), none⟩]
def r_octet_half_5 : List SOp :=
   [.op ⟨(some 24), (.mv (.tmp 0)), none⟩,
    .op ⟨(some 25), (.bin .geq (.tmp 24) (.av (.int .u8 65))), none⟩,
    .op ⟨(some 26), (.mv (.tmp 25)), none⟩,
    .grp none 26 true
      [.op ⟨(some 27), (.mv (.tmp 0)), (some (26, true))⟩,
      .op ⟨(some 28), (.bin .leq (.tmp 27) (.av (.int .u8 70))), (some (26, true))⟩]
      29 (.tmp 28),
    .op ⟨(some 23), (.mv (.tmp 29)), none⟩]
def r_octet_half_6 : List SOp :=
   [.op ⟨(some 30), (.mv (.tmp 0)), none⟩,
    .op ⟨(some 31), (.bin .sub (.tmp 30) (.av (.int .u8 65))), none⟩,
    .op ⟨(some 32), (.bin .add (.tmp 31) (.av (.int .u8 10))), none⟩,
    .op ⟨(some 2), (.mv (.tmp 32)), none⟩,
    .op ⟨(some 3), (.mv (.av (.bool true))), none⟩]
def r_octet_half_7 : List SOp :=
   [.op ⟨(some 2), (.mv (.av (.int .u8 0))), none⟩,
    .op ⟨(some 3), (.mv (.av (.bool false))), none⟩]
def c_octet_half : LFun := ⟨33, (.seq (.sreg r_octet_half_0 [])
  (.seq (.block 0 (.seq (.sreg r_octet_half_1 [true, false, false, false, false])
  (.cond (.tmp 4) (.seq (.sreg r_octet_half_2 [true, true, false, false])
  .ret)
  (.seq (.sreg r_octet_half_3 [true, false, false, false, false])
  (.cond (.tmp 13) (.seq (.sreg r_octet_half_4 [true, true, false, false, false])
  .ret)
  (.seq (.sreg r_octet_half_5 [true, false, false, false, false])
  (.cond (.tmp 23) (.seq (.sreg r_octet_half_6 [true, true, false, false, false])
  .ret)
  .skip)))))))
  (.seq (.sreg r_octet_half_7 [])
  .ret))), [(.tmp 2), (.tmp 3)]⟩
attribute [push_cast] r_octet_half_0 r_octet_half_1 r_octet_half_2 r_octet_half_3 r_octet_half_4 r_octet_half_5 r_octet_half_6 r_octet_half_7
theorem c_octet_half_eq : lowF Tryz.prog (fun _ _ => 1) 112 = some c_octet_half.raw := by kernel_rfl

/-! castellan/octet.Unhex -/
def r_octet_Unhex_0 : List SOp :=
   [.op ⟨(some 2), (.mv (.av (.str []))), none⟩,
    .op ⟨(some 3), (.mv (.av (.bool false))), none⟩]
def r_octet_Unhex_1 : List SOp :=
   [.op ⟨(some 10), (.mv (.tmp 0)), none⟩,
    .op ⟨(some 11), (.len true (.tmp 10)), none⟩,
    .op ⟨(some 12), (.bin .rem (.tmp 11) (.av (.int .i64 2))), none⟩,
    .op ⟨(some 13), (.bin .eql (.tmp 12) (.av (.int .i64 1))), none⟩]
def r_octet_Unhex_2 : List SOp :=
   [.op ⟨(some 2), (.mv (.av (.str []))), none⟩,
    .op ⟨(some 3), (.mv (.av (.bool false))), none⟩]
def r_octet_Unhex_3 : List SOp :=
   [.op ⟨(some 14), (.mv (.tmp 0)), none⟩,
    .op ⟨(some 15), (.len true (.tmp 14)), none⟩,
    .op ⟨(some 16), (.bin .quo (.tmp 15) (.av (.int .i64 2))), none⟩,
    .op ⟨(some 17), (.mkslice 1 1 [(.int .u8 0)] (.av (.int .i64 0)) (.tmp 16)), none⟩,
    .op ⟨(some 4), (.mv (.tmp 17)), none⟩]
def r_octet_Unhex_4 : List SOp :=
   [.op ⟨(some 5), (.mv (.av (.int .i64 0))), none⟩]
def r_octet_Unhex_5 : List SOp :=
   [.op ⟨(some 18), (.mv (.tmp 5)), none⟩,
    .op ⟨(some 19), (.mv (.tmp 0)), none⟩,
    .op ⟨(some 20), (.len true (.tmp 19)), none⟩,
    .op ⟨(some 21), (.bin .lss (.tmp 18) (.tmp 20)), none⟩]
def r_octet_Unhex_6 : List SOp :=
   [.op ⟨(some 25), (.mv (.tmp 0)), none⟩,
    .op ⟨(some 26), (.mv (.tmp 5)), none⟩,
    .op ⟨(some 27), (.idxS (.tmp 25) (.tmp 26)), none⟩,
    .op ⟨(some 28), (.call 112 [(.tmp 27)]), none⟩,
    .op ⟨(some 24), (.mv (.tmp 28)), none⟩,
    .op ⟨(some 29), (.extract (.tmp 24) 0), none⟩,
    .op ⟨(some 30), (.extract (.tmp 24) 1), none⟩,
    .op ⟨(some 6), (.mv (.tmp 29)), none⟩,
    .op ⟨(some 7), (.mv (.tmp 30)), none⟩]
def r_octet_Unhex_7 : List SOp :=
   [.op ⟨(some 32), (.mv (.tmp 0)), none⟩,
    .op ⟨(some 33), (.mv (.tmp 5)), none⟩,
    .op ⟨(some 34), (.bin .add (.tmp 33) (.av (.int .i64 1))), none⟩,
    .op ⟨(some 35), (.idxS (.tmp 32) (.tmp 34)), none⟩,
    .op ⟨(some 36), (.call 112 [(.tmp 35)]), none⟩,
    .op ⟨(some 31), (.mv (.tmp 36)), none⟩,
    .op ⟨(some 37), (.extract (.tmp 31) 0), none⟩,
    .op ⟨(some 38), (.extract (.tmp 31) 1), none⟩,
    .op ⟨(some 8), (.mv (.tmp 37)), none⟩,
    .op ⟨(some 9), (.mv (.tmp 38)), none⟩]
def r_octet_Unhex_8 : List SOp :=
   [.op ⟨(some 39), (.mv (.tmp 7)), none⟩,
    .op ⟨(some 40), (.un .not (.tmp 39)), none⟩,
    .op ⟨(some 41), (.mv (.tmp 40)), none⟩,
    .grp none 41 false
      [.op ⟨(some 42), (.mv (.tmp 9)), (some (41, false))⟩,
      .op ⟨(some 43), (.un .not (.tmp 42)), (some (41, false))⟩]
      44 (.tmp 43)]
def r_octet_Unhex_9 : List SOp :=
   [.op ⟨(some 2), (.mv (.av (.str []))), none⟩,
    .op ⟨(some 3), (.mv (.av (.bool false))), none⟩]
def r_octet_Unhex_10 : List SOp :=
   [.op ⟨(some 45), (.mv (.tmp 4)), none⟩,
    .op ⟨(some 46), (.mv (.tmp 6)), none⟩,
    .op ⟨(some 47), (.bin .shl (.tmp 46) (.av (.int .u64 4))), none⟩,
    .op ⟨(some 48), (.mv (.tmp 8)), none⟩,
    .op ⟨(some 49), (.bin .or (.tmp 47) (.tmp 48)), none⟩,
    .op ⟨(some 50), (.bslice false 1 1 [(.int .u8 0)] [(0, (1, (.tmp 49)))]), none⟩,
    .op ⟨(some 51), (.app 1 1 1 [(.int .u8 0)] (.tmp 45) (.tmp 50)), none⟩,
    .op ⟨(some 4), (.mv (.tmp 51)), none⟩]
def r_octet_Unhex_11 : List SOp :=
   [.op ⟨(some 22), (.mv (.tmp 5)), none⟩,
    .op ⟨(some 23), (.bin .add (.tmp 22) (.av (.int .i64 2))), none⟩,
    .op ⟨(some 5), (.mv (.tmp 23)), none⟩]
def r_octet_Unhex_12 : List SOp :=
   [.op ⟨(some 52), (.mv (.tmp 4)), none⟩,
    .op ⟨(some 53), (.b2s (.tmp 52)), none⟩,
    .op ⟨(some 2), (.mv (.tmp 53)), none⟩,
    .op ⟨(some 3), (.mv (.av (.bool true))), none⟩]
def c_octet_Unhex : LFun := ⟨54, (.seq (.sreg r_octet_Unhex_0 [])
  (.seq (.seq (.sreg r_octet_Unhex_1 [true, false, false, false])
  (.cond (.tmp 13) (.seq (.sreg r_octet_Unhex_2 [])
  .ret)
  .skip))
  (.seq (.sreg r_octet_Unhex_3 [true, false, false, false, false])
  (.seq (.seq (.sreg r_octet_Unhex_4 [])
  (.block 0 (.loop (.seq (.seq (.sreg r_octet_Unhex_5 [true, false, false, false])
  (.cond (.tmp 21) .skip
  (.exit 0)))
  (.seq (.block 1 (.seq (.sreg r_octet_Unhex_6 [true, true, false, false, false, false, false, false, false])
  (.seq (.sreg r_octet_Unhex_7 [true, true, false, false, false, false, false, false, false, false])
  (.seq (.seq (.sreg r_octet_Unhex_8 [true, false, false, false])
  (.cond (.tmp 44) (.seq (.sreg r_octet_Unhex_9 [])
  .ret)
  .skip))
  (.sreg r_octet_Unhex_10 [true, false, false, false, false, false, false, false])))))
  (.sreg r_octet_Unhex_11 [true, false, false]))))))
  (.seq (.sreg r_octet_Unhex_12 [true, true, false, false])
  .ret))))), [(.tmp 2), (.tmp 3)]⟩
attribute [push_cast] r_octet_Unhex_0 r_octet_Unhex_1 r_octet_Unhex_2 r_octet_Unhex_3 r_octet_Unhex_4 r_octet_Unhex_5 r_octet_Unhex_6 r_octet_Unhex_7 r_octet_Unhex_8 r_octet_Unhex_9 r_octet_Unhex_10 r_octet_Unhex_11 r_octet_Unhex_12
theorem c_octet_Unhex_eq : lowF Tryz.prog (fun _ _ => 1) 91 = some c_octet_Unhex.raw := by kernel_rfl

/-! castellan/castellanref01.digit -/
def r_ref01_digit_0 : List SOp :=
   [.op ⟨(some 2), (.mv (.av (.int .u8 0))), none⟩]
def r_ref01_digit_1 : List SOp :=
   [.op ⟨(some 3), (.mv (.tmp 0)), none⟩,
    .op ⟨(some 4), (.bin .lss (.tmp 3) (.av (.int .u8 10))), none⟩]
def r_ref01_digit_2 : List SOp :=
   [.op ⟨(some 5), (.mv (.tmp 0)), none⟩,
    .op ⟨(some 6), (.bin .add (.av (.int .u8 48)) (.tmp 5)), none⟩,
    .op ⟨(some 2), (.mv (.tmp 6)), none⟩]
def r_ref01_digit_3 : List SOp :=
   [.op ⟨(some 7), (.mv (.tmp 0)), none⟩,
    .op ⟨(some 8), (.bin .add (.av (.int .u8 97)) (.tmp 7)), none⟩,
    .op ⟨(some 9), (.bin .sub (.tmp 8) (.av (.int .u8 10))), none⟩,
    .op ⟨(some 2), (.mv (.tmp 9)), none⟩]
def c_ref01_digit : LFun := ⟨10, (.seq (.sreg r_ref01_digit_0 [])
  (.seq (.seq (.sreg r_ref01_digit_1 [true, false])
  (.cond (.tmp 4) (.seq (.sreg r_ref01_digit_2 [true, false, false])
  .ret)
  .skip))
  (.seq (.sreg r_ref01_digit_3 [true, false, false, false])
  .ret))), [(.tmp 2)]⟩
attribute [push_cast] r_ref01_digit_0 r_ref01_digit_1 r_ref01_digit_2 r_ref01_digit_3
theorem c_ref01_digit_eq : lowF Tryz.prog (fun _ _ => 1) 118 = some c_ref01_digit.raw := by kernel_rfl

/-! castellan/castellanref01.Unhex -/
def r_ref01_Unhex_0 : List SOp :=
   [.op ⟨(some 2), (.mv (.av (.str []))), none⟩,
    .op ⟨(some 3), (.mv (.av (.bool false))), none⟩]
def r_ref01_Unhex_1 : List SOp :=
   [.op ⟨(some 4), (.mv (.av (.sl [] 0 (some 0)))), none⟩]
def r_ref01_Unhex_2 : List SOp :=
   [.op ⟨(some 9), (.mv (.tmp 0)), none⟩,
    .op ⟨(some 10), (.call 36 [(.tmp 9)]), none⟩,
    .op ⟨(some 5), (.mv (.tmp 10)), none⟩]
def r_ref01_Unhex_3 : List SOp :=
   [.op ⟨(some 6), (.mv (.av (.int .i64 0))), none⟩]
def r_ref01_Unhex_4 : List SOp :=
   [.op ⟨(some 11), (.mv (.tmp 6)), none⟩,
    .op ⟨(some 12), (.bin .add (.tmp 11) (.av (.int .i64 1))), none⟩,
    .op ⟨(some 13), (.mv (.tmp 5)), none⟩,
    .op ⟨(some 14), (.len true (.tmp 13)), none⟩,
    .op ⟨(some 15), (.bin .lss (.tmp 12) (.tmp 14)), none⟩]
def r_ref01_Unhex_5 : List SOp :=
   [.op ⟨(some 7), (.mv (.av (.bool false))), none⟩]
def r_ref01_Unhex_6 : List SOp :=
   [.op ⟨(some 8), (.mv (.av (.int .i64 0))), none⟩]
def r_ref01_Unhex_7 : List SOp :=
   [.op ⟨(some 18), (.mv (.tmp 8)), none⟩,
    .op ⟨(some 19), (.bin .lss (.tmp 18) (.av (.int .i64 256))), none⟩,
    .op ⟨(some 20), (.mv (.tmp 19)), none⟩,
    .grp none 20 true
      [.op ⟨(some 21), (.mv (.tmp 7)), (some (20, true))⟩,
      .op ⟨(some 22), (.un .not (.tmp 21)), (some (20, true))⟩]
      23 (.tmp 22)]
def r_ref01_Unhex_8 : List SOp :=
   [.op ⟨(some 26), (.mv (.tmp 8)), none⟩,
    .op ⟨(some 27), (.bin .quo (.tmp 26) (.av (.int .i64 16))), none⟩,
    .op ⟨(some 28), (.conv .u8 (.tmp 27)), none⟩,
    .op ⟨(some 29), (.call 118 [(.tmp 28)]), none⟩,
    .op ⟨(some 30), (.mv (.tmp 5)), none⟩,
    .op ⟨(some 31), (.mv (.tmp 6)), none⟩,
    .op ⟨(some 32), (.idxS (.tmp 30) (.tmp 31)), none⟩,
    .op ⟨(some 33), (.bin .eql (.tmp 29) (.tmp 32)), none⟩,
    .op ⟨(some 34), (.mv (.tmp 33)), none⟩,
    .grp none 34 true
      [.op ⟨(some 35), (.mv (.tmp 8)), (some (34, true))⟩,
      .op ⟨(some 36), (.bin .rem (.tmp 35) (.av (.int .i64 16))), (some (34, true))⟩,
      .op ⟨(some 37), (.conv .u8 (.tmp 36)), (some (34, true))⟩,
      .op ⟨(some 38), (.call 118 [(.tmp 37)]), (some (34, true))⟩,
      .op ⟨(some 39), (.mv (.tmp 5)), (some (34, true))⟩,
      .op ⟨(some 40), (.mv (.tmp 6)), (some (34, true))⟩,
      .op ⟨(some 41), (.bin .add (.tmp 40) (.av (.int .i64 1))), (some (34, true))⟩,
      .op ⟨(some 42), (.idxS (.tmp 39) (.tmp 41)), (some (34, true))⟩,
      .op ⟨(some 43), (.bin .eql (.tmp 38) (.tmp 42)), (some (34, true))⟩]
      44 (.tmp 43)]
def r_ref01_Unhex_9 : List SOp :=
   [.op ⟨(some 45), (.mv (.tmp 4)), none⟩,
    .op ⟨(some 46), (.mv (.tmp 8)), none⟩,
    .op ⟨(some 47), (.conv .u8 (.tmp 46)), none⟩,
    .op ⟨(some 48), (.bslice false 1 1 [(.int .u8 0)] [(0, (1, (.tmp 47)))]), none⟩,
    .op ⟨(some 49), (.app 1 1 1 [(.int .u8 0)] (.tmp 45) (.tmp 48)), none⟩,
    .op ⟨(some 4), (.mv (.tmp 49)), none⟩]
def r_ref01_Unhex_10 : List SOp :=
   [.op ⟨(some 7), (.mv (.av (.bool true))), none⟩]
def r_ref01_Unhex_11 : List SOp :=
   [.op ⟨(some 24), (.mv (.tmp 8)), none⟩,
    .op ⟨(some 25), (.bin .add (.tmp 24) (.av (.int .i64 1))), none⟩,
    .op ⟨(some 8), (.mv (.tmp 25)), none⟩]
def r_ref01_Unhex_12 : List SOp :=
   [.op ⟨(some 50), (.mv (.tmp 7)), none⟩,
    .op ⟨(some 51), (.un .not (.tmp 50)), none⟩]
def r_ref01_Unhex_13 : List SOp :=
   [.op ⟨(some 2), (.mv (.av (.str []))), none⟩,
    .op ⟨(some 3), (.mv (.av (.bool false))), none⟩]
def r_ref01_Unhex_14 : List SOp :=
   [.op ⟨(some 16), (.mv (.tmp 6)), none⟩,
    .op ⟨(some 17), (.bin .add (.tmp 16) (.av (.int .i64 2))), none⟩,
    .op ⟨(some 6), (.mv (.tmp 17)), none⟩]
def r_ref01_Unhex_15 : List SOp :=
   [.op ⟨(some 52), (.mv (.tmp 0)), none⟩,
    .op ⟨(some 53), (.len true (.tmp 52)), none⟩,
    .op ⟨(some 54), (.bin .rem (.tmp 53) (.av (.int .i64 2))), none⟩,
    .op ⟨(some 55), (.bin .eql (.tmp 54) (.av (.int .i64 1))), none⟩]
def r_ref01_Unhex_16 : List SOp :=
   [.op ⟨(some 2), (.mv (.av (.str []))), none⟩,
    .op ⟨(some 3), (.mv (.av (.bool false))), none⟩]
def r_ref01_Unhex_17 : List SOp :=
   [.op ⟨(some 56), (.mv (.tmp 4)), none⟩,
    .op ⟨(some 57), (.b2s (.tmp 56)), none⟩,
    .op ⟨(some 2), (.mv (.tmp 57)), none⟩,
    .op ⟨(some 3), (.mv (.av (.bool true))), none⟩]
def c_ref01_Unhex : LFun := ⟨58, (.seq (.sreg r_ref01_Unhex_0 [])
  (.seq (.sreg r_ref01_Unhex_1 [])
  (.seq (.sreg r_ref01_Unhex_2 [true, false, false])
  (.seq (.seq (.sreg r_ref01_Unhex_3 [])
  (.block 0 (.loop (.seq (.seq (.sreg r_ref01_Unhex_4 [true, false, false, false, false])
  (.cond (.tmp 15) .skip
  (.exit 0)))
  (.seq (.block 1 (.seq (.sreg r_ref01_Unhex_5 [])
  (.seq (.seq (.sreg r_ref01_Unhex_6 [])
  (.block 2 (.loop (.seq (.seq (.sreg r_ref01_Unhex_7 [true, false, false, false])
  (.cond (.tmp 23) .skip
  (.exit 2)))
  (.seq (.block 3 (.seq (.sdreg r_ref01_Unhex_8 [.pure, .pure, .pure, (.read 0 0), .pure, .pure, (.read 0 0), .pure, .pure, .pure, .pure, .pure, (.read 0 0), .pure, .pure, .pure, (.read 0 0)] [true, false, false, false, false, false, false, false, false, false])
  (.cond (.tmp 44) (.seq (.sreg r_ref01_Unhex_9 [true, false, false, false, false, false])
  (.sreg r_ref01_Unhex_10 []))
  .skip)))
  (.sreg r_ref01_Unhex_11 [true, false, false]))))))
  (.seq (.sreg r_ref01_Unhex_12 [true, false])
  (.cond (.tmp 51) (.seq (.sreg r_ref01_Unhex_13 [])
  .ret)
  .skip)))))
  (.sreg r_ref01_Unhex_14 [true, false, false]))))))
  (.seq (.seq (.sreg r_ref01_Unhex_15 [true, false, false, false])
  (.cond (.tmp 55) (.seq (.sreg r_ref01_Unhex_16 [])
  .ret)
  .skip))
  (.seq (.sreg r_ref01_Unhex_17 [true, true, false, false])
  .ret)))))), [(.tmp 2), (.tmp 3)]⟩
attribute [push_cast] r_ref01_Unhex_0 r_ref01_Unhex_1 r_ref01_Unhex_2 r_ref01_Unhex_3 r_ref01_Unhex_4 r_ref01_Unhex_5 r_ref01_Unhex_6 r_ref01_Unhex_7 r_ref01_Unhex_8 r_ref01_Unhex_9 r_ref01_Unhex_10 r_ref01_Unhex_11 r_ref01_Unhex_12 r_ref01_Unhex_13 r_ref01_Unhex_14 r_ref01_Unhex_15 r_ref01_Unhex_16 r_ref01_Unhex_17
theorem c_ref01_Unhex_eq : lowF Tryz.prog (fun _ _ => 1) 97 = some c_ref01_Unhex.raw := by kernel_rfl

end Go.Proofs.YtffnflplocbpiaaGreatDoor.Av

namespace Go.Proofs.YtffnflplocbpiaaGreatDoor.Av
open Go
set_option maxHeartbeats 8000000
set_option maxRecDepth 100000

/-- A byte's small letter. -/
def lowB (c : UInt8) : UInt8 := if 65 ≤ c.toNat ∧ c.toNat ≤ 90 then c + 32 else c
def foldS (s : List UInt8) : List UInt8 := s.map lowB
theorem lowB_up {c : UInt8} (h1 : 65 ≤ c.toNat) (h2 : c.toNat ≤ 90) : ((lowB c).toNat : Int) = (c.toNat : Int) + 32 := by
  rw [lowB, if_pos ⟨h1, h2⟩, UInt8.toNat_add]
  have : (32 : UInt8).toNat = 32 := rfl
  omega
theorem lowB_not {c : UInt8} (h : ¬ (65 ≤ c.toNat ∧ c.toNat ≤ 90)) : lowB c = c := by rw [lowB, if_neg h]
theorem u8s_all (l : List UInt8) : (u8s l).all isU8 = true := by
  simp only [u8s, List.all_map, List.all_eq_true]
  intro x _
  have := x.toNat_lt
  simp [isU8]
theorem u8s_back (l : List UInt8) : (u8s l).map u8of = l := by
  induction l with
  | nil => rfl
  | cons x l ih =>
    simp only [u8s, List.map_cons, List.map_map] at ih ⊢
    rw [ih]
    simp [u8of]
theorem u8s_app (l : List UInt8) (c : UInt8) : u8s (l ++ [c]) = u8s l ++ [.int .u8 c.toNat] := by simp [u8s]
theorem foldS_succ {s : List UInt8} {k : Nat} (h : k < s.length) : foldS (s.take (k + 1)) = foldS (s.take k) ++ [lowB (s.getD k 0)] := by
  rw [List.take_succ_eq_append_getElem h, foldS, List.map_append]
  simp [foldS, h]

theorem rfoldM_k {s : List UInt8} (hs : (s.length : Int) ≤ 140737488351232) {L : List Blk} {K : AV → List Blk → Prop} (h : K (.str (foldS s)) L) : ACall Tryz.prog 36 [.str s] L K := by
  replace h := hid h
  refine ACall_fn c_ref01_Fold_eq (by simp [c_ref01_Fold]) ?_
  simp only [c_ref01_Fold, initT]
  refine wk ?_
  refine AW_grow (l := []) (n := 0) 3 1 rfl (Nat.zero_mul 1).symm ?_
  refine AW_loopT (fun n T' L' => ∃ (k : Nat) (v : List AV), n = s.length - k ∧ k ≤ s.length ∧ v = u8s (foldS (s.take k)) ∧ T' = [(4, .int .i64 (k : Int)), (3, .gsl v k L.length 1), (2, .str []), (0, .str s)] ∧ L' = L ++ [.spare k 1]) (Cut_same (by repeat' first | exact SubT_nil | refine SubT_cons rfl rfl ?_ | refine SubT_consF rfl rfl ?_) (by simp)) ⟨0, [], rfl, Nat.zero_le _, rfl, rfl, rfl⟩ ?_
  rintro _ _ _ ⟨k, v, rfl, hk, rfl, rfl, rfl⟩
  by_cases hlt : k < s.length
  · have h1 : (k : Int) < (s.length : Int) := by omega
    have h2 : IntKind.i64.wrap ((k : Int) + 1) = (k : Int) + 1 := wrap64_in (by omega) (by omega)
    have hsucc := hid (foldS_succ hlt)
    have e : s.getD k 0 = s.getD k 0 := rfl
    obtain ⟨c, hc⟩ : ∃ c, s.getD k 0 = c := ⟨_, rfl⟩
    rw [hc] at hsucc
    have hc255 := c.toNat_lt
    by_cases hu : 65 ≤ c.toNat ∧ c.toNat ≤ 90
    · have u1 : (65 : Int) ≤ (c.toNat : Int) := by omega
      have u2 : (c.toNat : Int) ≤ 90 := by omega
      have u3 := hid (lowB_up hu.1 hu.2)
      have u4 : IntKind.u8.wrap ((c.toNat : Int) - 65) = (c.toNat : Int) - 65 := wrapU8_in (by omega) (by omega)
      have u5 : IntKind.u8.wrap ((c.toNat : Int) - 65 + 97) = (c.toNat : Int) - 65 + 97 := wrapU8_in (by omega) (by omega)
      clear hu
      refine wk ?_
      refine Nxt_mk _ _ _ (by omega) (Cut_same (by repeat' first | exact SubT_nil | refine SubT_cons rfl rfl ?_ | refine SubT_consF rfl rfl ?_) (by simp)) ⟨k + 1, _, rfl, hlt, ?_, rfl, rfl⟩
      rw [hsucc.out, u8s_app, u3.out]
      simp only [show (c.toNat : Int) - 65 + 97 = c.toNat + 32 by omega]
    · have u3 := hid (lowB_not hu)
      have u4 : ¬ ((65 : Int) ≤ (c.toNat : Int) ∧ (c.toNat : Int) ≤ 90) := by omega
      have u5 : (decide ((65 : Int) ≤ (c.toNat : Int)) && decide ((c.toNat : Int) ≤ 90)) = false := by simp; omega
      clear hu
      repeat' first
        | refine AW_seq ?_
        | (first | refine AW_sreg (by kernel_rfl) ?_ | refine AW_sdreg (by kernel_rfl) ?_ | refine AW_dregM ?_ | refine Nx_in ?_ | refine NxI_in (fun _ => ?_) | refine AW_region ?_ | refine AW_dreg ?_)
          simp (config := { maxSteps := 2000000 }) only [Kon, push_cast, reduceIte, Nat.reduceEqDiff, Nat.reduceAdd, Nat.reduceMul, Nat.reduceSub, Nat.reduceLT, Nat.reduceLeDiff, Int.reduceLT, Int.reduceLE, Int.reduceAdd, Int.reduceSub, Int.reduceNeg, Int.reduceToNat, Int.reduceEq, reduceCtorEq, *]
        | (first | refine SelK_mk (by kernel_rfl) ?_ | refine AW_skip ?_ | refine AW_exit ?_ | refine AW_ret (Back_retR ?_))
          simp only [push_cast, reduceIte, Nat.reduceEqDiff, Nat.reduceAdd, Nat.reduceMul, Nat.reduceSub, Nat.reduceLT, Nat.reduceLeDiff, Int.reduceLT, Int.reduceLE, Int.reduceAdd, Int.reduceSub, Int.reduceNeg, Int.reduceToNat, Int.reduceEq, reduceCtorEq, *]
        | exact IsB_mk
        | first | apply GQ_mkT | apply GQ_mkTN | apply GQ_mkF | apply GQ_mkFN | apply GQ_mkB | apply GQ_mkBF
        | refine AW_block ?_
        | first | refine AW_condT rfl ?_ | refine AW_condF rfl ?_ | refine AW_condAny rfl ?_ ?_ | refine AW_condB rfl (fun _ => ?_) (fun _ => ?_) | refine AW_condN rfl (fun _ => ?_) (fun _ => ?_)
        | ((first | refine ite_introN (fun _ => ?_) (fun _ => ?_) | refine ite_intro (fun _ => ?_) (fun _ => ?_)) <;> try simp (config := { maxSteps := 2000000 }) only [Kon, push_cast, reduceIte, Nat.reduceEqDiff, Nat.reduceAdd, Nat.reduceMul, Nat.reduceSub, Nat.reduceLT, Nat.reduceLeDiff, Int.reduceLT, Int.reduceLE, Int.reduceAdd, Int.reduceSub, Int.reduceNeg, Int.reduceToNat, Int.reduceEq, reduceCtorEq, *])
        | refine And.intro trivial ?_
        | refine And.intro (by omega) ?_
        | refine AW_cond rfl (fun _ => ?_) (fun _ => ?_)
        | refine And.intro ?_ ?_
      all_goals first
        | omega
        | (refine Nxt_mk _ _ _ (by omega) (Cut_same (by repeat' first | exact SubT_nil | refine SubT_cons rfl rfl ?_ | refine SubT_consF rfl rfl ?_) (by simp)) ⟨k + 1, _, rfl, hlt, ?_, rfl, rfl⟩
           rw [hsucc.out, u8s_app, u3.out])
  · have hke : k = s.length := by omega
    subst hke
    have h1 : ¬ (s.length : Int) < (s.length : Int) := by omega
    have e1 := u8s_all (foldS s)
    have e2 := u8s_back (foldS s)
    have e3 : s.take s.length = s := List.take_length
    refine wk ?_
    exact Fin_pure rfl h.out

theorem foldM_k {s : List UInt8} (hs : (s.length : Int) ≤ 140737488351232) {L : List Blk} {K : AV → List Blk → Prop} (h : K (.str (foldS s)) L) : ACall Tryz.prog 31 [.str s] L K := by
  replace h := hid h
  refine ACall_fn c_octet_Fold_eq (by simp [c_octet_Fold]) ?_
  simp only [c_octet_Fold, initT]
  refine wk ?_
  refine AW_loopT (fun n T' L' => ∃ (k : Nat) (v : List AV), n = s.length - k ∧ k ≤ s.length ∧ v = u8s (foldS (s.take k) ++ s.drop k) ∧ T' = [(10, .int .i64 (k : Int)), (9, .int .i64 s.length), (8, .lsl L.length 0 s.length none 1), (3, .lsl L.length 0 s.length none 1), (2, .str [])] ∧ L' = L ++ [.cells v]) (Cut_same (by repeat' first | exact SubT_nil | refine SubT_cons rfl rfl ?_ | refine SubT_consF rfl rfl ?_) (by simp)) ⟨0, _, rfl, Nat.zero_le _, rfl, rfl, rfl⟩ ?_
  rintro _ _ _ ⟨k, v, rfl, hk, hv, rfl, rfl⟩
  by_cases hlt : k < s.length
  · have h1 : (k : Int) < (s.length : Int) := by omega
    have h2 : IntKind.i64.wrap ((k : Int) + 1) = (k : Int) + 1 := wrap64_in (by omega) (by omega)
    obtain ⟨c, hc⟩ : ∃ c, s.getD k 0 = c := ⟨_, rfl⟩
    have hd : s.drop k = c :: s.drop (k + 1) := by
      rw [List.drop_eq_getElem_cons hlt, ← hc, List.getD_eq_getElem?_getD, List.getElem?_eq_getElem hlt]; rfl
    have hlk : (foldS (s.take k)).length = k := by simp [foldS]; omega
    have hv1 : v = u8s (foldS (s.take k)) ++ .int .u8 c.toNat :: u8s (s.drop (k + 1)) := by rw [hv, hd]; simp [u8s]
    have hl2 : (u8s (foldS (s.take k))).length = k := by simp [u8s, hlk]
    have hvl : v.length = s.length := by rw [hv]; simp [u8s, foldS]; omega
    have hvk : k < v.length := by omega
    have hvg : v.getD k .undef = .int .u8 c.toNat := by rw [hv1]; simp [List.getD_eq_getElem?_getD, List.getElem?_append_right, hl2]
    have hsucc := foldS_succ hlt
    rw [hc] at hsucc
    have hnew : u8s (foldS (s.take (k + 1)) ++ s.drop (k + 1)) = u8s (foldS (s.take k)) ++ .int .u8 (lowB c).toNat :: u8s (s.drop (k + 1)) := by rw [hsucc]; simp [u8s]
    have hspl : ∀ x, v.take k ++ x :: v.drop (k + 1) = u8s (foldS (s.take k)) ++ x :: u8s (s.drop (k + 1)) := fun x => by
      rw [hv1, List.take_left' hl2, List.drop_append, hl2, List.drop_eq_nil_of_le (by omega), show k + 1 - k = 1 by omega]; rfl
    clear hv hd hlk hsucc
    replace hv1 := hid hv1
    replace hnew := hid hnew
    replace hspl := hid hspl
    have hc255 := c.toNat_lt
    by_cases hu : 65 ≤ c.toNat ∧ c.toNat ≤ 90
    · have u1 : (65 : Int) ≤ (c.toNat : Int) := by omega
      have u2 : (c.toNat : Int) ≤ 90 := by omega
      have u3 := hid (lowB_up hu.1 hu.2)
      have u4 : IntKind.u8.wrap ((c.toNat : Int) + 32) = (c.toNat : Int) + 32 := wrapU8_in (by omega) (by omega)
      clear hu
      refine wk ?_
      refine Nxt_mk _ _ _ (by omega) (Cut_same (by repeat' first | exact SubT_nil | refine SubT_cons rfl rfl ?_ | refine SubT_consF rfl rfl ?_) (by simp)) ⟨k + 1, _, rfl, hlt, ?_, rfl, rfl⟩
      rw [hnew.out, u3.out]
      exact hspl.out _
    · have u3 := hid (lowB_not hu)
      have u5 : (decide ((65 : Int) ≤ (c.toNat : Int)) && decide ((c.toNat : Int) ≤ 90)) = false := by simp; omega
      clear hu
      repeat' first
        | refine AW_seq ?_
        | (first | refine AW_sreg (by kernel_rfl) ?_ | refine AW_sdreg (by kernel_rfl) ?_ | refine AW_dregM ?_ | refine Nx_in ?_ | refine NxI_in (fun _ => ?_) | refine AW_region ?_ | refine AW_dreg ?_)
          simp (config := { maxSteps := 2000000 }) only [Kon, push_cast, reduceIte, Nat.reduceEqDiff, Nat.reduceAdd, Nat.reduceMul, Nat.reduceSub, Nat.reduceLT, Nat.reduceLeDiff, Int.reduceLT, Int.reduceLE, Int.reduceAdd, Int.reduceSub, Int.reduceNeg, Int.reduceToNat, Int.reduceEq, reduceCtorEq, *]
        | (first | refine SelK_mk (by kernel_rfl) ?_ | refine AW_skip ?_ | refine AW_exit ?_ | refine AW_ret (Back_retR ?_))
          simp only [push_cast, reduceIte, Nat.reduceEqDiff, Nat.reduceAdd, Nat.reduceMul, Nat.reduceSub, Nat.reduceLT, Nat.reduceLeDiff, Int.reduceLT, Int.reduceLE, Int.reduceAdd, Int.reduceSub, Int.reduceNeg, Int.reduceToNat, Int.reduceEq, reduceCtorEq, *]
        | exact IsB_mk
        | first | apply GQ_mkT | apply GQ_mkTN | apply GQ_mkF | apply GQ_mkFN | apply GQ_mkB | apply GQ_mkBF
        | refine AW_block ?_
        | first | refine AW_condT rfl ?_ | refine AW_condF rfl ?_ | refine AW_condAny rfl ?_ ?_ | refine AW_condB rfl (fun _ => ?_) (fun _ => ?_) | refine AW_condN rfl (fun _ => ?_) (fun _ => ?_)
        | ((first | refine ite_introN (fun _ => ?_) (fun _ => ?_) | refine ite_intro (fun _ => ?_) (fun _ => ?_)) <;> try simp (config := { maxSteps := 2000000 }) only [Kon, push_cast, reduceIte, Nat.reduceEqDiff, Nat.reduceAdd, Nat.reduceMul, Nat.reduceSub, Nat.reduceLT, Nat.reduceLeDiff, Int.reduceLT, Int.reduceLE, Int.reduceAdd, Int.reduceSub, Int.reduceNeg, Int.reduceToNat, Int.reduceEq, reduceCtorEq, *])
        | refine And.intro trivial ?_
        | refine And.intro (by omega) ?_
        | refine AW_cond rfl (fun _ => ?_) (fun _ => ?_)
        | refine And.intro ?_ ?_
      all_goals first
        | omega
        | (refine Nxt_mk _ _ _ (by omega) (Cut_same (by repeat' first | exact SubT_nil | refine SubT_cons rfl rfl ?_ | refine SubT_consF rfl rfl ?_) (by simp)) ⟨k + 1, _, rfl, hlt, ?_, rfl, rfl⟩
           rw [hnew.out, u3.out]
           exact hv1.out)
  · have hke : k = s.length := by omega
    subst hke
    have h1 : ¬ (s.length : Int) < (s.length : Int) := by omega
    have hv1 : v = u8s (foldS s) := by rw [hv]; simp
    clear hv
    subst hv1
    have e1 := u8s_all (foldS s)
    have e2 := u8s_back (foldS s)
    have e4 : (u8s (foldS s)).length = s.length := by simp [u8s, foldS]
    have e5 : (u8s (foldS s)).take s.length = u8s (foldS s) := by rw [← e4]; exact List.take_length
    refine wk ?_
    exact Fin_pure rfl h.out
theorem rfold_k {s : List UInt8} (hs : (s.length : Int) ≤ 100000) {L : List Blk} {K : AV → List Blk → Prop} (h : K (.str (foldS s)) L) : ACall Tryz.prog 36 [.str s] L K := rfoldM_k (by omega) h
theorem fold_k {s : List UInt8} (hs : (s.length : Int) ≤ 100000) {L : List Blk} {K : AV → List Blk → Prop} (h : K (.str (foldS s)) L) : ACall Tryz.prog 31 [.str s] L K := foldM_k (by omega) h
end Go.Proofs.YtffnflplocbpiaaGreatDoor.Av

namespace Go.Proofs.YtffnflplocbpiaaGreatDoor.Av
open Go
set_option maxHeartbeats 8000000
set_option maxRecDepth 100000

/-- What a hex digit stands for. -/
def hexV (c : UInt8) : Option Nat := if 48 ≤ c.toNat ∧ c.toNat ≤ 57 then some (c.toNat - 48) else if 97 ≤ c.toNat ∧ c.toNat ≤ 102 then some (c.toNat - 87) else if 65 ≤ c.toNat ∧ c.toNat ≤ 70 then some (c.toNat - 55) else none
theorem hexV_lt {c : UInt8} {x : Nat} (h : hexV c = some x) : x < 16 := by
  unfold hexV at h
  split at h
  · cases h; omega
  · split at h
    · cases h; omega
    · split at h
      · cases h; omega
      · cases h
theorem half_k {c : UInt8} {L : List Blk} {K : AV → List Blk → Prop} (h : K (.tup [.int .u8 ((hexV c).getD 0 : Nat), .bool (hexV c).isSome]) L) : ACall Tryz.prog 112 [.int .u8 c.toNat] L K := by
  have hc := c.toNat_lt
  obtain ⟨n, hn⟩ : ∃ n, c.toNat = n := ⟨_, rfl⟩
  unfold hexV at h
  rw [hn] at h hc ⊢
  clear hn
  refine ACall_fn c_octet_half_eq (by simp [c_octet_half]) ?_
  simp only [c_octet_half, initT]
  by_cases h1 : 48 ≤ n ∧ n ≤ 57
  · rw [if_pos h1] at h
    replace h := hid h
    obtain ⟨a1, a2⟩ := h1
    have b1 : (48 : Int) ≤ (n : Int) := by omega
    have b2 : (n : Int) ≤ 57 := by omega
    have b3 : IntKind.u8.wrap ((n : Int) - 48) = (n : Int) - 48 := wrapU8_in (by omega) (by omega)
    clear a1 a2
    refine wk ?_
    refine Fin_same ?_
    have := h.out
    simpa [show ((n - 48 : Nat) : Int) = (n : Int) - 48 by omega] using this
  · rw [if_neg h1] at h
    have c1 : (decide ((48 : Int) ≤ (n : Int)) && decide ((n : Int) ≤ 57)) = false := by simp; omega
    by_cases h2 : 97 ≤ n ∧ n ≤ 102
    · rw [if_pos h2] at h
      replace h := hid h
      obtain ⟨a1, a2⟩ := h2
      have b1 : (97 : Int) ≤ (n : Int) := by omega
      have b2 : (n : Int) ≤ 102 := by omega
      have b4 : IntKind.u8.wrap ((n : Int) - 97) = (n : Int) - 97 := wrapU8_in (by omega) (by omega)
      have b5 : IntKind.u8.wrap ((n : Int) - 97 + 10) = (n : Int) - 97 + 10 := wrapU8_in (by omega) (by omega)
      clear a1 a2 h1
      refine wk ?_
      refine Fin_same ?_
      have := h.out
      simpa [show ((n - 87 : Nat) : Int) = (n : Int) - 97 + 10 by omega] using this
    · rw [if_neg h2] at h
      have c2 : (decide ((97 : Int) ≤ (n : Int)) && decide ((n : Int) ≤ 102)) = false := by simp; omega
      by_cases h3 : 65 ≤ n ∧ n ≤ 70
      · rw [if_pos h3] at h
        replace h := hid h
        obtain ⟨a1, a2⟩ := h3
        have b1 : (65 : Int) ≤ (n : Int) := by omega
        have b2 : (n : Int) ≤ 70 := by omega
        have b4 : IntKind.u8.wrap ((n : Int) - 65) = (n : Int) - 65 := wrapU8_in (by omega) (by omega)
        have b5 : IntKind.u8.wrap ((n : Int) - 65 + 10) = (n : Int) - 65 + 10 := wrapU8_in (by omega) (by omega)
        clear a1 a2 h1 h2
        refine wk ?_
        refine Fin_same ?_
        have := h.out
        simpa [show ((n - 55 : Nat) : Int) = (n : Int) - 65 + 10 by omega] using this
      · rw [if_neg h3] at h
        have c3 : (decide ((65 : Int) ≤ (n : Int)) && decide ((n : Int) ≤ 70)) = false := by simp; omega
        replace h := hid h
        clear h1 h2 h3
        repeat' first
          | refine AW_seq ?_
          | (first | refine AW_sreg (by kernel_rfl) ?_ | refine AW_sdreg (by kernel_rfl) ?_ | refine AW_dregM ?_ | refine Nx_in ?_ | refine NxI_in (fun _ => ?_) | refine AW_region ?_ | refine AW_dreg ?_)
            simp (config := { maxSteps := 2000000 }) only [Kon, push_cast, reduceIte, Nat.reduceEqDiff, Nat.reduceAdd, Nat.reduceMul, Nat.reduceSub, Nat.reduceLT, Nat.reduceLeDiff, Int.reduceLT, Int.reduceLE, Int.reduceAdd, Int.reduceSub, Int.reduceNeg, Int.reduceToNat, Int.reduceEq, reduceCtorEq, *]
          | (first | refine SelK_mk (by kernel_rfl) ?_ | refine AW_skip ?_ | refine AW_exit ?_ | refine AW_ret (Back_retR ?_))
            simp only [push_cast, reduceIte, Nat.reduceEqDiff, Nat.reduceAdd, Nat.reduceMul, Nat.reduceSub, Nat.reduceLT, Nat.reduceLeDiff, Int.reduceLT, Int.reduceLE, Int.reduceAdd, Int.reduceSub, Int.reduceNeg, Int.reduceToNat, Int.reduceEq, reduceCtorEq, *]
          | exact IsB_mk
          | first | apply GQ_mkT | apply GQ_mkTN | apply GQ_mkF | apply GQ_mkFN | apply GQ_mkB | apply GQ_mkBF
          | refine AW_block ?_
          | first | refine AW_condT rfl ?_ | refine AW_condF rfl ?_ | refine AW_condAny rfl ?_ ?_ | refine AW_condB rfl (fun _ => ?_) (fun _ => ?_) | refine AW_condN rfl (fun _ => ?_) (fun _ => ?_)
          | ((first | refine ite_introN (fun _ => ?_) (fun _ => ?_) | refine ite_intro (fun _ => ?_) (fun _ => ?_)) <;> try simp (config := { maxSteps := 2000000 }) only [Kon, push_cast, reduceIte, Nat.reduceEqDiff, Nat.reduceAdd, Nat.reduceMul, Nat.reduceSub, Nat.reduceLT, Nat.reduceLeDiff, Int.reduceLT, Int.reduceLE, Int.reduceAdd, Int.reduceSub, Int.reduceNeg, Int.reduceToNat, Int.reduceEq, reduceCtorEq, *])
          | refine And.intro trivial ?_
          | refine And.intro (by omega) ?_
          | refine AW_cond rfl (fun _ => ?_) (fun _ => ?_)
          | refine And.intro ?_ ?_
        all_goals first
          | omega
          | (refine Fin_same ?_; simpa using h.out)

def hex2 (a b : UInt8) : Option UInt8 := match hexV a, hexV b with
  | some x, some y => some (UInt8.ofNat (16 * x + y))
  | _, _ => none
/-- What Unhex answers of two bytes. -/
def hexR (a b : UInt8) : AV := match hex2 a b with
  | some c => .tup [.str [c], .bool true]
  | none => .tup [.str [], .bool false]
theorem shl_or : ∀ x y : _root_.Fin 16, IntKind.u8.wrap (((BitVec.ofInt IntKind.u8.bits (IntKind.u8.wrap ((x.val : Int) * 2 ^ min 4 IntKind.u8.bits)) ||| BitVec.ofInt IntKind.u8.bits (y.val : Int)).toNat : Nat) : Int) = 16 * (x.val : Int) + (y.val : Int) := by decide +kernel
theorem unhex2_k {a b : UInt8} {L : List Blk} {K : AV → List Blk → Prop} (h : K (hexR a b) L) : ACall Tryz.prog 91 [.str [a, b]] L K := by
  have hl : [a, b].length = 2 := rfl
  have ha : [a, b].getD 0 0 = a := rfl
  have hb : [a, b].getD 1 0 = b := rfl
  have d1 : IntKind.i64.wrap (Int.tdiv 2 2) = 1 := by decide
  have d2 : Int.tmod 2 2 = 0 := by decide
  have d3 : replC [AV.int IntKind.u8 0] 1 = [AV.int IntKind.u8 0] := rfl
  have d4 : IntKind.i64.wrap 1 = 1 := by decide
  have d5 : IntKind.i64.wrap 2 = 2 := by decide
  replace h := hid h
  refine ACall_fn c_octet_Unhex_eq (by simp [c_octet_Unhex]) ?_
  simp only [c_octet_Unhex, initT]
  refine wk ?_
  refine AW_loopT (fun n T' L' => (n = 1 ∧ T' = [(5, .int .i64 0), (4, .lsl L.length 0 0 (some 1) 1), (0, .str [a, b])] ∧ L' = L ++ [.cells [.int .u8 0]]) ∨ (n = 0 ∧ ∃ x y : Nat, Hid (hexV a = some x) ∧ Hid (hexV b = some y) ∧ T' = [(5, .int .i64 2), (4, .lsl (L.length + 1) 0 1 none 1), (0, .str [a, b])] ∧ L' = L ++ [.dead, .cells [.int .u8 ((16 * x + y : Nat) : Int)]])) (n0 := 1) (T0 := [(5, .int .i64 0), (4, .lsl L.length 0 0 (some 1) 1), (0, .str [a, b])]) (L0 := L ++ [.cells [.int .u8 0]]) (Cut_same (by repeat' first | exact SubT_nil | refine SubT_cons rfl rfl ?_ | refine SubT_consF rfl rfl ?_) (by simp)) (.inl ⟨rfl, rfl, rfl⟩) ?_
  rintro _ _ _ (⟨rfl, rfl, rfl⟩ | ⟨rfl, x, y, hx, hy, rfl, rfl⟩)
  · rcases hx : hexV a with _ | x
    · have h' := h.out
      simp only [hexR, hex2, hx] at h'
      replace h' := hid h'
      have e1 : (hexV a).getD 0 = 0 := by rw [hx]; rfl
      have e2 : (hexV a).isSome = false := by rw [hx]; rfl
      clear hx
      have kk1 := @hid _ @half_k
      refine wk ?_
      exact Fin_pure rfl h'.out
    · have e1 : (hexV a).getD 0 = x := by rw [hx]; rfl
      have e2 : (hexV a).isSome = true := by rw [hx]; rfl
      have hx' := hid hx
      rcases hy : hexV b with _ | y
      · have h' := h.out
        simp only [hexR, hex2, hx, hy] at h'
        replace h' := hid h'
        have e3 : (hexV b).getD 0 = 0 := by rw [hy]; rfl
        have e4 : (hexV b).isSome = false := by rw [hy]; rfl
        clear hx hy
        have kk1 := @hid _ @half_k
        refine wk ?_
        exact Fin_pure rfl h'.out
      · have e3 : (hexV b).getD 0 = y := by rw [hy]; rfl
        have e4 : (hexV b).isSome = true := by rw [hy]; rfl
        have hy' := hid hy
        have e5 := shl_or ⟨x, hexV_lt hx⟩ ⟨y, hexV_lt hy⟩
        simp only at e5
        clear hx hy
        have kk1 := @hid _ @half_k
        refine wk ?_
        refine Nxt_mk 0 _ _ (by omega) (Cut_same (by repeat' first | exact SubT_nil | refine SubT_cons rfl rfl ?_ | refine SubT_consF rfl rfl ?_ | refine SubT_cons rfl (congrArg (AV.int _) (by omega)) ?_ | refine SubT_cons rfl (by first | (simp_all; done) | (simp_all; omega) | (simp_all; intros; omega)) ?_) (by simp)) (.inr ⟨rfl, x, y, hid rfl, hid rfl, rfl, ?_⟩)
        first | rfl | rw [e5]
  · have h' := h.out
    simp only [hexR, hex2, hx.out, hy.out] at h'
    replace h' := hid h'
    have lx := hexV_lt hx.out
    have ly := hexV_lt hy.out
    have u1 : isU8 (.int .u8 (16 * (x : Int) + (y : Int))) = true := rfl
    have u2 : u8of (.int .u8 (16 * (x : Int) + (y : Int))) = UInt8.ofNat (16 * x + y) := by
      simp only [u8of]
      rw [show (16 * (x : Int) + (y : Int)).toNat = 16 * x + y by omega]
    refine wk ?_
    exact Fin_pure rfl h'.out
end Go.Proofs.YtffnflplocbpiaaGreatDoor.Av

namespace Go.Proofs.YtffnflplocbpiaaGreatDoor.Av
open Go
set_option maxHeartbeats 8000000
set_option maxRecDepth 100000

/-- Is the last byte a blank, or is there none? -/
def endsB (b : List UInt8) : Bool := b.isEmpty || b.getLast? == some 32
def prepStep (b : List UInt8) (c : UInt8) : List UInt8 := if c = 32 ∧ endsB b = true then b else b ++ [c]
def prepL (s : List UInt8) : List UInt8 := s.foldl prepStep []
def trimB (b : List UInt8) : List UInt8 := if b.getLast? = some 32 then b.dropLast else b
/-- A text as octet.Prep makes it. -/
def prepS (s : List UInt8) : List UInt8 := trimB (prepL (foldS s))

theorem prepStep_len (b : List UInt8) (c : UInt8) : (prepStep b c).length ≤ b.length + 1 := by
  unfold prepStep; split <;> simp
theorem prepL_succ {s : List UInt8} {k : Nat} (h : k < s.length) : prepL (s.take (k + 1)) = prepStep (prepL (s.take k)) (s.getD k 0) := by
  rw [List.take_succ_eq_append_getElem h, prepL, List.foldl_append]
  simp [prepL, h]
theorem prepL_len (s : List UInt8) : ∀ k, (prepL (s.take k)).length ≤ k
  | 0 => by simp [prepL]
  | k + 1 => by
    have ih := prepL_len s k
    by_cases h : k < s.length
    · rw [prepL_succ h]
      have := prepStep_len (prepL (s.take k)) (s.getD k 0)
      omega
    · rw [List.take_of_length_le (by omega), ← List.take_of_length_le (l := s) (i := k) (by omega)]; omega

theorem prep_k {s : List UInt8} (hs : (s.length : Int) ≤ 100000) {L : List Blk} {K : AV → List Blk → Prop} (h : K (.str (prepS s)) L) : ACall Tryz.prog 15 [.str s] L K := by
  replace h := hid h
  refine ACall_fn c_octet_Prep_eq (by simp [c_octet_Prep]) ?_
  simp only [c_octet_Prep, initT]
  obtain ⟨t, ht⟩ : ∃ t, foldS s = t := ⟨_, rfl⟩
  have htl : (t.length : Int) ≤ 100000 := by rw [← ht]; simpa [foldS] using hs
  have kk1 := @hid _ (fun L K => fold_k hs (L := L) (K := K))
  refine wk ?_
  refine AW_grow (l := []) (n := 0) 3 1 rfl (Nat.zero_mul 1).symm ?_
  refine AW_loopT (fun n T' L' => ∃ (k : Nat) (b : List UInt8) (v : List AV) (m : Nat), n = t.length - k ∧ k ≤ t.length ∧ b = prepL (t.take k) ∧ v = u8s b ∧ m = b.length ∧ T' = [(10, .int .i64 (k : Int)), (9, .int .i64 t.length), (8, .sl (u8s t) t.length none), (3, .gsl v m L.length 1), (2, .str [])] ∧ L' = L ++ [.spare m 1]) (Cut_same (by repeat' first | exact SubT_nil | refine SubT_cons rfl rfl ?_ | refine SubT_consF rfl rfl ?_) (by simp)) ⟨0, [], [], 0, rfl, Nat.zero_le _, rfl, rfl, rfl, rfl, rfl⟩ ?_
  rintro _ _ _ ⟨k, b, v, m, rfl, hk, hb, rfl, rfl, rfl, rfl⟩
  replace hb := hid hb
  by_cases hlt : k < t.length
  · have h1 : (k : Int) < (t.length : Int) := by omega
    have h2 : IntKind.i64.wrap ((k : Int) + 1) = (k : Int) + 1 := wrap64_in (by omega) (by omega)
    have hsucc := hid (prepL_succ hlt)
    obtain ⟨c, hc⟩ : ∃ c, t.getD k 0 = c := ⟨_, rfl⟩
    have hg : (u8s t).getD k .undef = .int .u8 c.toNat := by simp [u8s, hlt, ← hc]
    have hlk : k < (u8s t).length := by simpa [u8s] using hlt
    rw [hc] at hsucc
    have hbl : b.length ≤ k := by rw [hb.out]; exact prepL_len t k
    -- what the step comes to
    have hstep : ∀ b', b' = prepStep b c → b' = prepL (t.take (k + 1)) := fun b' e => by rw [hsucc.out, ← hb.out]; exact e
    have c32 : ((c.toNat : Int) = 32) ↔ c = 32 := ⟨fun e => UInt8.toNat_inj.1 (by have : (32 : UInt8).toNat = 32 := rfl; omega), fun e => by rw [e]; rfl⟩
    replace hstep := hid hstep
    replace c32 := hid c32
    clear hsucc hb hc
    have hub : (u8s b).length = b.length := by simp [u8s]
    have rest : ∀ b', b' = prepStep b c → b'.length ≤ b.length + 1 := fun b' e => by rw [e]; exact prepStep_len b c
    clear rest
    by_cases hc : (c.toNat : Int) = 32
    · rcases List.eq_nil_or_concat b with hb0 | ⟨d, x, hb0⟩
      · have e0 : (b.length : Int) = 0 := by rw [hb0]; rfl
        have e1 := hid (hstep.out b (by rw [prepStep, if_pos ⟨c32.out.1 hc, by rw [hb0]; rfl⟩]))
        clear hb0
        refine wk ?_
        exact Nxt_mk _ _ _ (by omega) (Cut_same (by repeat' first | exact SubT_nil | refine SubT_cons rfl rfl ?_ | refine SubT_consF rfl rfl ?_) (by simp)) ⟨k + 1, b, _, _, rfl, hlt, e1.out, rfl, rfl, rfl, rfl⟩
      · have e0 : ¬ (b.length : Int) = 0 := by rw [hb0]; simp; omega
        have e1 : IntKind.i64.wrap ((b.length : Int) - 1) = (d.length : Int) := by rw [wrap64_in (by omega) (by omega), hb0]; simp
        have e2 : (u8s b).getD d.length .undef = .int .u8 x.toNat := by rw [hb0]; simp [u8s, List.getD_eq_getElem?_getD]
        have e3 : d.length < (u8s b).length := by rw [hb0]; simp [u8s]
        have e4 : (d.length : Int) < (b.length : Int) := by rw [hb0]; simp; omega
        have x32 : x = 32 ↔ (x.toNat : Int) = 32 := ⟨fun e => by rw [e]; rfl, fun e => UInt8.toNat_inj.1 (by have : (32 : UInt8).toNat = 32 := rfl; omega)⟩
        have hend : endsB b = true ↔ x = 32 := by rw [hb0]; simp [endsB]
        replace hb0 := hid hb0
        replace x32 := hid x32
        replace hend := hid hend
        by_cases hx : (x.toNat : Int) = 32
        · have e5 := hid (hstep.out b (by rw [prepStep, if_pos ⟨c32.out.1 hc, hend.out.2 (x32.out.2 hx)⟩]))
          refine wk ?_
          exact Nxt_mk _ _ _ (by omega) (Cut_same (by repeat' first | exact SubT_nil | refine SubT_cons rfl rfl ?_ | refine SubT_consF rfl rfl ?_) (by simp)) ⟨k + 1, b, _, _, rfl, hlt, e5.out, rfl, rfl, rfl, rfl⟩
        · have e5 := hid (hstep.out (b ++ [c]) (by rw [prepStep, if_neg fun e => hx (x32.out.1 (hend.out.1 e.2))]))
          refine wk ?_
          exact Nxt_mk _ _ _ (by omega) (Cut_same (by repeat' first | exact SubT_nil | refine SubT_cons rfl rfl ?_ | refine SubT_consF rfl rfl ?_) (by simp)) ⟨k + 1, b ++ [c], _, _, rfl, hlt, e5.out, (by rw [u8s_app, hc]), (by simp), rfl, rfl⟩
    · have e1 := hid (hstep.out (b ++ [c]) (by rw [prepStep, if_neg fun e => hc (c32.out.2 e.1)]))
      refine wk ?_
      exact Nxt_mk _ _ _ (by omega) (Cut_same (by repeat' first | exact SubT_nil | refine SubT_cons rfl rfl ?_ | refine SubT_consF rfl rfl ?_) (by simp)) ⟨k + 1, b ++ [c], _, _, rfl, hlt, e1.out, (u8s_app b c).symm, (by simp), rfl, rfl⟩
  · have hke : k = t.length := by omega
    subst hke
    have h1 : ¬ (t.length : Int) < (t.length : Int) := by omega
    have hbl : b.length ≤ t.length := by rw [hb.out]; exact prepL_len t _
    have hub : (u8s b).length = b.length := by simp [u8s]
    have hfin : trimB b = prepS s := by rw [prepS, ht, hb.out, List.take_length]
    have e1 := u8s_all b
    have e2 := u8s_back b
    replace hb := hid hfin
    clear hfin
    rcases List.eq_nil_or_concat b with hb0 | ⟨d, x, hb0⟩
    · have e0 : ¬ (0 : Int) < (b.length : Int) := by rw [hb0]; simp
      have e3 := hid (show b = prepS s by rw [← hb.out, hb0]; rfl)
      clear hb0
      refine wk ?_
      refine Fin_pure rfl ?_
      rw [e3.out]; exact h.out
    · have e0 : (0 : Int) < (b.length : Int) := by rw [hb0]; simp; try omega
      have e3 : IntKind.i64.wrap ((b.length : Int) - 1) = (d.length : Int) := by rw [wrap64_in (by omega) (by omega), hb0]; simp
      have e4 : (u8s b).getD d.length .undef = .int .u8 x.toNat := by rw [hb0]; simp [u8s, List.getD_eq_getElem?_getD]
      have e5 : d.length < (u8s b).length := by rw [hb0]; simp [u8s]
      have e6 : (d.length : Int) < (b.length : Int) := by rw [hb0]; simp; omega
      have e7 : (u8s b).take d.length = u8s d := by rw [hb0]; simp [u8s]
      have e10 : (u8s d).length = d.length := by simp [u8s]
      have e8 := u8s_all d
      have e9 := u8s_back d
      have x32 : x = 32 ↔ (x.toNat : Int) = 32 := ⟨fun e => by rw [e]; rfl, fun e => UInt8.toNat_inj.1 (by have : (32 : UInt8).toNat = 32 := rfl; omega)⟩
      have htr : trimB b = if x = 32 then d else b := by rw [hb0]; simp [trimB]
      replace hb0 := hid hb0
      replace htr := hid htr
      by_cases hx : (x.toNat : Int) = 32
      · have r := hid (show d = prepS s by rw [← hb.out, htr.out, if_pos (x32.2 hx)])
        replace x32 := hid x32
        refine wk ?_
        refine Fin_pure rfl ?_
        rw [r.out]; exact h.out
      · have r := hid (show b = prepS s by rw [← hb.out, htr.out, if_neg fun e => hx (x32.1 e)])
        replace x32 := hid x32
        refine wk ?_
        refine Fin_pure rfl ?_
        rw [r.out]; exact h.out
end Go.Proofs.YtffnflplocbpiaaGreatDoor.Av
