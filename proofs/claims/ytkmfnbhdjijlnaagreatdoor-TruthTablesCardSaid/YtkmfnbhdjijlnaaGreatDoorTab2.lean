/- Bodies of functions, lowered: printed by a program (wip/tools/lowx.py); each is held against the program by the kernel. -/
import Derived.Test.YtkmfnbhdjijlnaaGreatDoorExE
import Derived.Test.YtkmfnbhdjijlnaaGreatDoorRows
import Derived.KernelRfl
set_option maxRecDepth 100000
set_option linter.unusedSimpArgs false
set_option linter.unusedVariables false
namespace Go.Proofs.YtkmfnbhdjijlnaaGreatDoor.Av
open Go

/-! castellan/dn.Parse -/
def r_f151_0 : List SOp :=
   [.op ⟨(some 2), (.mv (.av (.sl [] 0 (some 0)))), none⟩,
    .op ⟨(some 3), (.mv (.av (.int .i64 0))), none⟩]
def r_f151_1 : List SOp :=
   [.op ⟨(some 10), (.mv (.tmp 0)), none⟩,
    .op ⟨(some 11), (.len true (.tmp 10)), none⟩,
    .op ⟨(some 12), (.bin .gtr (.tmp 11) (.av (.int .i64 4096))), none⟩]
def r_f151_2 : List SOp :=
   [.op ⟨(some 2), (.mv (.av (.sl [] 0 (some 0)))), none⟩,
    .op ⟨(some 3), (.mv (.av (.int .i64 5))), none⟩]
def r_f151_3 : List SOp :=
   [.op ⟨(some 13), (.mv (.tmp 0)), none⟩,
    .op ⟨(some 14), (.bin .eql (.tmp 13) (.av (.str []))), none⟩]
def r_f151_4 : List SOp :=
   [.op ⟨(some 2), (.mv (.av (.sl [] 0 (some 0)))), none⟩,
    .op ⟨(some 3), (.mv (.av (.int .i64 0))), none⟩]
def r_f151_5 : List SOp :=
   [.op ⟨(some 4), (.mv (.av (.sl [] 0 (some 0)))), none⟩]
def r_f151_6 : List SOp :=
   [.op ⟨(some 5), (.mv (.av (.sl [] 0 (some 0)))), none⟩]
def r_f151_7 : List SOp :=
   [.op ⟨(some 15), (.mv (.tmp 4)), none⟩,
    .op ⟨(some 16), (.len false (.tmp 15)), none⟩,
    .op ⟨(some 17), (.bin .eql (.tmp 16) (.av (.int .i64 32))), none⟩,
    .op ⟨(some 18), (.mv (.tmp 17)), none⟩,
    .grp none 18 false
      [.op ⟨(some 19), (.mv (.tmp 5)), (some (18, false))⟩,
      .op ⟨(some 20), (.len false (.tmp 19)), (some (18, false))⟩,
      .op ⟨(some 21), (.bin .eql (.tmp 20) (.av (.int .i64 8))), (some (18, false))⟩]
      22 (.tmp 21)]
def r_f151_8 : List SOp :=
   [.op ⟨(some 2), (.mv (.av (.sl [] 0 (some 0)))), none⟩,
    .op ⟨(some 3), (.mv (.av (.int .i64 9))), none⟩]
def r_f151_9 : List SOp :=
   [.op ⟨(some 24), (.mv (.tmp 0)), none⟩,
    .op ⟨(some 25), (.call 208 [(.tmp 24), (.av (.str [61]))]), none⟩,
    .op ⟨(some 23), (.mv (.tmp 25)), none⟩,
    .op ⟨(some 26), (.extract (.tmp 23) 0), none⟩,
    .op ⟨(some 27), (.extract (.tmp 23) 1), none⟩,
    .op ⟨(some 28), (.extract (.tmp 23) 2), none⟩,
    .op ⟨(some 6), (.mv (.tmp 26)), none⟩,
    .op ⟨(some 7), (.mv (.tmp 27)), none⟩,
    .op ⟨(some 8), (.mv (.tmp 28)), none⟩]
def r_f151_10 : List SOp :=
   [.op ⟨(some 29), (.mv (.tmp 8)), none⟩,
    .op ⟨(some 30), (.un .not (.tmp 29)), none⟩,
    .op ⟨(some 31), (.mv (.tmp 30)), none⟩,
    .op ⟨(some 32), (.mv (.tmp 6)), (some (31, false))⟩,
    .op ⟨(some 33), (.call 209 [(.tmp 32)]), (some (31, false))⟩,
    .op ⟨(some 34), (.un .not (.tmp 33)), (some (31, false))⟩,
    .op ⟨(some 35), (.pick (.tmp 31) (.av (.bool true)) (.tmp 34)), none⟩]
def r_f151_11 : List SOp :=
   [.op ⟨(some 2), (.mv (.av (.sl [] 0 (some 0)))), none⟩,
    .op ⟨(some 3), (.mv (.av (.int .i64 4))), none⟩]
def r_f151_12 : List SOp :=
   [.op ⟨(some 36), (.mv (.tmp 5)), none⟩,
    .op ⟨(some 37), (.mv (.tmp 6)), none⟩,
    .op ⟨(some 38), (.call 210 [(.tmp 36), (.tmp 37)]), none⟩]
def r_f151_13 : List SOp :=
   [.op ⟨(some 2), (.mv (.av (.sl [] 0 (some 0)))), none⟩,
    .op ⟨(some 3), (.mv (.av (.int .i64 21))), none⟩]
def r_f151_14 : List SOp :=
   [.op ⟨(some 40), (.mv (.tmp 7)), none⟩,
    .op ⟨(some 41), (.call 211 [(.tmp 40)]), none⟩,
    .op ⟨(some 39), (.mv (.tmp 41)), none⟩,
    .op ⟨(some 42), (.extract (.tmp 39) 0), none⟩,
    .op ⟨(some 43), (.extract (.tmp 39) 1), none⟩,
    .op ⟨(some 44), (.extract (.tmp 39) 2), none⟩,
    .op ⟨(some 9), (.mv (.tmp 42)), none⟩,
    .op ⟨(some 7), (.mv (.tmp 43)), none⟩,
    .op ⟨(some 8), (.mv (.tmp 44)), none⟩]
def r_f151_15 : List SOp :=
   [.op ⟨(some 45), (.mv (.tmp 8)), none⟩,
    .op ⟨(some 46), (.un .not (.tmp 45)), none⟩]
def r_f151_16 : List SOp :=
   [.op ⟨(some 2), (.mv (.av (.sl [] 0 (some 0)))), none⟩,
    .op ⟨(some 3), (.mv (.av (.int .i64 4))), none⟩]
def r_f151_17 : List SOp :=
   [.op ⟨(some 47), (.mv (.tmp 5)), none⟩,
    .op ⟨(some 48), (.mv (.tmp 6)), none⟩,
    .op ⟨(some 49), (.mv (.tmp 9)), none⟩,
    .op ⟨(some 50), (.build [(.str []), (.str [])] [(0, 1, (.tmp 48)), (1, 1, (.tmp 49))]), none⟩,
    .op ⟨(some 51), (.bslice false 2 1 [(.str []), (.str [])] [(0, 2, (.tmp 50))]), none⟩,
    .op ⟨(some 52), (.app 1 2 32 [(.str []), (.str [])] (.tmp 47) (.tmp 51)), none⟩,
    .op ⟨(some 5), (.mv (.tmp 52)), none⟩]
def r_f151_18 : List SOp :=
   [.op ⟨(some 53), (.mv (.tmp 7)), none⟩,
    .op ⟨(some 54), (.bin .eql (.tmp 53) (.av (.str []))), none⟩]
def r_f151_19 : List SOp :=
   [.op ⟨(some 55), (.mv (.tmp 4)), none⟩,
    .op ⟨(some 56), (.mv (.tmp 5)), none⟩,
    .op ⟨(some 57), (.bslice false 1 1 [(.sl [] 0 (some 0))] [(0, 1, (.tmp 56))]), none⟩,
    .op ⟨(some 58), (.app 1 1 24 [(.sl [] 0 (some 0))] (.tmp 55) (.tmp 57)), none⟩,
    .op ⟨(some 2), (.mv (.tmp 58)), none⟩,
    .op ⟨(some 3), (.mv (.av (.int .i64 0))), none⟩]
def r_f151_20 : List SOp :=
   [.op ⟨(some 59), (.mv (.tmp 7)), none⟩,
    .op ⟨(some 60), (.idxS (.tmp 59) (.av (.int .i64 0))), none⟩,
    .op ⟨(some 61), (.bin .eql (.tmp 60) (.av (.int .u8 44))), none⟩]
def r_f151_21 : List SOp :=
   [.op ⟨(some 62), (.mv (.tmp 4)), none⟩,
    .op ⟨(some 63), (.mv (.tmp 5)), none⟩,
    .op ⟨(some 64), (.bslice false 1 1 [(.sl [] 0 (some 0))] [(0, 1, (.tmp 63))]), none⟩,
    .op ⟨(some 65), (.app 1 1 24 [(.sl [] 0 (some 0))] (.tmp 62) (.tmp 64)), none⟩,
    .op ⟨(some 4), (.mv (.tmp 65)), none⟩,
    .op ⟨(some 5), (.mv (.av (.sl [] 0 (some 0)))), none⟩]
def r_f151_22 : List SOp :=
   [.op ⟨(some 66), (.mv (.tmp 7)), none⟩,
    .op ⟨(some 67), (.slS (.tmp 66) (some (.av (.int .i64 1))) none), none⟩,
    .op ⟨(some 0), (.mv (.tmp 67)), none⟩]
def c_f151 : LFun := ⟨68, (.seq (.sreg r_f151_0 [])
  (.seq (.seq (.sreg r_f151_1 [true, false, false])
  (.cond (.tmp 12) (.seq (.sreg r_f151_2 [])
  .ret)
  .skip))
  (.seq (.seq (.sreg r_f151_3 [true, false])
  (.cond (.tmp 14) (.seq (.sreg r_f151_4 [])
  .ret)
  .skip))
  (.seq (.sreg r_f151_5 [])
  (.seq (.sreg r_f151_6 [])
  (.block 0 (.loop (.block 1 (.seq (.seq (.sreg r_f151_7 [true, false, false, false, false])
  (.cond (.tmp 22) (.seq (.sreg r_f151_8 [])
  .ret)
  .skip))
  (.seq (.sreg r_f151_9 [true, true, true, false, false, false, false, false, false])
  (.seq (.seq (.sreg r_f151_10 [true, false, false, false, false, false, false])
  (.cond (.tmp 35) (.seq (.sreg r_f151_11 [])
  .ret)
  .skip))
  (.seq (.seq (.sreg r_f151_12 [true, false, false])
  (.cond (.tmp 38) (.seq (.sreg r_f151_13 [])
  .ret)
  .skip))
  (.seq (.sreg r_f151_14 [true, true, true, false, false, false, false, false, false])
  (.seq (.seq (.sreg r_f151_15 [true, false])
  (.cond (.tmp 46) (.seq (.sreg r_f151_16 [])
  .ret)
  .skip))
  (.seq (.sreg r_f151_17 [true, false, false, false, false, false, false])
  (.seq (.seq (.sreg r_f151_18 [true, false])
  (.cond (.tmp 54) (.seq (.sreg r_f151_19 [true, true, false, false, false, false])
  .ret)
  .skip))
  (.seq (.seq (.sreg r_f151_20 [true, false, false])
  (.cond (.tmp 61) (.sreg r_f151_21 [true, true, false, false, false, false])
  .skip))
  (.sreg r_f151_22 [true, false, false])))))))))))))))))), [(.tmp 2), (.tmp 3)]⟩
def o_f151 : Nat → Nat → Nat := fun _ _ => 1
theorem c_f151_eq : lowF Tryz.prog o_f151 151 = some c_f151.raw := by kernel_rfl
theorem c_f151_ok : c_f151.code.okc = true := by kernel_rfl
/-! castellan/dn.Norm -/
def r_f129_0 : List SOp :=
   [.op ⟨(some 2), (.mv (.av (.str []))), none⟩,
    .op ⟨(some 3), (.mv (.av (.int .i64 0))), none⟩]
def r_f129_1 : List SOp :=
   [.op ⟨(some 7), (.mv (.tmp 0)), none⟩,
    .op ⟨(some 8), (.call 104 [(.tmp 7)]), none⟩,
    .op ⟨(some 6), (.mv (.tmp 8)), none⟩,
    .op ⟨(some 9), (.extract (.tmp 6) 0), none⟩,
    .op ⟨(some 10), (.extract (.tmp 6) 1), none⟩,
    .op ⟨(some 4), (.mv (.tmp 9)), none⟩,
    .op ⟨(some 5), (.mv (.tmp 10)), none⟩]
def r_f129_2 : List SOp :=
   [.op ⟨(some 11), (.mv (.tmp 5)), none⟩,
    .op ⟨(some 12), (.bin .neq (.tmp 11) (.av (.int .i64 0))), none⟩]
def r_f129_3 : List SOp :=
   [.op ⟨(some 13), (.mv (.tmp 5)), none⟩,
    .op ⟨(some 2), (.mv (.av (.str []))), none⟩,
    .op ⟨(some 3), (.mv (.tmp 13)), none⟩]
def r_f129_4 : List SOp :=
   [.op ⟨(some 14), (.mv (.tmp 0)), none⟩,
    .op ⟨(some 15), (.call 166 [(.tmp 14), (.av (.bool true))]), none⟩,
    .op ⟨(some 2), (.mv (.tmp 15)), none⟩,
    .op ⟨(some 3), (.mv (.av (.int .i64 0))), none⟩]
def c_f129 : LFun := ⟨16, (.seq (.sreg r_f129_0 [])
  (.seq (.seq (.sreg r_f129_1 [true, false, false, false, false, false, false])
  (.seq (.sreg r_f129_2 [true, false])
  (.cond (.tmp 12) (.seq (.sreg r_f129_3 [true, true, false])
  .ret)
  .skip)))
  (.seq (.sreg r_f129_4 [true, true, false, false])
  .ret))), [(.tmp 2), (.tmp 3)]⟩
def o_f129 : Nat → Nat → Nat := fun _ _ => 1
theorem c_f129_eq : lowF Tryz.prog o_f129 129 = some c_f129.raw := by kernel_rfl
theorem c_f129_ok : c_f129.code.okc = true := by kernel_rfl
/-! castellan/syntax.moment$1 -/
def r_f152_0 : List SOp :=
   [.op ⟨(some 3), (.mv (.av (.int .i64 0))), none⟩]
def r_f152_1 : List SOp :=
   [.op ⟨(some 4), (.load false 1 (.tmp 1)), none⟩,
    .op ⟨(some 5), (.mv (.tmp 0)), none⟩,
    .op ⟨(some 6), (.idxS (.tmp 4) (.tmp 5)), none⟩,
    .op ⟨(some 7), (.bin .sub (.tmp 6) (.av (.int .u8 48))), none⟩,
    .op ⟨(some 8), (.conv .i64 (.tmp 7)), none⟩,
    .op ⟨(some 9), (.bin .mul (.tmp 8) (.av (.int .i64 10))), none⟩,
    .op ⟨(some 10), (.load false 1 (.tmp 1)), none⟩,
    .op ⟨(some 11), (.mv (.tmp 0)), none⟩,
    .op ⟨(some 12), (.bin .add (.tmp 11) (.av (.int .i64 1))), none⟩,
    .op ⟨(some 13), (.idxS (.tmp 10) (.tmp 12)), none⟩,
    .op ⟨(some 14), (.bin .sub (.tmp 13) (.av (.int .u8 48))), none⟩,
    .op ⟨(some 15), (.conv .i64 (.tmp 14)), none⟩,
    .op ⟨(some 16), (.bin .add (.tmp 9) (.tmp 15)), none⟩,
    .op ⟨(some 3), (.mv (.tmp 16)), none⟩]
def c_f152 : LFun := ⟨17, (.seq (.sreg r_f152_0 [])
  (.seq (.sdreg r_f152_1 [(.read 0 0), .pure, (.read 0 0), .pure, .pure, .pure, (.read 0 0), .pure, .pure, (.read 0 0), .pure, .pure] [true, false, false, false, false, false, false, false, false, false, false, false, false, false])
  .ret)), [(.tmp 3)]⟩
def o_f152 : Nat → Nat → Nat := fun _ _ => 1
theorem c_f152_eq : lowF Tryz.prog o_f152 152 = some c_f152.raw := by kernel_rfl
theorem c_f152_ok : c_f152.code.okc = true := by kernel_rfl
/-! castellan/entry.value$1 -/
def r_f270_0 : List SOp :=
   [.op ⟨(some 5), (.mv (.av (.int .i64 0))), none⟩]
def r_f270_1 : List SOp :=
   [.op ⟨(some 9), (.faddr 1 (.tmp 2)), none⟩,
    .op ⟨(some 10), (.load false 1 (.tmp 9)), none⟩,
    .op ⟨(some 11), (.mv (.tmp 0)), none⟩,
    .op ⟨(some 12), (.call 49 [(.tmp 10), (.tmp 11)]), none⟩,
    .op ⟨(some 8), (.mv (.tmp 12)), none⟩,
    .op ⟨(some 13), (.extract (.tmp 8) 0), none⟩,
    .op ⟨(some 14), (.extract (.tmp 8) 1), none⟩,
    .op ⟨(some 6), (.mv (.tmp 13)), none⟩,
    .op ⟨(some 7), (.mv (.tmp 14)), none⟩]
def r_f270_2 : List SOp :=
   [.op ⟨(some 15), (.mv (.tmp 6)), none⟩,
    .op ⟨(some 16), (.mv (.tmp 1)), none⟩,
    .op ⟨(some 17), (.call 141 [(.tmp 15), (.tmp 16)]), none⟩,
    .op ⟨(some 5), (.mv (.tmp 17)), none⟩]
def c_f270 : LFun := ⟨18, (.seq (.sreg r_f270_0 [])
  (.seq (.sreg r_f270_1 [false, true, false, false, false, false, false, false, false])
  (.seq (.sreg r_f270_2 [true, false, false, false])
  .ret))), [(.tmp 5)]⟩
def o_f270 : Nat → Nat → Nat := fun _ _ => 1
theorem c_f270_eq : lowF Tryz.prog o_f270 270 = some c_f270.raw := by kernel_rfl
theorem c_f270_ok : c_f270.code.okc = true := by kernel_rfl
/-! slices.BinarySearchFunc[[]string,string,string] -/
def r_f269_0 : List SOp :=
   [.op ⟨(some 6), (.mv (.av (.int .i64 0))), none⟩,
    .op ⟨(some 7), (.mv (.av (.bool false))), none⟩]
def r_f269_1 : List SOp :=
   [.op ⟨(some 12), (.mv (.tmp 0)), none⟩,
    .op ⟨(some 13), (.len false (.tmp 12)), none⟩,
    .op ⟨(some 8), (.mv (.tmp 13)), none⟩]
def r_f269_2 : List SOp :=
   [.op ⟨(some 14), (.mv (.tmp 8)), none⟩,
    .op ⟨(some 9), (.mv (.av (.int .i64 0))), none⟩,
    .op ⟨(some 10), (.mv (.tmp 14)), none⟩]
def r_f269_3 : List SOp :=
   [.op ⟨(some 15), (.mv (.tmp 9)), none⟩,
    .op ⟨(some 16), (.mv (.tmp 10)), none⟩,
    .op ⟨(some 17), (.bin .lss (.tmp 15) (.tmp 16)), none⟩]
def r_f269_4 : List SOp :=
   [.op ⟨(some 18), (.mv (.tmp 9)), none⟩,
    .op ⟨(some 19), (.mv (.tmp 10)), none⟩,
    .op ⟨(some 20), (.bin .add (.tmp 18) (.tmp 19)), none⟩,
    .op ⟨(some 21), (.conv .u64 (.tmp 20)), none⟩,
    .op ⟨(some 22), (.bin .shr (.tmp 21) (.av (.int .u64 1))), none⟩,
    .op ⟨(some 23), (.conv .i64 (.tmp 22)), none⟩,
    .op ⟨(some 11), (.mv (.tmp 23)), none⟩]
def r_f269_5 : List SOp :=
   [.op ⟨(some 24), (.mv (.tmp 2)), none⟩,
    .op ⟨(some 25), (.mv (.tmp 0)), none⟩,
    .op ⟨(some 26), (.mv (.tmp 11)), none⟩,
    .op ⟨(some 27), (.iaddr 1 (.tmp 25) (.tmp 26)), none⟩,
    .op ⟨(some 28), (.load false 1 (.tmp 27)), none⟩,
    .op ⟨(some 29), (.mv (.tmp 1)), none⟩,
    .op ⟨(some 30), (.callv (.tmp 24) [(.tmp 28), (.tmp 29)]), none⟩,
    .op ⟨(some 31), (.bin .lss (.tmp 30) (.av (.int .i64 0))), none⟩]
def r_f269_6 : List SOp :=
   [.op ⟨(some 32), (.mv (.tmp 11)), none⟩,
    .op ⟨(some 33), (.bin .add (.tmp 32) (.av (.int .i64 1))), none⟩,
    .op ⟨(some 9), (.mv (.tmp 33)), none⟩]
def r_f269_7 : List SOp :=
   [.op ⟨(some 34), (.mv (.tmp 11)), none⟩,
    .op ⟨(some 10), (.mv (.tmp 34)), none⟩]
def r_f269_8 : List SOp :=
   [.op ⟨(some 35), (.mv (.tmp 9)), none⟩,
    .op ⟨(some 36), (.mv (.tmp 9)), none⟩,
    .op ⟨(some 37), (.mv (.tmp 8)), none⟩,
    .op ⟨(some 38), (.bin .lss (.tmp 36) (.tmp 37)), none⟩,
    .op ⟨(some 39), (.mv (.tmp 38)), none⟩,
    .op ⟨(some 40), (.mv (.tmp 2)), (some (39, true))⟩,
    .op ⟨(some 41), (.mv (.tmp 0)), (some (39, true))⟩,
    .op ⟨(some 42), (.mv (.tmp 9)), (some (39, true))⟩,
    .op ⟨(some 43), (.iaddr 1 (.tmp 41) (.tmp 42)), (some (39, true))⟩,
    .op ⟨(some 44), (.load false 1 (.tmp 43)), (some (39, true))⟩,
    .op ⟨(some 45), (.mv (.tmp 1)), (some (39, true))⟩,
    .op ⟨(some 46), (.callv (.tmp 40) [(.tmp 44), (.tmp 45)]), (some (39, true))⟩,
    .op ⟨(some 47), (.bin .eql (.tmp 46) (.av (.int .i64 0))), (some (39, true))⟩,
    .op ⟨(some 48), (.pick (.tmp 39) (.tmp 47) (.av (.bool false))), none⟩,
    .op ⟨(some 6), (.mv (.tmp 35)), none⟩,
    .op ⟨(some 7), (.mv (.tmp 48)), none⟩]
def c_f269 : LFun := ⟨49, (.seq (.sreg r_f269_0 [])
  (.seq (.sreg r_f269_1 [true, false, false])
  (.seq (.sreg r_f269_2 [true, true, false])
  (.seq (.block 0 (.loop (.seq (.seq (.sreg r_f269_3 [true, false, false])
  (.cond (.tmp 17) .skip
  (.exit 0)))
  (.block 1 (.seq (.sreg r_f269_4 [true, false, false, false, false, false, false])
  (.seq (.sreg r_f269_5 [true, false, false, false, false, false, false, false])
  (.cond (.tmp 31) (.sreg r_f269_6 [true, false, false])
  (.sreg r_f269_7 [true, false]))))))))
  (.seq (.sreg r_f269_8 [true, true, false, false, false, false, false, false, false, false, false, false, false, false, false, false])
  .ret))))), [(.tmp 6), (.tmp 7)]⟩
def o_f269 : Nat → Nat → Nat := fun _ _ => 1
theorem c_f269_eq : lowF Tryz.prog o_f269 269 = some c_f269.raw := by kernel_rfl
theorem c_f269_ok : c_f269.code.okc = true := by kernel_rfl
/-! castellan/dn.Type -/
def r_f209_0 : List SOp :=
   [.op ⟨(some 2), (.mv (.av (.bool false))), none⟩]
def r_f209_1 : List SOp :=
   [.op ⟨(some 5), (.mv (.tmp 0)), none⟩,
    .op ⟨(some 6), (.bin .eql (.tmp 5) (.av (.str []))), none⟩,
    .op ⟨(some 7), (.mv (.tmp 6)), none⟩,
    .op ⟨(some 8), (.mv (.tmp 0)), (some (7, false))⟩,
    .op ⟨(some 9), (.len true (.tmp 8)), (some (7, false))⟩,
    .op ⟨(some 10), (.bin .gtr (.tmp 9) (.av (.int .i64 32))), (some (7, false))⟩,
    .op ⟨(some 11), (.pick (.tmp 7) (.av (.bool true)) (.tmp 10)), none⟩,
    .op ⟨(some 12), (.mv (.tmp 11)), none⟩,
    .op ⟨(some 13), (.mv (.tmp 0)), (some (12, false))⟩,
    .op ⟨(some 14), (.idxS (.tmp 13) (.av (.int .i64 0))), (some (12, false))⟩,
    .op ⟨(some 15), (.conv .i32 (.tmp 14)), (some (12, false))⟩,
    .op ⟨(some 16), (.call 264 [(.tmp 15)]), (some (12, false))⟩,
    .op ⟨(some 17), (.un .not (.tmp 16)), (some (12, false))⟩,
    .op ⟨(some 18), (.pick (.tmp 12) (.av (.bool true)) (.tmp 17)), none⟩]
def r_f209_2 : List SOp :=
   [.op ⟨(some 2), (.mv (.av (.bool false))), none⟩]
def r_f209_3 : List SOp :=
   [.op ⟨(some 19), (.mv (.tmp 0)), none⟩,
    .op ⟨(some 20), (.rangeS (.tmp 19)), none⟩]
def r_f209_4 : List SOp :=
   [.op ⟨(some 21), (.nextS (.tmp 20)), none⟩,
    .op ⟨(some 22), (.extract (.tmp 21) 0), none⟩]
def r_f209_5 : List SOp :=
   [.op ⟨(some 23), (.extract (.tmp 21) 2), none⟩,
    .op ⟨(some 4), (.mv (.tmp 23)), none⟩]
def r_f209_6 : List SOp :=
   [.op ⟨(some 24), (.mv (.tmp 4)), none⟩,
    .op ⟨(some 25), (.call 264 [(.tmp 24)]), none⟩,
    .op ⟨(some 26), (.un .not (.tmp 25)), none⟩,
    .op ⟨(some 27), (.mv (.tmp 26)), none⟩,
    .grp none 27 true
      [.op ⟨(some 28), (.mv (.tmp 4)), (some (27, true))⟩,
      .op ⟨(some 29), (.bin .lss (.tmp 28) (.av (.int .i32 48))), (some (27, true))⟩,
      .op ⟨(some 30), (.mv (.tmp 29)), (some (27, true))⟩,
      .grp (some (27, true)) 30 false
        [.op ⟨(some 31), (.mv (.tmp 4)), (some (30, false))⟩,
        .op ⟨(some 32), (.bin .gtr (.tmp 31) (.av (.int .i32 57))), (some (30, false))⟩]
        33 (.tmp 32)]
      34 (.tmp 33),
    .op ⟨(some 35), (.mv (.tmp 34)), none⟩,
    .grp none 35 true
      [.op ⟨(some 36), (.mv (.tmp 4)), (some (35, true))⟩,
      .op ⟨(some 37), (.bin .neq (.tmp 36) (.av (.int .i32 45))), (some (35, true))⟩]
      38 (.tmp 37)]
def r_f209_7 : List SOp :=
   [.op ⟨(some 2), (.mv (.av (.bool false))), none⟩]
def r_f209_8 : List SOp :=
   [.op ⟨(some 2), (.mv (.av (.bool true))), none⟩]
def c_f209 : LFun := ⟨39, (.seq (.sreg r_f209_0 [])
  (.seq (.seq (.sreg r_f209_1 [true, false, false, false, false, false, false, false, false, false, false, false, false, false])
  (.cond (.tmp 18) (.seq (.sreg r_f209_2 [])
  .ret)
  .skip))
  (.seq (.seq (.sreg r_f209_3 [true, false])
  (.block 0 (.loop (.seq (.sreg r_f209_4 [])
  (.seq (.cond (.tmp 22) .skip
  (.exit 0))
  (.block 1 (.seq (.sreg r_f209_5 [true, false])
  (.seq (.sreg r_f209_6 [true, false, false, false, false, false, false])
  (.cond (.tmp 38) (.seq (.sreg r_f209_7 [])
  .ret)
  .skip)))))))))
  (.seq (.sreg r_f209_8 [])
  .ret)))), [(.tmp 2)]⟩
def o_f209 : Nat → Nat → Nat := fun _ _ => 1
theorem c_f209_eq : lowF Tryz.prog o_f209 209 = some c_f209.raw := by kernel_rfl
theorem c_f209_ok : c_f209.code.okc = true := by kernel_rfl
/-! castellan/filt.pieces -/
def r_f271_0 : List SOp :=
   [.op ⟨(some 2), (.mv (.av (.bool false))), none⟩]
def r_f271_1 : List SOp :=
   [.op ⟨(some 5), (.mv (.tmp 0)), none⟩,
    .op ⟨(some 6), (.len false (.tmp 5)), none⟩,
    .op ⟨(some 7), (.mv (.av (.int .i64 0))), none⟩]
def r_f271_2 : List SOp :=
   [.op ⟨(some 8), (.bin .lss (.tmp 7) (.tmp 6)), none⟩]
def r_f271_3 : List SOp :=
   [.op ⟨(some 9), (.mv (.tmp 7)), none⟩,
    .op ⟨(some 10), (.iaddr 2 (.tmp 5) (.tmp 7)), none⟩,
    .op ⟨(some 11), (.load true 2 (.tmp 10)), none⟩,
    .op ⟨(some 4), (.alloc [(.int .i64 0), (.str [])]), none⟩,
    .op ⟨(some 3), (.mv (.tmp 9)), none⟩,
    .op ⟨none, (.store 2 (.tmp 4) (.tmp 11)), none⟩]
def r_f271_4 : List SOp :=
   [.op ⟨(some 13), (.faddr 1 (.tmp 4)), none⟩,
    .op ⟨(some 14), (.load false 1 (.tmp 13)), none⟩,
    .op ⟨(some 15), (.bin .eql (.tmp 14) (.av (.str []))), none⟩,
    .op ⟨(some 16), (.mv (.tmp 15)), none⟩,
    .grp none 16 false
      [.op ⟨(some 17), (.faddr 0 (.tmp 4)), (some (16, false))⟩,
      .op ⟨(some 18), (.load false 1 (.tmp 17)), (some (16, false))⟩,
      .op ⟨(some 19), (.bin .lss (.tmp 18) (.av (.int .i64 0))), (some (16, false))⟩]
      20 (.tmp 19),
    .op ⟨(some 21), (.mv (.tmp 20)), none⟩,
    .grp none 21 false
      [.op ⟨(some 22), (.faddr 0 (.tmp 4)), (some (21, false))⟩,
      .op ⟨(some 23), (.load false 1 (.tmp 22)), (some (21, false))⟩,
      .op ⟨(some 24), (.bin .gtr (.tmp 23) (.av (.int .i64 2))), (some (21, false))⟩]
      25 (.tmp 24),
    .op ⟨(some 12), (.mv (.tmp 25)), none⟩]
def r_f271_5 : List SOp :=
   [.op ⟨(some 2), (.mv (.av (.bool false))), none⟩]
def r_f271_6 : List SOp :=
   [.op ⟨(some 27), (.faddr 0 (.tmp 4)), none⟩,
    .op ⟨(some 28), (.load false 1 (.tmp 27)), none⟩,
    .op ⟨(some 29), (.bin .eql (.tmp 28) (.av (.int .i64 0))), none⟩,
    .op ⟨(some 30), (.mv (.tmp 29)), none⟩,
    .grp none 30 true
      [.op ⟨(some 31), (.mv (.tmp 3)), (some (30, true))⟩,
      .op ⟨(some 32), (.bin .gtr (.tmp 31) (.av (.int .i64 0))), (some (30, true))⟩]
      33 (.tmp 32),
    .op ⟨(some 34), (.mv (.tmp 33)), none⟩,
    .grp none 34 false
      [.op ⟨(some 35), (.faddr 0 (.tmp 4)), (some (34, false))⟩,
      .op ⟨(some 36), (.load false 1 (.tmp 35)), (some (34, false))⟩,
      .op ⟨(some 37), (.bin .eql (.tmp 36) (.av (.int .i64 2))), (some (34, false))⟩,
      .op ⟨(some 38), (.mv (.tmp 37)), (some (34, false))⟩,
      .grp (some (34, false)) 38 true
        [.op ⟨(some 39), (.mv (.tmp 3)), (some (38, true))⟩,
        .op ⟨(some 40), (.mv (.tmp 0)), (some (38, true))⟩,
        .op ⟨(some 41), (.len false (.tmp 40)), (some (38, true))⟩,
        .op ⟨(some 42), (.bin .sub (.tmp 41) (.av (.int .i64 1))), (some (38, true))⟩,
        .op ⟨(some 43), (.bin .lss (.tmp 39) (.tmp 42)), (some (38, true))⟩]
        44 (.tmp 43)]
      45 (.tmp 44),
    .op ⟨(some 26), (.mv (.tmp 45)), none⟩]
def r_f271_7 : List SOp :=
   [.op ⟨(some 2), (.mv (.av (.bool false))), none⟩]
def r_f271_8 : List SOp :=
   [.op ⟨(some 46), (.bin .add (.tmp 7) (.av (.int .i64 1))), none⟩,
    .op ⟨(some 7), (.mv (.tmp 46)), none⟩]
def r_f271_9 : List SOp :=
   [.op ⟨(some 47), (.mv (.tmp 0)), none⟩,
    .op ⟨(some 48), (.len false (.tmp 47)), none⟩,
    .op ⟨(some 49), (.bin .gtr (.tmp 48) (.av (.int .i64 0))), none⟩,
    .op ⟨(some 2), (.mv (.tmp 49)), none⟩]
def c_f271 : LFun := ⟨50, (.seq (.sreg r_f271_0 [])
  (.seq (.seq (.sreg r_f271_1 [])
  (.block 0 (.loop (.seq (.sreg r_f271_2 [])
  (.seq (.cond (.tmp 8) .skip
  (.exit 0))
  (.seq (.block 1 (.seq (.sreg r_f271_3 [true, true, false, false, false])
  (.block 2 (.seq (.sreg r_f271_4 [true, false, false, false, false, false, false, false])
  (.cond (.tmp 12) (.seq (.sreg r_f271_5 [])
  .ret)
  (.seq (.sreg r_f271_6 [true, false, false, false, false, false, false, false])
  (.cond (.tmp 26) (.seq (.sreg r_f271_7 [])
  .ret)
  .skip)))))))
  (.sreg r_f271_8 [true, false])))))))
  (.seq (.sreg r_f271_9 [true, false, false, false])
  .ret))), [(.tmp 2)]⟩
def o_f271 : Nat → Nat → Nat := fun _ _ => 1
theorem c_f271_eq : lowF Tryz.prog o_f271 271 = some c_f271.raw := by kernel_rfl
theorem c_f271_ok : c_f271.code.okc = true := by kernel_rfl
/-! strings.Index -/
def r_f215_0 : List SOp :=
   [.op ⟨(some 4), (.mv (.av (.int .i64 0))), none⟩]
def r_f215_1 : List SOp :=
   [.op ⟨(some 5), (.mv (.tmp 0)), none⟩,
    .op ⟨(some 6), (.mv (.tmp 1)), none⟩,
    .op ⟨(some 7), (.call 272 [(.tmp 5), (.tmp 6)]), none⟩,
    .op ⟨(some 4), (.mv (.tmp 7)), none⟩]
def c_f215 : LFun := ⟨8, (.seq (.sreg r_f215_0 [])
  (.seq (.sreg r_f215_1 [true, false, false, false])
  .ret)), [(.tmp 4)]⟩
def o_f215 : Nat → Nat → Nat := fun _ _ => 1
theorem c_f215_eq : lowF Tryz.prog o_f215 215 = some c_f215.raw := by kernel_rfl
theorem c_f215_ok : c_f215.code.okc = true := by kernel_rfl
/-! strings.HasPrefix -/
def r_f216_0 : List SOp :=
   [.op ⟨(some 4), (.mv (.av (.bool false))), none⟩]
def r_f216_1 : List SOp :=
   [.op ⟨(some 5), (.mv (.tmp 0)), none⟩,
    .op ⟨(some 6), (.mv (.tmp 1)), none⟩,
    .op ⟨(some 7), (.call 273 [(.tmp 5), (.tmp 6)]), none⟩,
    .op ⟨(some 4), (.mv (.tmp 7)), none⟩]
def c_f216 : LFun := ⟨8, (.seq (.sreg r_f216_0 [])
  (.seq (.sreg r_f216_1 [true, false, false, false])
  .ret)), [(.tmp 4)]⟩
def o_f216 : Nat → Nat → Nat := fun _ _ => 1
theorem c_f216_eq : lowF Tryz.prog o_f216 216 = some c_f216.raw := by kernel_rfl
theorem c_f216_ok : c_f216.code.okc = true := by kernel_rfl
/-! strings.HasSuffix -/
def r_f217_0 : List SOp :=
   [.op ⟨(some 4), (.mv (.av (.bool false))), none⟩]
def r_f217_1 : List SOp :=
   [.op ⟨(some 5), (.mv (.tmp 0)), none⟩,
    .op ⟨(some 6), (.mv (.tmp 1)), none⟩,
    .op ⟨(some 7), (.call 274 [(.tmp 5), (.tmp 6)]), none⟩,
    .op ⟨(some 4), (.mv (.tmp 7)), none⟩]
def c_f217 : LFun := ⟨8, (.seq (.sreg r_f217_0 [])
  (.seq (.sreg r_f217_1 [true, false, false, false])
  .ret)), [(.tmp 4)]⟩
def o_f217 : Nat → Nat → Nat := fun _ _ => 1
theorem c_f217_eq : lowF Tryz.prog o_f217 217 = some c_f217.raw := by kernel_rfl
theorem c_f217_ok : c_f217.code.okc = true := by kernel_rfl
/-! cmp.isNaN[int64] -/
def r_f275_0 : List SOp :=
   [.op ⟨(some 2), (.mv (.av (.bool false))), none⟩]
def r_f275_1 : List SOp :=
   [.op ⟨(some 3), (.mv (.tmp 0)), none⟩,
    .op ⟨(some 4), (.mv (.tmp 0)), none⟩,
    .op ⟨(some 5), (.bin .neq (.tmp 3) (.tmp 4)), none⟩,
    .op ⟨(some 2), (.mv (.tmp 5)), none⟩]
def c_f275 : LFun := ⟨6, (.seq (.sreg r_f275_0 [])
  (.seq (.sreg r_f275_1 [true, false, false, false])
  .ret)), [(.tmp 2)]⟩
def o_f275 : Nat → Nat → Nat := fun _ _ => 1
theorem c_f275_eq : lowF Tryz.prog o_f275 275 = some c_f275.raw := by kernel_rfl
theorem c_f275_ok : c_f275.code.okc = true := by kernel_rfl
/-! internal/bytealg.CompareString -/
def r_f191_0 : List SOp :=
   [.op ⟨(some 4), (.mv (.av (.int .i64 0))), none⟩]
def r_f191_1 : List SOp :=
   [.op ⟨(some 5), (.mv (.tmp 0)), none⟩,
    .op ⟨(some 6), (.mv (.tmp 1)), none⟩,
    .op ⟨(some 7), (.call 248 [(.tmp 5), (.tmp 6)]), none⟩,
    .op ⟨(some 4), (.mv (.tmp 7)), none⟩]
def c_f191 : LFun := ⟨8, (.seq (.sreg r_f191_0 [])
  (.seq (.sreg r_f191_1 [true, false, false, false])
  .ret)), [(.tmp 4)]⟩
def o_f191 : Nat → Nat → Nat := fun _ _ => 1
theorem c_f191_eq : lowF Tryz.prog o_f191 191 = some c_f191.raw := by kernel_rfl
theorem c_f191_ok : c_f191.code.okc = true := by kernel_rfl
/-! castellan/castellanref01.Fold -/
def r_f276_0 : List SOp :=
   [.op ⟨(some 2), (.mv (.av (.str []))), none⟩]
def r_f276_1 : List SOp :=
   [.op ⟨(some 3), (.mv (.av (.sl [] 0 (some 0)))), none⟩]
def r_f276_2 : List SOp :=
   [.op ⟨(some 4), (.mv (.av (.int .i64 0))), none⟩]
def r_f276_3 : List SOp :=
   [.op ⟨(some 6), (.mv (.tmp 4)), none⟩,
    .op ⟨(some 7), (.mv (.tmp 0)), none⟩,
    .op ⟨(some 8), (.len true (.tmp 7)), none⟩,
    .op ⟨(some 9), (.bin .lss (.tmp 6) (.tmp 8)), none⟩]
def r_f276_4 : List SOp :=
   [.op ⟨(some 12), (.mv (.tmp 0)), none⟩,
    .op ⟨(some 13), (.mv (.tmp 4)), none⟩,
    .op ⟨(some 14), (.idxS (.tmp 12) (.tmp 13)), none⟩,
    .op ⟨(some 5), (.mv (.tmp 14)), none⟩]
def r_f276_5 : List SOp :=
   [.op ⟨(some 15), (.mv (.tmp 5)), none⟩,
    .op ⟨(some 16), (.bin .geq (.tmp 15) (.av (.int .u8 65))), none⟩,
    .op ⟨(some 17), (.mv (.tmp 16)), none⟩,
    .grp none 17 true
      [.op ⟨(some 18), (.mv (.tmp 5)), (some (17, true))⟩,
      .op ⟨(some 19), (.bin .leq (.tmp 18) (.av (.int .u8 90))), (some (17, true))⟩]
      20 (.tmp 19)]
def r_f276_6 : List SOp :=
   [.op ⟨(some 21), (.mv (.tmp 5)), none⟩,
    .op ⟨(some 22), (.bin .sub (.tmp 21) (.av (.int .u8 65))), none⟩,
    .op ⟨(some 23), (.bin .add (.tmp 22) (.av (.int .u8 97))), none⟩,
    .op ⟨(some 5), (.mv (.tmp 23)), none⟩]
def r_f276_7 : List SOp :=
   [.op ⟨(some 24), (.mv (.tmp 3)), none⟩,
    .op ⟨(some 25), (.mv (.tmp 5)), none⟩,
    .op ⟨(some 26), (.bslice false 1 1 [(.int .u8 0)] [(0, 1, (.tmp 25))]), none⟩,
    .op ⟨(some 27), (.app 1 1 1 [(.int .u8 0)] (.tmp 24) (.tmp 26)), none⟩,
    .op ⟨(some 3), (.mv (.tmp 27)), none⟩]
def r_f276_8 : List SOp :=
   [.op ⟨(some 10), (.mv (.tmp 4)), none⟩,
    .op ⟨(some 11), (.bin .add (.tmp 10) (.av (.int .i64 1))), none⟩,
    .op ⟨(some 4), (.mv (.tmp 11)), none⟩]
def r_f276_9 : List SOp :=
   [.op ⟨(some 28), (.mv (.tmp 3)), none⟩,
    .op ⟨(some 29), (.b2s (.tmp 28)), none⟩,
    .op ⟨(some 2), (.mv (.tmp 29)), none⟩]
def c_f276 : LFun := ⟨30, (.seq (.sreg r_f276_0 [])
  (.seq (.sreg r_f276_1 [])
  (.seq (.seq (.sreg r_f276_2 [])
  (.block 0 (.loop (.seq (.seq (.sreg r_f276_3 [true, false, false, false])
  (.cond (.tmp 9) .skip
  (.exit 0)))
  (.seq (.block 1 (.seq (.sreg r_f276_4 [true, false, false, false])
  (.seq (.seq (.sreg r_f276_5 [true, false, false, false])
  (.cond (.tmp 20) (.sreg r_f276_6 [true, false, false, false])
  .skip))
  (.sreg r_f276_7 [true, false, false, false, false]))))
  (.sreg r_f276_8 [true, false, false]))))))
  (.seq (.sreg r_f276_9 [true, false, false])
  .ret)))), [(.tmp 2)]⟩
def o_f276 : Nat → Nat → Nat := fun _ _ => 1
theorem c_f276_eq : lowF Tryz.prog o_f276 276 = some c_f276.raw := by kernel_rfl
theorem c_f276_ok : c_f276.code.okc = true := by kernel_rfl
/-! castellan/castellanref09.in -/
def r_f277_0 : List SOp :=
   [.op ⟨(some 4), (.mv (.av (.bool false))), none⟩]
def r_f277_1 : List SOp :=
   [.op ⟨(some 5), (.mv (.av (.int .i64 0))), none⟩]
def r_f277_2 : List SOp :=
   [.op ⟨(some 6), (.mv (.tmp 5)), none⟩,
    .op ⟨(some 7), (.mv (.tmp 1)), none⟩,
    .op ⟨(some 8), (.len true (.tmp 7)), none⟩,
    .op ⟨(some 9), (.bin .lss (.tmp 6) (.tmp 8)), none⟩]
def r_f277_3 : List SOp :=
   [.op ⟨(some 12), (.mv (.tmp 1)), none⟩,
    .op ⟨(some 13), (.mv (.tmp 5)), none⟩,
    .op ⟨(some 14), (.idxS (.tmp 12) (.tmp 13)), none⟩,
    .op ⟨(some 15), (.mv (.tmp 0)), none⟩,
    .op ⟨(some 16), (.bin .eql (.tmp 14) (.tmp 15)), none⟩]
def r_f277_4 : List SOp :=
   [.op ⟨(some 4), (.mv (.av (.bool true))), none⟩]
def r_f277_5 : List SOp :=
   [.op ⟨(some 10), (.mv (.tmp 5)), none⟩,
    .op ⟨(some 11), (.bin .add (.tmp 10) (.av (.int .i64 1))), none⟩,
    .op ⟨(some 5), (.mv (.tmp 11)), none⟩]
def r_f277_6 : List SOp :=
   [.op ⟨(some 4), (.mv (.av (.bool false))), none⟩]
def c_f277 : LFun := ⟨17, (.seq (.sreg r_f277_0 [])
  (.seq (.seq (.sreg r_f277_1 [])
  (.block 0 (.loop (.seq (.seq (.sreg r_f277_2 [true, false, false, false])
  (.cond (.tmp 9) .skip
  (.exit 0)))
  (.seq (.block 1 (.seq (.sreg r_f277_3 [true, false, false, false, false])
  (.cond (.tmp 16) (.seq (.sreg r_f277_4 [])
  .ret)
  .skip)))
  (.sreg r_f277_5 [true, false, false]))))))
  (.seq (.sreg r_f277_6 [])
  .ret))), [(.tmp 4)]⟩
def o_f277 : Nat → Nat → Nat := fun _ _ => 1
theorem c_f277_eq : lowF Tryz.prog o_f277 277 = some c_f277.raw := by kernel_rfl
theorem c_f277_ok : c_f277.code.okc = true := by kernel_rfl
/-! castellan/castellanref01.digit -/
def r_f278_0 : List SOp :=
   [.op ⟨(some 2), (.mv (.av (.int .u8 0))), none⟩]
def r_f278_1 : List SOp :=
   [.op ⟨(some 3), (.mv (.tmp 0)), none⟩,
    .op ⟨(some 4), (.bin .lss (.tmp 3) (.av (.int .u8 10))), none⟩]
def r_f278_2 : List SOp :=
   [.op ⟨(some 5), (.mv (.tmp 0)), none⟩,
    .op ⟨(some 6), (.bin .add (.av (.int .u8 48)) (.tmp 5)), none⟩,
    .op ⟨(some 2), (.mv (.tmp 6)), none⟩]
def r_f278_3 : List SOp :=
   [.op ⟨(some 7), (.mv (.tmp 0)), none⟩,
    .op ⟨(some 8), (.bin .add (.av (.int .u8 97)) (.tmp 7)), none⟩,
    .op ⟨(some 9), (.bin .sub (.tmp 8) (.av (.int .u8 10))), none⟩,
    .op ⟨(some 2), (.mv (.tmp 9)), none⟩]
def c_f278 : LFun := ⟨10, (.seq (.sreg r_f278_0 [])
  (.seq (.seq (.sreg r_f278_1 [true, false])
  (.cond (.tmp 4) (.seq (.sreg r_f278_2 [true, false, false])
  .ret)
  .skip))
  (.seq (.sreg r_f278_3 [true, false, false, false])
  .ret))), [(.tmp 2)]⟩
def o_f278 : Nat → Nat → Nat := fun _ _ => 1
theorem c_f278_eq : lowF Tryz.prog o_f278 278 = some c_f278.raw := by kernel_rfl
theorem c_f278_ok : c_f278.code.okc = true := by kernel_rfl
/-! castellan/schema.like -/
def r_f194_0 : List SOp :=
   [.op ⟨(some 4), (.mv (.av (.bool false))), none⟩]
def r_f194_1 : List SOp :=
   [.op ⟨(some 5), (.mv (.tmp 0)), none⟩,
    .op ⟨(some 6), (.call 45 [(.tmp 5)]), none⟩,
    .op ⟨(some 7), (.mv (.tmp 1)), none⟩,
    .op ⟨(some 8), (.call 45 [(.tmp 7)]), none⟩,
    .op ⟨(some 9), (.bin .eql (.tmp 6) (.tmp 8)), none⟩,
    .op ⟨(some 4), (.mv (.tmp 9)), none⟩]
def c_f194 : LFun := ⟨10, (.seq (.sreg r_f194_0 [])
  (.seq (.sreg r_f194_1 [true, false, false, false, false, false])
  .ret)), [(.tmp 4)]⟩
def o_f194 : Nat → Nat → Nat := fun _ _ => 1
theorem c_f194_eq : lowF Tryz.prog o_f194 194 = some c_f194.raw := by kernel_rfl
theorem c_f194_ok : c_f194.code.okc = true := by kernel_rfl
/-! internal/strconv.ParseInt -/
def r_f205_0 : List SOp :=
   [.op ⟨(some 6), (.mv (.av (.int .i64 0))), none⟩,
    .op ⟨(some 7), (.mv (.av .nilif)), none⟩]
def r_f205_1 : List SOp :=
   [.op ⟨(some 12), (.mv (.tmp 0)), none⟩,
    .op ⟨(some 13), (.bin .eql (.tmp 12) (.av (.str []))), none⟩]
def r_f205_2 : List SOp :=
   [.op ⟨(some 14), (.mkif 336 (.av (.int .i64 2))), none⟩,
    .op ⟨(some 6), (.mv (.av (.int .i64 0))), none⟩,
    .op ⟨(some 7), (.mv (.tmp 14)), none⟩]
def r_f205_3 : List SOp :=
   [.op ⟨(some 8), (.mv (.av (.bool false))), none⟩]
def r_f205_4 : List SOp :=
   [.op ⟨(some 15), (.mv (.tmp 0)), none⟩,
    .op ⟨(some 16), (.idxS (.tmp 15) (.av (.int .i64 0))), none⟩]
def r_f205_5 : List SOp :=
   [.op ⟨(some 18), (.bin .eql (.tmp 16) (.av (.int .u8 43))), none⟩,
    .op ⟨(some 17), (.mv (.tmp 18)), none⟩]
def r_f205_6 : List SOp :=
   [.op ⟨(some 19), (.mv (.tmp 0)), none⟩,
    .op ⟨(some 20), (.slS (.tmp 19) (some (.av (.int .i64 1))) none), none⟩,
    .op ⟨(some 0), (.mv (.tmp 20)), none⟩]
def r_f205_7 : List SOp :=
   [.op ⟨(some 22), (.bin .eql (.tmp 16) (.av (.int .u8 45))), none⟩,
    .op ⟨(some 21), (.mv (.tmp 22)), none⟩]
def r_f205_8 : List SOp :=
   [.op ⟨(some 23), (.mv (.tmp 0)), none⟩,
    .op ⟨(some 24), (.slS (.tmp 23) (some (.av (.int .i64 1))) none), none⟩,
    .op ⟨(some 0), (.mv (.tmp 24)), none⟩]
def r_f205_9 : List SOp :=
   [.op ⟨(some 8), (.mv (.av (.bool true))), none⟩]
def r_f205_10 : List SOp :=
   [.op ⟨(some 9), (.mv (.av (.int .u64 0))), none⟩]
def r_f205_11 : List SOp :=
   [.op ⟨(some 26), (.mv (.tmp 0)), none⟩,
    .op ⟨(some 27), (.mv (.tmp 1)), none⟩,
    .op ⟨(some 28), (.mv (.tmp 2)), none⟩,
    .op ⟨(some 29), (.call 254 [(.tmp 26), (.tmp 27), (.tmp 28)]), none⟩,
    .op ⟨(some 25), (.mv (.tmp 29)), none⟩,
    .op ⟨(some 30), (.extract (.tmp 25) 0), none⟩,
    .op ⟨(some 31), (.extract (.tmp 25) 1), none⟩,
    .op ⟨(some 9), (.mv (.tmp 30)), none⟩,
    .op ⟨(some 7), (.mv (.tmp 31)), none⟩]
def r_f205_12 : List SOp :=
   [.op ⟨(some 32), (.mv (.tmp 7)), none⟩,
    .op ⟨(some 33), (.eqk true .iface (.tmp 32) (.av .nilif)), none⟩,
    .op ⟨(some 34), (.mv (.tmp 33)), none⟩,
    .grp none 34 true
      [.op ⟨(some 35), (.mv (.tmp 7)), (some (34, true))⟩,
      .op ⟨(some 36), (.mkif 336 (.av (.int .i64 1))), (some (34, true))⟩,
      .op ⟨(some 37), .bad, (some (34, true))⟩]
      38 (.tmp 37)]
def r_f205_13 : List SOp :=
   [.op ⟨(some 39), (.mv (.tmp 7)), none⟩,
    .op ⟨(some 6), (.mv (.av (.int .i64 0))), none⟩,
    .op ⟨(some 7), (.mv (.tmp 39)), none⟩]
def r_f205_14 : List SOp :=
   [.op ⟨(some 40), (.mv (.tmp 2)), none⟩,
    .op ⟨(some 41), (.bin .eql (.tmp 40) (.av (.int .i64 0))), none⟩]
def r_f205_15 : List SOp :=
   [.op ⟨(some 2), (.mv (.av (.int .i64 64))), none⟩]
def r_f205_16 : List SOp :=
   [.op ⟨(some 42), (.mv (.tmp 2)), none⟩,
    .op ⟨(some 43), (.bin .sub (.tmp 42) (.av (.int .i64 1))), none⟩,
    .op ⟨(some 44), (.conv .u64 (.tmp 43)), none⟩,
    .op ⟨(some 45), (.bin .shl (.av (.int .u64 1)) (.tmp 44)), none⟩,
    .op ⟨(some 10), (.mv (.tmp 45)), none⟩]
def r_f205_17 : List SOp :=
   [.op ⟨(some 46), (.mv (.tmp 8)), none⟩,
    .op ⟨(some 47), (.un .not (.tmp 46)), none⟩,
    .op ⟨(some 48), (.mv (.tmp 47)), none⟩,
    .grp none 48 true
      [.op ⟨(some 49), (.mv (.tmp 9)), (some (48, true))⟩,
      .op ⟨(some 50), (.mv (.tmp 10)), (some (48, true))⟩,
      .op ⟨(some 51), (.bin .geq (.tmp 49) (.tmp 50)), (some (48, true))⟩]
      52 (.tmp 51)]
def r_f205_18 : List SOp :=
   [.op ⟨(some 53), (.mv (.tmp 10)), none⟩,
    .op ⟨(some 54), (.bin .sub (.tmp 53) (.av (.int .u64 1))), none⟩,
    .op ⟨(some 55), (.conv .i64 (.tmp 54)), none⟩,
    .op ⟨(some 56), (.mkif 336 (.av (.int .i64 1))), none⟩,
    .op ⟨(some 6), (.mv (.tmp 55)), none⟩,
    .op ⟨(some 7), (.mv (.tmp 56)), none⟩]
def r_f205_19 : List SOp :=
   [.op ⟨(some 57), (.mv (.tmp 8)), none⟩,
    .op ⟨(some 58), (.mv (.tmp 57)), none⟩,
    .grp none 58 true
      [.op ⟨(some 59), (.mv (.tmp 9)), (some (58, true))⟩,
      .op ⟨(some 60), (.mv (.tmp 10)), (some (58, true))⟩,
      .op ⟨(some 61), (.bin .gtr (.tmp 59) (.tmp 60)), (some (58, true))⟩]
      62 (.tmp 61)]
def r_f205_20 : List SOp :=
   [.op ⟨(some 63), (.mv (.tmp 10)), none⟩,
    .op ⟨(some 64), (.conv .i64 (.tmp 63)), none⟩,
    .op ⟨(some 65), (.un .neg (.tmp 64)), none⟩,
    .op ⟨(some 66), (.mkif 336 (.av (.int .i64 1))), none⟩,
    .op ⟨(some 6), (.mv (.tmp 65)), none⟩,
    .op ⟨(some 7), (.mv (.tmp 66)), none⟩]
def r_f205_21 : List SOp :=
   [.op ⟨(some 67), (.mv (.tmp 9)), none⟩,
    .op ⟨(some 68), (.conv .i64 (.tmp 67)), none⟩,
    .op ⟨(some 11), (.mv (.tmp 68)), none⟩]
def r_f205_22 : List SOp :=
   [.op ⟨(some 69), (.mv (.tmp 8)), none⟩]
def r_f205_23 : List SOp :=
   [.op ⟨(some 70), (.mv (.tmp 11)), none⟩,
    .op ⟨(some 71), (.un .neg (.tmp 70)), none⟩,
    .op ⟨(some 11), (.mv (.tmp 71)), none⟩]
def r_f205_24 : List SOp :=
   [.op ⟨(some 72), (.mv (.tmp 11)), none⟩,
    .op ⟨(some 6), (.mv (.tmp 72)), none⟩,
    .op ⟨(some 7), (.mv (.av .nilif)), none⟩]
def c_f205 : LFun := ⟨73, (.seq (.sreg r_f205_0 [])
  (.seq (.seq (.sreg r_f205_1 [true, false])
  (.cond (.tmp 13) (.seq (.sreg r_f205_2 [true, true, false])
  .ret)
  .skip))
  (.seq (.sreg r_f205_3 [])
  (.seq (.seq (.sreg r_f205_4 [true, false])
  (.block 0 (.seq (.sreg r_f205_5 [true, false])
  (.cond (.tmp 17) (.sreg r_f205_6 [true, false, false])
  (.seq (.sreg r_f205_7 [true, false])
  (.cond (.tmp 21) (.seq (.sreg r_f205_8 [true, false, false])
  (.sreg r_f205_9 []))
  .skip))))))
  (.seq (.sreg r_f205_10 [])
  (.seq (.sreg r_f205_11 [true, true, false, false, false, false, false, false, false])
  (.seq (.seq (.sreg r_f205_12 [true, false, false, false])
  (.cond (.tmp 38) (.seq (.sreg r_f205_13 [true, true, false])
  .ret)
  .skip))
  (.seq (.seq (.sreg r_f205_14 [true, false])
  (.cond (.tmp 41) (.sreg r_f205_15 [])
  .skip))
  (.seq (.sreg r_f205_16 [true, false, false, false, false])
  (.seq (.seq (.sreg r_f205_17 [true, false, false, false])
  (.cond (.tmp 52) (.seq (.sreg r_f205_18 [true, true, false, false, false, false])
  .ret)
  .skip))
  (.seq (.seq (.sreg r_f205_19 [true, false, false])
  (.cond (.tmp 62) (.seq (.sreg r_f205_20 [true, true, false, false, false, false])
  .ret)
  .skip))
  (.seq (.sreg r_f205_21 [true, false, false])
  (.seq (.seq (.sreg r_f205_22 [])
  (.cond (.tmp 69) (.sreg r_f205_23 [true, false, false])
  .skip))
  (.seq (.sreg r_f205_24 [true, true, false])
  .ret)))))))))))))), [(.tmp 6), (.tmp 7)]⟩
def o_f205 : Nat → Nat → Nat := fun _ _ => 1
theorem c_f205_eq : lowF Tryz.prog o_f205 205 = some c_f205.raw := by kernel_rfl
theorem c_f205_ok : c_f205.code.okc = true := by kernel_rfl
/-! strconv.toError -/
def r_f206_0 : List SOp :=
   [.op ⟨(some 10), (.mv (.av .nilif)), none⟩]
def r_f206_1 : List SOp :=
   [.op ⟨(some 11), (.mv (.tmp 4)), none⟩]
def r_f206_2 : List SOp :=
   [.op ⟨(some 13), (.mkif 336 (.av (.int .i64 2))), none⟩,
    .op ⟨(some 14), .bad, none⟩,
    .op ⟨(some 12), (.mv (.tmp 14)), none⟩]
def r_f206_3 : List SOp :=
   [.op ⟨(some 15), (.mv (.tmp 0)), none⟩,
    .op ⟨(some 16), (.mv (.tmp 1)), none⟩,
    .op ⟨(some 17), (.call 255 [(.tmp 15), (.tmp 16)]), none⟩,
    .op ⟨(some 18), (.mkif 339 (.tmp 17)), none⟩,
    .op ⟨(some 10), (.mv (.tmp 18)), none⟩]
def r_f206_4 : List SOp :=
   [.op ⟨(some 20), (.mkif 336 (.av (.int .i64 1))), none⟩,
    .op ⟨(some 21), .bad, none⟩,
    .op ⟨(some 19), (.mv (.tmp 21)), none⟩]
def r_f206_5 : List SOp :=
   [.op ⟨(some 22), (.mv (.tmp 0)), none⟩,
    .op ⟨(some 23), (.mv (.tmp 1)), none⟩,
    .op ⟨(some 24), (.call 256 [(.tmp 22), (.tmp 23)]), none⟩,
    .op ⟨(some 25), (.mkif 339 (.tmp 24)), none⟩,
    .op ⟨(some 10), (.mv (.tmp 25)), none⟩]
def r_f206_6 : List SOp :=
   [.op ⟨(some 27), (.mkif 336 (.av (.int .i64 3))), none⟩,
    .op ⟨(some 28), .bad, none⟩,
    .op ⟨(some 26), (.mv (.tmp 28)), none⟩]
def r_f206_7 : List SOp :=
   [.op ⟨(some 29), (.mv (.tmp 0)), none⟩,
    .op ⟨(some 30), (.mv (.tmp 1)), none⟩,
    .op ⟨(some 31), (.mv (.tmp 2)), none⟩,
    .op ⟨(some 32), (.call 257 [(.tmp 29), (.tmp 30), (.tmp 31)]), none⟩,
    .op ⟨(some 33), (.mkif 339 (.tmp 32)), none⟩,
    .op ⟨(some 10), (.mv (.tmp 33)), none⟩]
def r_f206_8 : List SOp :=
   [.op ⟨(some 35), (.mkif 336 (.av (.int .i64 4))), none⟩,
    .op ⟨(some 36), .bad, none⟩,
    .op ⟨(some 34), (.mv (.tmp 36)), none⟩]
def r_f206_9 : List SOp :=
   [.op ⟨(some 37), (.mv (.tmp 0)), none⟩,
    .op ⟨(some 38), (.mv (.tmp 1)), none⟩,
    .op ⟨(some 39), (.mv (.tmp 3)), none⟩,
    .op ⟨(some 40), (.call 258 [(.tmp 37), (.tmp 38), (.tmp 39)]), none⟩,
    .op ⟨(some 41), (.mkif 339 (.tmp 40)), none⟩,
    .op ⟨(some 10), (.mv (.tmp 41)), none⟩]
def r_f206_10 : List SOp :=
   [.op ⟨(some 42), (.mv (.tmp 4)), none⟩,
    .op ⟨(some 10), (.mv (.tmp 42)), none⟩]
def c_f206 : LFun := ⟨43, (.seq (.sreg r_f206_0 [])
  (.seq (.seq (.sreg r_f206_1 [false])
  (.block 0 (.seq (.sreg r_f206_2 [true, false, false])
  (.cond (.tmp 12) (.seq (.sreg r_f206_3 [true, false, false, false, false])
  .ret)
  (.seq (.sreg r_f206_4 [true, false, false])
  (.cond (.tmp 19) (.seq (.sreg r_f206_5 [true, false, false, false, false])
  .ret)
  (.seq (.sreg r_f206_6 [true, false, false])
  (.cond (.tmp 26) (.seq (.sreg r_f206_7 [true, false, false, false, false, false])
  .ret)
  (.seq (.sreg r_f206_8 [true, false, false])
  (.cond (.tmp 34) (.seq (.sreg r_f206_9 [true, false, false, false, false, false])
  .ret)
  .skip))))))))))
  (.seq (.sreg r_f206_10 [true, false])
  .ret))), [(.tmp 10)]⟩
def o_f206 : Nat → Nat → Nat := fun _ _ => 1
theorem c_f206_eq : lowF Tryz.prog o_f206 206 = some c_f206.raw := by kernel_rfl
theorem c_f206_ok : c_f206.code.okc = true := by kernel_rfl
/-! internal/strconv.FormatInt -/
def r_f207_0 : List SOp :=
   [.op ⟨(some 4), (.mv (.av (.str []))), none⟩]
def r_f207_1 : List SOp :=
   [.op ⟨(some 10), (.mv (.tmp 1)), none⟩,
    .op ⟨(some 11), (.bin .eql (.tmp 10) (.av (.int .i64 10))), none⟩]
def r_f207_2 : List SOp :=
   [.op ⟨(some 12), (.mv (.tmp 0)), none⟩,
    .op ⟨(some 13), (.bin .leq (.av (.int .i64 0)) (.tmp 12)), none⟩,
    .op ⟨(some 14), (.mv (.tmp 13)), none⟩,
    .grp none 14 true
      [.op ⟨(some 15), (.mv (.tmp 0)), (some (14, true))⟩,
      .op ⟨(some 16), (.bin .lss (.tmp 15) (.av (.int .i64 100))), (some (14, true))⟩]
      17 (.tmp 16)]
def r_f207_3 : List SOp :=
   [.op ⟨(some 18), (.mv (.tmp 0)), none⟩,
    .op ⟨(some 19), (.call 259 [(.tmp 18)]), none⟩,
    .op ⟨(some 4), (.mv (.tmp 19)), none⟩]
def r_f207_4 : List SOp :=
   [.op ⟨(some 5), (.alloc [(.int .u8 0), (.int .u8 0), (.int .u8 0), (.int .u8 0), (.int .u8 0), (.int .u8 0), (.int .u8 0), (.int .u8 0), (.int .u8 0), (.int .u8 0), (.int .u8 0), (.int .u8 0), (.int .u8 0), (.int .u8 0), (.int .u8 0), (.int .u8 0), (.int .u8 0), (.int .u8 0), (.int .u8 0), (.int .u8 0), (.int .u8 0), (.int .u8 0), (.int .u8 0), (.int .u8 0)]), none⟩]
def r_f207_5 : List SOp :=
   [.op ⟨(some 20), (.mv (.tmp 0)), none⟩,
    .op ⟨(some 21), (.conv .u64 (.tmp 20)), none⟩,
    .op ⟨(some 6), (.mv (.tmp 21)), none⟩]
def r_f207_6 : List SOp :=
   [.op ⟨(some 22), (.mv (.tmp 0)), none⟩,
    .op ⟨(some 23), (.bin .lss (.tmp 22) (.av (.int .i64 0))), none⟩]
def r_f207_7 : List SOp :=
   [.op ⟨(some 24), (.mv (.tmp 6)), none⟩,
    .op ⟨(some 25), (.un .neg (.tmp 24)), none⟩,
    .op ⟨(some 6), (.mv (.tmp 25)), none⟩]
def r_f207_8 : List SOp :=
   [.op ⟨(some 26), (.mv (.tmp 6)), none⟩,
    .op ⟨(some 27), (.call 260 [(.tmp 26)]), none⟩,
    .op ⟨(some 7), (.mv (.tmp 27)), none⟩]
def r_f207_9 : List SOp :=
   [.op ⟨(some 28), (.mv (.tmp 7)), none⟩,
    .op ⟨(some 29), (.bin .add (.av (.int .i64 1)) (.tmp 28)), none⟩,
    .op ⟨(some 30), (.slA 24 1 (.tmp 5) (some (.av (.int .i64 1))) (some (.tmp 29))), none⟩,
    .op ⟨(some 31), (.mv (.tmp 6)), none⟩,
    .op ⟨(some 32), (.call 261 [(.tmp 30), (.tmp 31)]), none⟩]
def r_f207_10 : List SOp :=
   [.op ⟨(some 33), (.mv (.tmp 0)), none⟩,
    .op ⟨(some 34), (.bin .lss (.tmp 33) (.av (.int .i64 0))), none⟩]
def r_f207_11 : List SOp :=
   [.op ⟨(some 35), (.iaddrA 24 1 (.tmp 5) (.av (.int .i64 0))), none⟩,
    .op ⟨none, (.store 1 (.tmp 35) (.av (.int .u8 45))), none⟩]
def r_f207_12 : List SOp :=
   [.op ⟨(some 36), (.mv (.tmp 7)), none⟩,
    .op ⟨(some 37), (.bin .add (.av (.int .i64 1)) (.tmp 36)), none⟩,
    .op ⟨(some 38), (.slA 24 1 (.tmp 5) none (some (.tmp 37))), none⟩,
    .op ⟨(some 39), (.b2s (.tmp 38)), none⟩,
    .op ⟨(some 4), (.mv (.tmp 39)), none⟩]
def r_f207_13 : List SOp :=
   [.op ⟨(some 40), (.mv (.tmp 7)), none⟩,
    .op ⟨(some 41), (.bin .add (.av (.int .i64 1)) (.tmp 40)), none⟩,
    .op ⟨(some 42), (.slA 24 1 (.tmp 5) (some (.av (.int .i64 1))) (some (.tmp 41))), none⟩,
    .op ⟨(some 43), (.b2s (.tmp 42)), none⟩,
    .op ⟨(some 4), (.mv (.tmp 43)), none⟩]
def r_f207_14 : List SOp :=
   [.op ⟨(some 45), (.mv (.tmp 0)), none⟩,
    .op ⟨(some 46), (.conv .u64 (.tmp 45)), none⟩,
    .op ⟨(some 47), (.mv (.tmp 1)), none⟩,
    .op ⟨(some 48), (.mv (.tmp 0)), none⟩,
    .op ⟨(some 49), (.bin .lss (.tmp 48) (.av (.int .i64 0))), none⟩,
    .op ⟨(some 50), (.call 262 [(.av (.sl [] 0 (some 0))), (.tmp 46), (.tmp 47), (.tmp 49), (.av (.bool false))]), none⟩,
    .op ⟨(some 44), (.mv (.tmp 50)), none⟩,
    .op ⟨(some 51), (.extract (.tmp 44) 0), none⟩,
    .op ⟨(some 52), (.extract (.tmp 44) 1), none⟩,
    .op ⟨(some 8), (.mv (.tmp 51)), none⟩,
    .op ⟨(some 9), (.mv (.tmp 52)), none⟩]
def r_f207_15 : List SOp :=
   [.op ⟨(some 53), (.mv (.tmp 9)), none⟩,
    .op ⟨(some 4), (.mv (.tmp 53)), none⟩]
def c_f207 : LFun := ⟨54, (.seq (.sreg r_f207_0 [])
  (.seq (.seq (.sreg r_f207_1 [true, false])
  (.cond (.tmp 11) (.seq (.seq (.sreg r_f207_2 [true, false, false, false])
  (.cond (.tmp 17) (.seq (.sreg r_f207_3 [true, false, false])
  .ret)
  .skip))
  (.seq (.sreg r_f207_4 [])
  (.seq (.sreg r_f207_5 [true, false, false])
  (.seq (.seq (.sreg r_f207_6 [true, false])
  (.cond (.tmp 23) (.sreg r_f207_7 [true, false, false])
  .skip))
  (.seq (.sreg r_f207_8 [true, false, false])
  (.seq (.sreg r_f207_9 [false, false, false, false, false])
  (.seq (.seq (.sreg r_f207_10 [true, false])
  (.cond (.tmp 34) (.seq (.sreg r_f207_11 [false])
  (.seq (.sreg r_f207_12 [true, false, false, false, false])
  .ret))
  .skip))
  (.seq (.sreg r_f207_13 [true, false, false, false, false])
  .ret))))))))
  .skip))
  (.seq (.sreg r_f207_14 [true, false, false, false, false, false, false, false, false, false, false])
  (.seq (.sreg r_f207_15 [true, false])
  .ret)))), [(.tmp 4)]⟩
def o_f207 : Nat → Nat → Nat := fun _ _ => 1
theorem c_f207_eq : lowF Tryz.prog o_f207 207 = some c_f207.raw := by kernel_rfl
theorem c_f207_ok : c_f207.code.okc = true := by kernel_rfl
/-! strings.Cut -/
def r_f208_0 : List SOp :=
   [.op ⟨(some 4), (.mv (.av (.str []))), none⟩,
    .op ⟨(some 5), (.mv (.av (.str []))), none⟩,
    .op ⟨(some 6), (.mv (.av (.bool false))), none⟩]
def r_f208_1 : List SOp :=
   [.op ⟨(some 7), (.mv (.tmp 0)), none⟩,
    .op ⟨(some 8), (.mv (.tmp 1)), none⟩,
    .op ⟨(some 9), (.call 263 [(.tmp 7), (.tmp 8)]), none⟩,
    .op ⟨(some 10), (.extract (.tmp 9) 0), none⟩,
    .op ⟨(some 11), (.extract (.tmp 9) 1), none⟩,
    .op ⟨(some 12), (.extract (.tmp 9) 2), none⟩,
    .op ⟨(some 4), (.mv (.tmp 10)), none⟩,
    .op ⟨(some 5), (.mv (.tmp 11)), none⟩,
    .op ⟨(some 6), (.mv (.tmp 12)), none⟩]
def c_f208 : LFun := ⟨13, (.seq (.sreg r_f208_0 [])
  (.seq (.sreg r_f208_1 [true, true, true, false, false, false, false, false, false])
  .ret)), [(.tmp 4), (.tmp 5), (.tmp 6)]⟩
def o_f208 : Nat → Nat → Nat := fun _ _ => 1
theorem c_f208_eq : lowF Tryz.prog o_f208 208 = some c_f208.raw := by kernel_rfl
theorem c_f208_ok : c_f208.code.okc = true := by kernel_rfl
/-! castellan/dn.has -/
def r_f210_0 : List SOp :=
   [.op ⟨(some 3), (.box (.tmp 1)), none⟩,
    .op ⟨(some 4), (.mv (.av (.bool false))), none⟩]
def r_f210_1 : List SOp :=
   [.op ⟨(some 5), (.mv (.tmp 0)), none⟩,
    .op ⟨(some 6), (.mkfn 266 [(.tmp 3)]), none⟩,
    .op ⟨(some 7), (.call 265 [(.tmp 5), (.tmp 6)]), none⟩,
    .op ⟨(some 4), (.mv (.tmp 7)), none⟩]
def c_f210 : LFun := ⟨8, (.seq (.sreg r_f210_0 [])
  (.seq (.sreg r_f210_1 [true, false, false, false])
  .ret)), [(.tmp 4)]⟩
def o_f210 : Nat → Nat → Nat := fun _ _ => 1
theorem c_f210_eq : lowF Tryz.prog o_f210 210 = some c_f210.raw := by kernel_rfl
theorem c_f210_ok : c_f210.code.okc = true := by kernel_rfl
/-! castellan/dn.value -/
def r_f211_0 : List SOp :=
   [.op ⟨(some 2), (.mv (.av (.str []))), none⟩,
    .op ⟨(some 3), (.mv (.av (.str []))), none⟩,
    .op ⟨(some 4), (.mv (.av (.bool false))), none⟩]
def r_f211_1 : List SOp :=
   [.op ⟨(some 5), (.mv (.av (.sl [] 0 (some 0)))), none⟩]
def r_f211_2 : List SOp :=
   [.op ⟨(some 6), (.mv (.av (.bool false))), none⟩]
def r_f211_3 : List SOp :=
   [.op ⟨(some 7), (.mv (.av (.int .i64 0))), none⟩]
def r_f211_4 : List SOp :=
   [.op ⟨(some 11), (.mv (.tmp 7)), none⟩,
    .op ⟨(some 12), (.mv (.tmp 0)), none⟩,
    .op ⟨(some 13), (.len true (.tmp 12)), none⟩,
    .op ⟨(some 14), (.bin .lss (.tmp 11) (.tmp 13)), none⟩,
    .op ⟨(some 15), (.mv (.tmp 14)), none⟩,
    .grp none 15 true
      [.op ⟨(some 16), (.mv (.tmp 0)), (some (15, true))⟩,
      .op ⟨(some 17), (.mv (.tmp 7)), (some (15, true))⟩,
      .op ⟨(some 18), (.idxS (.tmp 16) (.tmp 17)), (some (15, true))⟩,
      .op ⟨(some 19), (.bin .neq (.tmp 18) (.av (.int .u8 44))), (some (15, true))⟩]
      20 (.tmp 19),
    .op ⟨(some 21), (.mv (.tmp 20)), none⟩,
    .grp none 21 true
      [.op ⟨(some 22), (.mv (.tmp 0)), (some (21, true))⟩,
      .op ⟨(some 23), (.mv (.tmp 7)), (some (21, true))⟩,
      .op ⟨(some 24), (.idxS (.tmp 22) (.tmp 23)), (some (21, true))⟩,
      .op ⟨(some 25), (.bin .neq (.tmp 24) (.av (.int .u8 43))), (some (21, true))⟩]
      26 (.tmp 25)]
def r_f211_5 : List SOp :=
   [.op ⟨(some 27), (.mv (.tmp 0)), none⟩,
    .op ⟨(some 28), (.mv (.tmp 7)), none⟩,
    .op ⟨(some 29), (.idxS (.tmp 27) (.tmp 28)), none⟩,
    .op ⟨(some 8), (.mv (.tmp 29)), none⟩]
def r_f211_6 : List SOp :=
   [.op ⟨(some 30), (.mv (.tmp 8)), none⟩,
    .op ⟨(some 31), (.bin .eql (.tmp 30) (.av (.int .u8 32))), none⟩,
    .op ⟨(some 6), (.mv (.tmp 31)), none⟩]
def r_f211_7 : List SOp :=
   [.op ⟨(some 33), (.mv (.tmp 8)), none⟩,
    .op ⟨(some 34), (.bin .neq (.tmp 33) (.av (.int .u8 92))), none⟩,
    .op ⟨(some 32), (.mv (.tmp 34)), none⟩]
def r_f211_8 : List SOp :=
   [.op ⟨(some 35), (.mv (.tmp 8)), none⟩,
    .op ⟨(some 36), (.bin .eql (.tmp 35) (.av (.int .u8 0))), none⟩,
    .op ⟨(some 37), (.mv (.tmp 36)), none⟩,
    .op ⟨(some 38), (.mv (.tmp 8)), (some (37, false))⟩,
    .op ⟨(some 39), (.call 267 [(.av (.str [34, 59, 60, 62])), (.tmp 38)]), (some (37, false))⟩,
    .op ⟨(some 40), (.bin .geq (.tmp 39) (.av (.int .i64 0))), (some (37, false))⟩,
    .op ⟨(some 41), (.pick (.tmp 37) (.av (.bool true)) (.tmp 40)), none⟩,
    .op ⟨(some 42), (.mv (.tmp 41)), none⟩,
    .op ⟨(some 43), (.mv (.tmp 5)), (some (42, false))⟩,
    .op ⟨(some 44), (.len false (.tmp 43)), (some (42, false))⟩,
    .op ⟨(some 45), (.bin .eql (.tmp 44) (.av (.int .i64 0))), (some (42, false))⟩,
    .op ⟨(some 46), (.mv (.tmp 45)), (some (42, false))⟩,
    .op ⟨(some 47), (.mv (.tmp 8)), (some (46, true))⟩,
    .op ⟨(some 48), (.bin .eql (.tmp 47) (.av (.int .u8 32))), (some (46, true))⟩,
    .op ⟨(some 49), (.mv (.tmp 48)), (some (46, true))⟩,
    .op ⟨(some 50), (.mv (.tmp 8)), (some (49, false))⟩,
    .op ⟨(some 51), (.bin .eql (.tmp 50) (.av (.int .u8 35))), (some (49, false))⟩,
    .op ⟨(some 52), (.pick (.tmp 49) (.av (.bool true)) (.tmp 51)), (some (46, true))⟩,
    .op ⟨(some 53), (.pick (.tmp 46) (.tmp 52) (.av (.bool false))), (some (42, false))⟩,
    .op ⟨(some 54), (.pick (.tmp 42) (.av (.bool true)) (.tmp 53)), none⟩]
def r_f211_9 : List SOp :=
   [.op ⟨(some 2), (.mv (.av (.str []))), none⟩,
    .op ⟨(some 3), (.mv (.av (.str []))), none⟩,
    .op ⟨(some 4), (.mv (.av (.bool false))), none⟩]
def r_f211_10 : List SOp :=
   [.op ⟨(some 56), (.mv (.tmp 7)), none⟩,
    .op ⟨(some 57), (.bin .add (.tmp 56) (.av (.int .i64 1))), none⟩,
    .op ⟨(some 58), (.mv (.tmp 0)), none⟩,
    .op ⟨(some 59), (.len true (.tmp 58)), none⟩,
    .op ⟨(some 60), (.bin .lss (.tmp 57) (.tmp 59)), none⟩,
    .op ⟨(some 61), (.mv (.tmp 60)), none⟩,
    .op ⟨(some 62), (.mv (.tmp 0)), (some (61, true))⟩,
    .op ⟨(some 63), (.mv (.tmp 7)), (some (61, true))⟩,
    .op ⟨(some 64), (.bin .add (.tmp 63) (.av (.int .i64 1))), (some (61, true))⟩,
    .op ⟨(some 65), (.idxS (.tmp 62) (.tmp 64)), (some (61, true))⟩,
    .op ⟨(some 66), (.call 267 [(.av (.str [34, 43, 44, 59, 60, 62, 92, 32, 35, 61])), (.tmp 65)]), (some (61, true))⟩,
    .op ⟨(some 67), (.bin .geq (.tmp 66) (.av (.int .i64 0))), (some (61, true))⟩,
    .op ⟨(some 68), (.pick (.tmp 61) (.tmp 67) (.av (.bool false))), none⟩,
    .op ⟨(some 55), (.mv (.tmp 68)), none⟩]
def r_f211_11 : List SOp :=
   [.op ⟨(some 69), (.mv (.tmp 7)), none⟩,
    .op ⟨(some 70), (.bin .add (.tmp 69) (.av (.int .i64 1))), none⟩,
    .op ⟨(some 7), (.mv (.tmp 70)), none⟩]
def r_f211_12 : List SOp :=
   [.op ⟨(some 71), (.mv (.tmp 0)), none⟩,
    .op ⟨(some 72), (.mv (.tmp 7)), none⟩,
    .op ⟨(some 73), (.idxS (.tmp 71) (.tmp 72)), none⟩,
    .op ⟨(some 8), (.mv (.tmp 73)), none⟩]
def r_f211_13 : List SOp :=
   [.op ⟨(some 75), (.mv (.tmp 7)), none⟩,
    .op ⟨(some 76), (.bin .add (.tmp 75) (.av (.int .i64 2))), none⟩,
    .op ⟨(some 77), (.mv (.tmp 0)), none⟩,
    .op ⟨(some 78), (.len true (.tmp 77)), none⟩,
    .op ⟨(some 79), (.bin .lss (.tmp 76) (.tmp 78)), none⟩,
    .op ⟨(some 74), (.mv (.tmp 79)), none⟩]
def r_f211_14 : List SOp :=
   [.op ⟨(some 81), (.mv (.tmp 0)), none⟩,
    .op ⟨(some 82), (.mv (.tmp 7)), none⟩,
    .op ⟨(some 83), (.bin .add (.tmp 82) (.av (.int .i64 1))), none⟩,
    .op ⟨(some 84), (.mv (.tmp 7)), none⟩,
    .op ⟨(some 85), (.bin .add (.tmp 84) (.av (.int .i64 3))), none⟩,
    .op ⟨(some 86), (.slS (.tmp 81) (some (.tmp 83)) (some (.tmp 85))), none⟩,
    .op ⟨(some 87), (.call 268 [(.tmp 86)]), none⟩,
    .op ⟨(some 80), (.mv (.tmp 87)), none⟩,
    .op ⟨(some 88), (.extract (.tmp 80) 0), none⟩,
    .op ⟨(some 89), (.extract (.tmp 80) 1), none⟩,
    .op ⟨(some 9), (.mv (.tmp 88)), none⟩,
    .op ⟨(some 10), (.mv (.tmp 89)), none⟩]
def r_f211_15 : List SOp :=
   [.op ⟨(some 90), (.mv (.tmp 10)), none⟩,
    .op ⟨(some 91), (.un .not (.tmp 90)), none⟩]
def r_f211_16 : List SOp :=
   [.op ⟨(some 2), (.mv (.av (.str []))), none⟩,
    .op ⟨(some 3), (.mv (.av (.str []))), none⟩,
    .op ⟨(some 4), (.mv (.av (.bool false))), none⟩]
def r_f211_17 : List SOp :=
   [.op ⟨(some 92), (.mv (.tmp 9)), none⟩,
    .op ⟨(some 93), (.idxS (.tmp 92) (.av (.int .i64 0))), none⟩,
    .op ⟨(some 8), (.mv (.tmp 93)), none⟩]
def r_f211_18 : List SOp :=
   [.op ⟨(some 94), (.mv (.tmp 7)), none⟩,
    .op ⟨(some 95), (.bin .add (.tmp 94) (.av (.int .i64 2))), none⟩,
    .op ⟨(some 7), (.mv (.tmp 95)), none⟩]
def r_f211_19 : List SOp :=
   [.op ⟨(some 2), (.mv (.av (.str []))), none⟩,
    .op ⟨(some 3), (.mv (.av (.str []))), none⟩,
    .op ⟨(some 4), (.mv (.av (.bool false))), none⟩]
def r_f211_20 : List SOp :=
   [.op ⟨(some 96), (.mv (.tmp 5)), none⟩,
    .op ⟨(some 97), (.mv (.tmp 8)), none⟩,
    .op ⟨(some 98), (.bslice false 1 1 [(.int .u8 0)] [(0, 1, (.tmp 97))]), none⟩,
    .op ⟨(some 99), (.app 1 1 1 [(.int .u8 0)] (.tmp 96) (.tmp 98)), none⟩,
    .op ⟨(some 5), (.mv (.tmp 99)), none⟩]
def r_f211_21 : List SOp :=
   [.op ⟨(some 100), (.mv (.tmp 7)), none⟩,
    .op ⟨(some 101), (.bin .add (.tmp 100) (.av (.int .i64 1))), none⟩,
    .op ⟨(some 7), (.mv (.tmp 101)), none⟩]
def r_f211_22 : List SOp :=
   [.op ⟨(some 102), (.mv (.tmp 5)), none⟩,
    .op ⟨(some 103), (.b2s (.tmp 102)), none⟩,
    .op ⟨(some 104), (.mv (.tmp 0)), none⟩,
    .op ⟨(some 105), (.mv (.tmp 7)), none⟩,
    .op ⟨(some 106), (.slS (.tmp 104) (some (.tmp 105)) none), none⟩,
    .op ⟨(some 107), (.mv (.tmp 6)), none⟩,
    .op ⟨(some 108), (.un .not (.tmp 107)), none⟩,
    .op ⟨(some 2), (.mv (.tmp 103)), none⟩,
    .op ⟨(some 3), (.mv (.tmp 106)), none⟩,
    .op ⟨(some 4), (.mv (.tmp 108)), none⟩]
def c_f211 : LFun := ⟨109, (.seq (.sreg r_f211_0 [])
  (.seq (.sreg r_f211_1 [])
  (.seq (.sreg r_f211_2 [])
  (.seq (.sreg r_f211_3 [])
  (.seq (.block 0 (.loop (.seq (.seq (.sreg r_f211_4 [true, false, false, false, false, false, false, false])
  (.cond (.tmp 26) .skip
  (.exit 0)))
  (.block 1 (.seq (.sreg r_f211_5 [true, false, false, false])
  (.seq (.sreg r_f211_6 [true, false, false])
  (.seq (.block 2 (.seq (.sreg r_f211_7 [true, false, false])
  (.cond (.tmp 32) (.seq (.sreg r_f211_8 [true, false, false, false, false, false, false, false, false, false, false, false, false, false, false, false, false, false, false, false])
  (.cond (.tmp 54) (.seq (.sreg r_f211_9 [])
  .ret)
  .skip))
  (.seq (.sreg r_f211_10 [true, false, false, false, false, false, false, false, false, false, false, false, false, false])
  (.cond (.tmp 55) (.seq (.sreg r_f211_11 [true, false, false])
  (.sreg r_f211_12 [true, false, false, false]))
  (.seq (.sreg r_f211_13 [true, false, false, false, false, false])
  (.cond (.tmp 74) (.seq (.sreg r_f211_14 [true, true, false, false, false, false, false, false, false, false, false, false])
  (.seq (.seq (.sreg r_f211_15 [true, false])
  (.cond (.tmp 91) (.seq (.sreg r_f211_16 [])
  .ret)
  .skip))
  (.seq (.sreg r_f211_17 [true, false, false])
  (.sreg r_f211_18 [true, false, false]))))
  (.seq (.sreg r_f211_19 [])
  .ret))))))))
  (.seq (.sreg r_f211_20 [true, false, false, false, false])
  (.sreg r_f211_21 [true, false, false])))))))))
  (.seq (.sdreg r_f211_22 [.pure, (.read 0 0), .pure, .pure, (.read 0 0), .pure, .pure, .pure, .pure] [true, true, true, false, false, false, false, false, false, false])
  .ret)))))), [(.tmp 2), (.tmp 3), (.tmp 4)]⟩
def o_f211 : Nat → Nat → Nat := fun _ _ => 1
theorem c_f211_eq : lowF Tryz.prog o_f211 211 = some c_f211.raw := by kernel_rfl
theorem c_f211_ok : c_f211.code.okc = true := by kernel_rfl
/-! castellan/dn.Print -/
def r_f104_0 : List SOp :=
   [.op ⟨(some 2), (.mv (.av (.str []))), none⟩,
    .op ⟨(some 3), (.mv (.av (.int .i64 0))), none⟩]
def r_f104_1 : List SOp :=
   [.op ⟨(some 11), (.mv (.tmp 0)), none⟩,
    .op ⟨(some 12), (.call 165 [(.tmp 11)]), none⟩,
    .op ⟨(some 4), (.mv (.tmp 12)), none⟩]
def r_f104_2 : List SOp :=
   [.op ⟨(some 13), (.mv (.tmp 4)), none⟩,
    .op ⟨(some 14), (.bin .neq (.tmp 13) (.av (.int .i64 0))), none⟩]
def r_f104_3 : List SOp :=
   [.op ⟨(some 15), (.mv (.tmp 4)), none⟩,
    .op ⟨(some 2), (.mv (.av (.str []))), none⟩,
    .op ⟨(some 3), (.mv (.tmp 15)), none⟩]
def r_f104_4 : List SOp :=
   [.op ⟨(some 5), (.mv (.av (.int .i64 0))), none⟩]
def r_f104_5 : List SOp :=
   [.op ⟨(some 16), (.mv (.tmp 0)), none⟩,
    .op ⟨(some 17), (.len false (.tmp 16)), none⟩,
    .op ⟨(some 18), (.mv (.av (.int .i64 0))), none⟩]
def r_f104_6 : List SOp :=
   [.op ⟨(some 19), (.bin .lss (.tmp 18) (.tmp 17)), none⟩]
def r_f104_7 : List SOp :=
   [.op ⟨(some 20), (.iaddr 1 (.tmp 16) (.tmp 18)), none⟩,
    .op ⟨(some 21), (.load false 1 (.tmp 20)), none⟩,
    .op ⟨(some 7), (.mv (.tmp 21)), none⟩]
def r_f104_8 : List SOp :=
   [.op ⟨(some 22), (.mv (.tmp 7)), none⟩,
    .op ⟨(some 23), (.len false (.tmp 22)), none⟩,
    .op ⟨(some 24), (.mv (.av (.int .i64 0))), none⟩]
def r_f104_9 : List SOp :=
   [.op ⟨(some 25), (.bin .lss (.tmp 24) (.tmp 23)), none⟩]
def r_f104_10 : List SOp :=
   [.op ⟨(some 26), (.iaddr 2 (.tmp 22) (.tmp 24)), none⟩,
    .op ⟨(some 27), (.load true 2 (.tmp 26)), none⟩,
    .op ⟨(some 9), (.alloc [(.str []), (.str [])]), none⟩,
    .op ⟨none, (.store 2 (.tmp 9) (.tmp 27)), none⟩]
def r_f104_11 : List SOp :=
   [.op ⟨(some 28), (.faddr 1 (.tmp 9)), none⟩,
    .op ⟨(some 29), (.load false 1 (.tmp 28)), none⟩,
    .op ⟨(some 30), (.len true (.tmp 29)), none⟩,
    .op ⟨(some 31), (.bin .gtr (.tmp 30) (.av (.int .i64 4096))), none⟩]
def r_f104_12 : List SOp :=
   [.op ⟨(some 2), (.mv (.av (.str []))), none⟩,
    .op ⟨(some 3), (.mv (.av (.int .i64 5))), none⟩]
def r_f104_13 : List SOp :=
   [.op ⟨(some 32), (.mv (.tmp 5)), none⟩,
    .op ⟨(some 33), (.bin .add (.tmp 32) (.av (.int .i64 1))), none⟩,
    .op ⟨(some 5), (.mv (.tmp 33)), none⟩]
def r_f104_14 : List SOp :=
   [.op ⟨(some 34), (.bin .add (.tmp 24) (.av (.int .i64 1))), none⟩,
    .op ⟨(some 24), (.mv (.tmp 34)), none⟩]
def r_f104_15 : List SOp :=
   [.op ⟨(some 35), (.bin .add (.tmp 18) (.av (.int .i64 1))), none⟩,
    .op ⟨(some 18), (.mv (.tmp 35)), none⟩]
def r_f104_16 : List SOp :=
   [.op ⟨(some 36), (.mv (.tmp 0)), none⟩,
    .op ⟨(some 37), (.call 166 [(.tmp 36), (.av (.bool false))]), none⟩,
    .op ⟨(some 10), (.mv (.tmp 37)), none⟩]
def r_f104_17 : List SOp :=
   [.op ⟨(some 38), (.mv (.tmp 10)), none⟩,
    .op ⟨(some 39), (.len true (.tmp 38)), none⟩,
    .op ⟨(some 40), (.bin .gtr (.tmp 39) (.av (.int .i64 4096))), none⟩]
def r_f104_18 : List SOp :=
   [.op ⟨(some 2), (.mv (.av (.str []))), none⟩,
    .op ⟨(some 3), (.mv (.av (.int .i64 5))), none⟩]
def r_f104_19 : List SOp :=
   [.op ⟨(some 41), (.mv (.tmp 10)), none⟩,
    .op ⟨(some 2), (.mv (.tmp 41)), none⟩,
    .op ⟨(some 3), (.mv (.av (.int .i64 0))), none⟩]
def c_f104 : LFun := ⟨42, (.seq (.sreg r_f104_0 [])
  (.seq (.seq (.sreg r_f104_1 [true, false, false])
  (.seq (.sreg r_f104_2 [true, false])
  (.cond (.tmp 14) (.seq (.sreg r_f104_3 [true, true, false])
  .ret)
  .skip)))
  (.seq (.sreg r_f104_4 [])
  (.seq (.seq (.sreg r_f104_5 [])
  (.block 0 (.loop (.seq (.sreg r_f104_6 [])
  (.seq (.cond (.tmp 19) .skip
  (.exit 0))
  (.seq (.block 1 (.seq (.sreg r_f104_7 [true, false, false])
  (.seq (.sreg r_f104_8 [])
  (.block 2 (.loop (.seq (.sreg r_f104_9 [])
  (.seq (.cond (.tmp 25) .skip
  (.exit 2))
  (.seq (.block 3 (.seq (.sreg r_f104_10 [true, false, false])
  (.seq (.seq (.sreg r_f104_11 [true, false, false, false])
  (.cond (.tmp 31) (.seq (.sreg r_f104_12 [])
  .ret)
  .skip))
  (.sreg r_f104_13 [true, false, false]))))
  (.sreg r_f104_14 [true, false])))))))))
  (.sreg r_f104_15 [true, false])))))))
  (.seq (.sreg r_f104_16 [true, false, false])
  (.seq (.seq (.sreg r_f104_17 [true, false, false])
  (.cond (.tmp 40) (.seq (.sreg r_f104_18 [])
  .ret)
  .skip))
  (.seq (.sreg r_f104_19 [true, true, false])
  .ret))))))), [(.tmp 2), (.tmp 3)]⟩
def o_f104 : Nat → Nat → Nat := fun _ _ => 1
theorem c_f104_eq : lowF Tryz.prog o_f104 104 = some c_f104.raw := by kernel_rfl
theorem c_f104_ok : c_f104.code.okc = true := by kernel_rfl
/-! castellan/dn.text -/
def r_f166_0 : List SOp :=
   [.op ⟨(some 4), (.mv (.av (.str []))), none⟩]
def r_f166_1 : List SOp :=
   [.op ⟨(some 5), (.mv (.av (.sl [] 0 (some 0)))), none⟩]
def r_f166_2 : List SOp :=
   [.op ⟨(some 11), (.mv (.tmp 0)), none⟩,
    .op ⟨(some 12), (.len false (.tmp 11)), none⟩,
    .op ⟨(some 13), (.mv (.av (.int .i64 0))), none⟩]
def r_f166_3 : List SOp :=
   [.op ⟨(some 14), (.bin .lss (.tmp 13) (.tmp 12)), none⟩]
def r_f166_4 : List SOp :=
   [.op ⟨(some 15), (.iaddr 1 (.tmp 11) (.tmp 13)), none⟩,
    .op ⟨(some 16), (.load false 1 (.tmp 15)), none⟩,
    .op ⟨(some 7), (.mv (.tmp 16)), none⟩]
def r_f166_5 : List SOp :=
   [.op ⟨(some 8), (.mv (.av (.sl [] 0 (some 0)))), none⟩]
def r_f166_6 : List SOp :=
   [.op ⟨(some 17), (.mv (.tmp 7)), none⟩,
    .op ⟨(some 18), (.len false (.tmp 17)), none⟩,
    .op ⟨(some 19), (.mv (.av (.int .i64 0))), none⟩]
def r_f166_7 : List SOp :=
   [.op ⟨(some 20), (.bin .lss (.tmp 19) (.tmp 18)), none⟩]
def r_f166_8 : List SOp :=
   [.op ⟨(some 21), (.iaddr 2 (.tmp 17) (.tmp 19)), none⟩,
    .op ⟨(some 22), (.load true 2 (.tmp 21)), none⟩,
    .op ⟨(some 10), (.alloc [(.str []), (.str [])]), none⟩,
    .op ⟨none, (.store 2 (.tmp 10) (.tmp 22)), none⟩]
def r_f166_9 : List SOp :=
   [.op ⟨(some 23), (.mv (.tmp 1)), none⟩]
def r_f166_10 : List (LOper × Kd) :=
   [(⟨(some 24), (.faddr 0 (.tmp 10)), none⟩, .pure),
    (⟨(some 25), (.load false 1 (.tmp 24)), none⟩, (.read 0 0)),
    (⟨(some 26), (.call 45 [(.tmp 25)]), none⟩, .eff),
    (⟨(some 27), (.faddr 1 (.tmp 10)), none⟩, .pure),
    (⟨(some 28), (.load false 1 (.tmp 27)), none⟩, (.read 1 0))]
def r_f166_10t : List LOper :=
   [⟨(some 29), (.call 87 [(.tmp 28)]), none⟩,
    ⟨(some 30), (.build [(.str []), (.str [])] [(0, 1, (.tmp 26)), (1, 1, (.tmp 29))]), none⟩,
    ⟨none, (.store 2 (.tmp 10) (.tmp 30)), none⟩]
def r_f166_11 : List (LOper × Kd) :=
   [(⟨(some 31), (.mv (.tmp 8)), none⟩, .pure),
    (⟨(some 32), (.faddr 0 (.tmp 10)), none⟩, .pure),
    (⟨(some 33), (.load false 1 (.tmp 32)), none⟩, (.read 0 1)),
    (⟨(some 34), (.bin .add (.tmp 33) (.av (.str [61]))), none⟩, .pure),
    (⟨(some 35), (.faddr 1 (.tmp 10)), none⟩, .pure),
    (⟨(some 36), (.load false 1 (.tmp 35)), none⟩, (.read 0 0)),
    (⟨(some 37), (.call 221 [(.tmp 36)]), none⟩, .eff),
    (⟨(some 38), (.bin .add (.tmp 34) (.tmp 37)), none⟩, .pure),
    (⟨(some 39), (.bslice false 1 1 [(.str [])] [(0, 1, (.tmp 38))]), none⟩, (.read 0 0))]
def r_f166_11t : List LOper :=
   [⟨(some 40), (.app 1 1 16 [(.str [])] (.tmp 31) (.tmp 39)), none⟩,
    ⟨(some 8), (.mv (.tmp 40)), none⟩]
def r_f166_12 : List SOp :=
   [.op ⟨(some 41), (.bin .add (.tmp 19) (.av (.int .i64 1))), none⟩,
    .op ⟨(some 19), (.mv (.tmp 41)), none⟩]
def r_f166_13 : List SOp :=
   [.op ⟨(some 42), (.mv (.tmp 1)), none⟩]
def r_f166_14 : List SOp :=
   [.op ⟨(some 43), (.mv (.tmp 8)), none⟩,
    .op ⟨(some 44), (.call 222 [(.tmp 43)]), none⟩]
def r_f166_15 : List SOp :=
   [.op ⟨(some 45), (.mv (.tmp 5)), none⟩,
    .op ⟨(some 46), (.mv (.tmp 8)), none⟩,
    .op ⟨(some 47), (.call 180 [(.tmp 46), (.av (.str [43]))]), none⟩,
    .op ⟨(some 48), (.bslice false 1 1 [(.str [])] [(0, 1, (.tmp 47))]), none⟩,
    .op ⟨(some 49), (.app 1 1 16 [(.str [])] (.tmp 45) (.tmp 48)), none⟩,
    .op ⟨(some 5), (.mv (.tmp 49)), none⟩]
def r_f166_16 : List SOp :=
   [.op ⟨(some 50), (.bin .add (.tmp 13) (.av (.int .i64 1))), none⟩,
    .op ⟨(some 13), (.mv (.tmp 50)), none⟩]
def r_f166_17 : List SOp :=
   [.op ⟨(some 51), (.mv (.tmp 5)), none⟩,
    .op ⟨(some 52), (.call 180 [(.tmp 51), (.av (.str [44]))]), none⟩,
    .op ⟨(some 4), (.mv (.tmp 52)), none⟩]
def c_f166 : LFun := ⟨53, (.seq (.sreg r_f166_0 [])
  (.seq (.sreg r_f166_1 [])
  (.seq (.seq (.sreg r_f166_2 [])
  (.block 0 (.loop (.seq (.sreg r_f166_3 [])
  (.seq (.cond (.tmp 14) .skip
  (.exit 0))
  (.seq (.block 1 (.seq (.sreg r_f166_4 [true, false, false])
  (.seq (.sreg r_f166_5 [])
  (.seq (.seq (.sreg r_f166_6 [])
  (.block 2 (.loop (.seq (.sreg r_f166_7 [])
  (.seq (.cond (.tmp 20) .skip
  (.exit 2))
  (.seq (.block 3 (.seq (.sreg r_f166_8 [true, false, false])
  (.seq (.seq (.sreg r_f166_9 [])
  (.cond (.tmp 23) (.dregM r_f166_10 r_f166_10t [false, false, false, false, false, false, false])
  .skip))
  (.dregM r_f166_11 r_f166_11t [true, false, false, false, false, false, false, false, false, false, false]))))
  (.sreg r_f166_12 [true, false])))))))
  (.seq (.seq (.sreg r_f166_13 [])
  (.cond (.tmp 42) (.sreg r_f166_14 [false, false])
  .skip))
  (.sreg r_f166_15 [true, false, false, false, false, false]))))))
  (.sreg r_f166_16 [true, false])))))))
  (.seq (.sreg r_f166_17 [true, false, false])
  .ret)))), [(.tmp 4)]⟩
def o_f166 : Nat → Nat → Nat := fun r i => if r = 10 ∧ i = 2 then 3 else if r = 10 ∧ i = 5 then 3 else if r = 11 ∧ i = 6 then 3 else 1
theorem c_f166_eq : lowF Tryz.prog o_f166 166 = some c_f166.raw := by kernel_rfl
theorem c_f166_ok : c_f166.code.okc = true := by kernel_rfl
/-! castellan/dn.letter -/
def r_f264_0 : List SOp :=
   [.op ⟨(some 2), (.mv (.av (.bool false))), none⟩]
def r_f264_1 : List SOp :=
   [.op ⟨(some 3), (.mv (.tmp 0)), none⟩,
    .op ⟨(some 4), (.bin .geq (.tmp 3) (.av (.int .i32 97))), none⟩,
    .op ⟨(some 5), (.mv (.tmp 4)), none⟩,
    .grp none 5 true
      [.op ⟨(some 6), (.mv (.tmp 0)), (some (5, true))⟩,
      .op ⟨(some 7), (.bin .leq (.tmp 6) (.av (.int .i32 122))), (some (5, true))⟩]
      8 (.tmp 7),
    .op ⟨(some 9), (.mv (.tmp 8)), none⟩,
    .grp none 9 false
      [.op ⟨(some 10), (.mv (.tmp 0)), (some (9, false))⟩,
      .op ⟨(some 11), (.bin .geq (.tmp 10) (.av (.int .i32 65))), (some (9, false))⟩,
      .op ⟨(some 12), (.mv (.tmp 11)), (some (9, false))⟩,
      .grp (some (9, false)) 12 true
        [.op ⟨(some 13), (.mv (.tmp 0)), (some (12, true))⟩,
        .op ⟨(some 14), (.bin .leq (.tmp 13) (.av (.int .i32 90))), (some (12, true))⟩]
        15 (.tmp 14)]
      16 (.tmp 15),
    .op ⟨(some 2), (.mv (.tmp 16)), none⟩]
def c_f264 : LFun := ⟨17, (.seq (.sreg r_f264_0 [])
  (.seq (.sreg r_f264_1 [true, false, false, false, false, false, false])
  .ret)), [(.tmp 2)]⟩
def o_f264 : Nat → Nat → Nat := fun _ _ => 1
theorem c_f264_eq : lowF Tryz.prog o_f264 264 = some c_f264.raw := by kernel_rfl
theorem c_f264_ok : c_f264.code.okc = true := by kernel_rfl
/-! internal/stringslite.Index -/
def r_f272_0 : List SOp :=
   [.op ⟨(some 4), (.mv (.av (.int .i64 0))), none⟩]
def r_f272_1 : List SOp :=
   [.op ⟨(some 14), (.mv (.tmp 1)), none⟩,
    .op ⟨(some 15), (.len true (.tmp 14)), none⟩,
    .op ⟨(some 5), (.mv (.tmp 15)), none⟩]
def r_f272_2 : List SOp :=
   [.op ⟨(some 17), (.mv (.tmp 5)), none⟩,
    .op ⟨(some 18), (.bin .eql (.tmp 17) (.av (.int .i64 0))), none⟩,
    .op ⟨(some 19), (.mv (.tmp 18)), none⟩,
    .grp none 19 false
      [.op ⟨(some 20), (.mv (.tmp 1)), (some (19, false))⟩,
      .op ⟨(some 21), (.mv (.tmp 0)), (some (19, false))⟩,
      .op ⟨(some 22), (.bin .eql (.tmp 20) (.tmp 21)), (some (19, false))⟩]
      23 (.tmp 22),
    .op ⟨(some 16), (.mv (.tmp 23)), none⟩]
def r_f272_3 : List SOp :=
   [.op ⟨(some 4), (.mv (.av (.int .i64 0))), none⟩]
def r_f272_4 : List SOp :=
   [.op ⟨(some 25), (.mv (.tmp 5)), none⟩,
    .op ⟨(some 26), (.bin .eql (.tmp 25) (.av (.int .i64 1))), none⟩,
    .op ⟨(some 24), (.mv (.tmp 26)), none⟩]
def r_f272_5 : List SOp :=
   [.op ⟨(some 27), (.mv (.tmp 0)), none⟩,
    .op ⟨(some 28), (.mv (.tmp 1)), none⟩,
    .op ⟨(some 29), (.idxS (.tmp 28) (.av (.int .i64 0))), none⟩,
    .op ⟨(some 30), (.call 311 [(.tmp 27), (.tmp 29)]), none⟩,
    .op ⟨(some 4), (.mv (.tmp 30)), none⟩]
def r_f272_6 : List SOp :=
   [.op ⟨(some 32), (.mv (.tmp 5)), none⟩,
    .op ⟨(some 33), (.mv (.tmp 0)), none⟩,
    .op ⟨(some 34), (.len true (.tmp 33)), none⟩,
    .op ⟨(some 35), (.bin .geq (.tmp 32) (.tmp 34)), none⟩,
    .op ⟨(some 31), (.mv (.tmp 35)), none⟩]
def r_f272_7 : List SOp :=
   [.op ⟨(some 4), (.mv (.av (.int .i64 (-1)))), none⟩]
def r_f272_8 : List SOp :=
   [.op ⟨(some 37), (.mv (.tmp 5)), none⟩,
    .op ⟨(some 38), (.load false 1 (.av (.gptr 3 0))), none⟩,
    .op ⟨(some 39), (.bin .leq (.tmp 37) (.tmp 38)), none⟩,
    .op ⟨(some 40), (.mv (.tmp 39)), none⟩,
    .grp none 40 true
      [.op ⟨(some 41), (.mv (.tmp 0)), (some (40, true))⟩,
      .op ⟨(some 42), (.len true (.tmp 41)), (some (40, true))⟩,
      .op ⟨(some 43), (.bin .leq (.tmp 42) (.av (.int .i64 64))), (some (40, true))⟩]
      44 (.tmp 43),
    .op ⟨(some 36), (.mv (.tmp 44)), none⟩]
def r_f272_9 : List SOp :=
   [.op ⟨(some 45), (.mv (.tmp 0)), none⟩,
    .op ⟨(some 46), (.mv (.tmp 1)), none⟩,
    .op ⟨(some 47), (.call 313 [(.tmp 45), (.tmp 46)]), none⟩,
    .op ⟨(some 4), (.mv (.tmp 47)), none⟩]
def r_f272_10 : List SOp :=
   [.op ⟨(some 48), (.mv (.tmp 1)), none⟩,
    .op ⟨(some 49), (.idxS (.tmp 48) (.av (.int .i64 0))), none⟩,
    .op ⟨(some 6), (.mv (.tmp 49)), none⟩]
def r_f272_11 : List SOp :=
   [.op ⟨(some 50), (.mv (.tmp 1)), none⟩,
    .op ⟨(some 51), (.idxS (.tmp 50) (.av (.int .i64 1))), none⟩,
    .op ⟨(some 7), (.mv (.tmp 51)), none⟩]
def r_f272_12 : List SOp :=
   [.op ⟨(some 8), (.mv (.av (.int .i64 0))), none⟩]
def r_f272_13 : List SOp :=
   [.op ⟨(some 52), (.mv (.tmp 0)), none⟩,
    .op ⟨(some 53), (.len true (.tmp 52)), none⟩,
    .op ⟨(some 54), (.mv (.tmp 5)), none⟩,
    .op ⟨(some 55), (.bin .sub (.tmp 53) (.tmp 54)), none⟩,
    .op ⟨(some 56), (.bin .add (.tmp 55) (.av (.int .i64 1))), none⟩,
    .op ⟨(some 9), (.mv (.tmp 56)), none⟩]
def r_f272_14 : List SOp :=
   [.op ⟨(some 10), (.mv (.av (.int .i64 0))), none⟩]
def r_f272_15 : List SOp :=
   [.op ⟨(some 57), (.mv (.tmp 8)), none⟩,
    .op ⟨(some 58), (.mv (.tmp 9)), none⟩,
    .op ⟨(some 59), (.bin .lss (.tmp 57) (.tmp 58)), none⟩]
def r_f272_16 : List SOp :=
   [.op ⟨(some 60), (.mv (.tmp 0)), none⟩,
    .op ⟨(some 61), (.mv (.tmp 8)), none⟩,
    .op ⟨(some 62), (.idxS (.tmp 60) (.tmp 61)), none⟩,
    .op ⟨(some 63), (.mv (.tmp 6)), none⟩,
    .op ⟨(some 64), (.bin .neq (.tmp 62) (.tmp 63)), none⟩]
def r_f272_17 : List SOp :=
   [.op ⟨(some 65), (.mv (.tmp 0)), none⟩,
    .op ⟨(some 66), (.mv (.tmp 8)), none⟩,
    .op ⟨(some 67), (.bin .add (.tmp 66) (.av (.int .i64 1))), none⟩,
    .op ⟨(some 68), (.mv (.tmp 9)), none⟩,
    .op ⟨(some 69), (.slS (.tmp 65) (some (.tmp 67)) (some (.tmp 68))), none⟩,
    .op ⟨(some 70), (.mv (.tmp 6)), none⟩,
    .op ⟨(some 71), (.call 311 [(.tmp 69), (.tmp 70)]), none⟩,
    .op ⟨(some 11), (.mv (.tmp 71)), none⟩]
def r_f272_18 : List SOp :=
   [.op ⟨(some 72), (.mv (.tmp 11)), none⟩,
    .op ⟨(some 73), (.bin .lss (.tmp 72) (.av (.int .i64 0))), none⟩]
def r_f272_19 : List SOp :=
   [.op ⟨(some 4), (.mv (.av (.int .i64 (-1)))), none⟩]
def r_f272_20 : List SOp :=
   [.op ⟨(some 74), (.mv (.tmp 8)), none⟩,
    .op ⟨(some 75), (.mv (.tmp 11)), none⟩,
    .op ⟨(some 76), (.bin .add (.tmp 75) (.av (.int .i64 1))), none⟩,
    .op ⟨(some 77), (.bin .add (.tmp 74) (.tmp 76)), none⟩,
    .op ⟨(some 8), (.mv (.tmp 77)), none⟩]
def r_f272_21 : List SOp :=
   [.op ⟨(some 78), (.mv (.tmp 0)), none⟩,
    .op ⟨(some 79), (.mv (.tmp 8)), none⟩,
    .op ⟨(some 80), (.bin .add (.tmp 79) (.av (.int .i64 1))), none⟩,
    .op ⟨(some 81), (.idxS (.tmp 78) (.tmp 80)), none⟩,
    .op ⟨(some 82), (.mv (.tmp 7)), none⟩,
    .op ⟨(some 83), (.bin .eql (.tmp 81) (.tmp 82)), none⟩,
    .op ⟨(some 84), (.mv (.tmp 83)), none⟩,
    .grp none 84 true
      [.op ⟨(some 85), (.mv (.tmp 0)), (some (84, true))⟩,
      .op ⟨(some 86), (.mv (.tmp 8)), (some (84, true))⟩,
      .op ⟨(some 87), (.mv (.tmp 8)), (some (84, true))⟩,
      .op ⟨(some 88), (.mv (.tmp 5)), (some (84, true))⟩,
      .op ⟨(some 89), (.bin .add (.tmp 87) (.tmp 88)), (some (84, true))⟩,
      .op ⟨(some 90), (.slS (.tmp 85) (some (.tmp 86)) (some (.tmp 89))), (some (84, true))⟩,
      .op ⟨(some 91), (.mv (.tmp 1)), (some (84, true))⟩,
      .op ⟨(some 92), (.bin .eql (.tmp 90) (.tmp 91)), (some (84, true))⟩]
      93 (.tmp 92)]
def r_f272_22 : List SOp :=
   [.op ⟨(some 94), (.mv (.tmp 8)), none⟩,
    .op ⟨(some 4), (.mv (.tmp 94)), none⟩]
def r_f272_23 : List SOp :=
   [.op ⟨(some 95), (.mv (.tmp 8)), none⟩,
    .op ⟨(some 96), (.bin .add (.tmp 95) (.av (.int .i64 1))), none⟩,
    .op ⟨(some 8), (.mv (.tmp 96)), none⟩]
def r_f272_24 : List SOp :=
   [.op ⟨(some 97), (.mv (.tmp 10)), none⟩,
    .op ⟨(some 98), (.bin .add (.tmp 97) (.av (.int .i64 1))), none⟩,
    .op ⟨(some 10), (.mv (.tmp 98)), none⟩]
def r_f272_25 : List SOp :=
   [.op ⟨(some 99), (.mv (.tmp 5)), none⟩,
    .op ⟨(some 100), (.load false 1 (.av (.gptr 3 0))), none⟩,
    .op ⟨(some 101), (.bin .leq (.tmp 99) (.tmp 100)), none⟩,
    .op ⟨(some 102), (.mv (.tmp 101)), none⟩,
    .op ⟨(some 103), (.mv (.tmp 10)), (some (102, true))⟩,
    .op ⟨(some 104), (.mv (.tmp 8)), (some (102, true))⟩,
    .op ⟨(some 105), (.call 314 [(.tmp 104)]), (some (102, true))⟩,
    .op ⟨(some 106), (.bin .gtr (.tmp 103) (.tmp 105)), (some (102, true))⟩,
    .op ⟨(some 107), (.pick (.tmp 102) (.tmp 106) (.av (.bool false))), none⟩]
def r_f272_26 : List SOp :=
   [.op ⟨(some 108), (.mv (.tmp 0)), none⟩,
    .op ⟨(some 109), (.mv (.tmp 8)), none⟩,
    .op ⟨(some 110), (.slS (.tmp 108) (some (.tmp 109)) none), none⟩,
    .op ⟨(some 111), (.mv (.tmp 1)), none⟩,
    .op ⟨(some 112), (.call 313 [(.tmp 110), (.tmp 111)]), none⟩,
    .op ⟨(some 12), (.mv (.tmp 112)), none⟩]
def r_f272_27 : List SOp :=
   [.op ⟨(some 113), (.mv (.tmp 12)), none⟩,
    .op ⟨(some 114), (.bin .geq (.tmp 113) (.av (.int .i64 0))), none⟩]
def r_f272_28 : List SOp :=
   [.op ⟨(some 115), (.mv (.tmp 12)), none⟩,
    .op ⟨(some 116), (.mv (.tmp 8)), none⟩,
    .op ⟨(some 117), (.bin .add (.tmp 115) (.tmp 116)), none⟩,
    .op ⟨(some 4), (.mv (.tmp 117)), none⟩]
def r_f272_29 : List SOp :=
   [.op ⟨(some 4), (.mv (.av (.int .i64 (-1)))), none⟩]
def r_f272_30 : List SOp :=
   [.op ⟨(some 118), (.mv (.tmp 5)), none⟩,
    .op ⟨(some 119), (.load false 1 (.av (.gptr 3 0))), none⟩,
    .op ⟨(some 120), (.bin .gtr (.tmp 118) (.tmp 119)), none⟩,
    .op ⟨(some 121), (.mv (.tmp 120)), none⟩,
    .grp none 121 true
      [.op ⟨(some 122), (.mv (.tmp 10)), (some (121, true))⟩,
      .op ⟨(some 123), (.mv (.tmp 8)), (some (121, true))⟩,
      .op ⟨(some 124), (.bin .shr (.tmp 123) (.av (.int .u64 4))), (some (121, true))⟩,
      .op ⟨(some 125), (.bin .add (.av (.int .i64 4)) (.tmp 124)), (some (121, true))⟩,
      .op ⟨(some 126), (.bin .geq (.tmp 122) (.tmp 125)), (some (121, true))⟩]
      127 (.tmp 126),
    .op ⟨(some 128), (.mv (.tmp 127)), none⟩,
    .grp none 128 true
      [.op ⟨(some 129), (.mv (.tmp 8)), (some (128, true))⟩,
      .op ⟨(some 130), (.mv (.tmp 9)), (some (128, true))⟩,
      .op ⟨(some 131), (.bin .lss (.tmp 129) (.tmp 130)), (some (128, true))⟩]
      132 (.tmp 131)]
def r_f272_31 : List SOp :=
   [.op ⟨(some 133), (.mv (.tmp 0)), none⟩,
    .op ⟨(some 134), (.mv (.tmp 8)), none⟩,
    .op ⟨(some 135), (.slS (.tmp 133) (some (.tmp 134)) none), none⟩,
    .op ⟨(some 136), (.mv (.tmp 1)), none⟩,
    .op ⟨(some 137), (.call 315 [(.tmp 135), (.tmp 136)]), none⟩,
    .op ⟨(some 13), (.mv (.tmp 137)), none⟩]
def r_f272_32 : List SOp :=
   [.op ⟨(some 138), (.mv (.tmp 13)), none⟩,
    .op ⟨(some 139), (.bin .lss (.tmp 138) (.av (.int .i64 0))), none⟩]
def r_f272_33 : List SOp :=
   [.op ⟨(some 4), (.mv (.av (.int .i64 (-1)))), none⟩]
def r_f272_34 : List SOp :=
   [.op ⟨(some 140), (.mv (.tmp 8)), none⟩,
    .op ⟨(some 141), (.mv (.tmp 13)), none⟩,
    .op ⟨(some 142), (.bin .add (.tmp 140) (.tmp 141)), none⟩,
    .op ⟨(some 4), (.mv (.tmp 142)), none⟩]
def r_f272_35 : List SOp :=
   [.op ⟨(some 4), (.mv (.av (.int .i64 (-1)))), none⟩]
def c_f272 : LFun := ⟨143, (.seq (.sreg r_f272_0 [])
  (.seq (.sreg r_f272_1 [true, false, false])
  (.seq (.block 0 (.seq (.sreg r_f272_2 [true, false, false, false, false])
  (.cond (.tmp 16) (.seq (.sreg r_f272_3 [])
  .ret)
  (.seq (.sreg r_f272_4 [true, false, false])
  (.cond (.tmp 24) (.seq (.sreg r_f272_5 [true, false, false, false, false])
  .ret)
  (.seq (.sreg r_f272_6 [true, false, false, false, false])
  (.cond (.tmp 31) (.seq (.sreg r_f272_7 [])
  .ret)
  (.seq (.sreg r_f272_8 [true, false, false, false, false, false])
  (.cond (.tmp 36) (.seq (.sreg r_f272_9 [true, false, false, false])
  .ret)
  .skip)))))))))
  (.seq (.sreg r_f272_10 [true, false, false])
  (.seq (.sreg r_f272_11 [true, false, false])
  (.seq (.sreg r_f272_12 [])
  (.seq (.sreg r_f272_13 [true, false, false, false, false, false])
  (.seq (.sreg r_f272_14 [])
  (.seq (.block 1 (.loop (.seq (.seq (.sreg r_f272_15 [true, false, false])
  (.cond (.tmp 59) .skip
  (.exit 1)))
  (.block 2 (.seq (.seq (.sreg r_f272_16 [true, false, false, false, false])
  (.cond (.tmp 64) (.seq (.sreg r_f272_17 [true, false, false, false, false, false, false, false])
  (.seq (.seq (.sreg r_f272_18 [true, false])
  (.cond (.tmp 73) (.seq (.sreg r_f272_19 [])
  .ret)
  .skip))
  (.sreg r_f272_20 [true, false, false, false, false])))
  .skip))
  (.seq (.seq (.sreg r_f272_21 [true, false, false, false, false, false, false, false])
  (.cond (.tmp 93) (.seq (.sreg r_f272_22 [true, false])
  .ret)
  .skip))
  (.seq (.sreg r_f272_23 [true, false, false])
  (.seq (.sreg r_f272_24 [true, false, false])
  (.seq (.sreg r_f272_25 [true, false, false, false, false, false, false, false, false])
  (.cond (.tmp 107) (.seq (.sreg r_f272_26 [true, false, false, false, false, false])
  (.seq (.seq (.sreg r_f272_27 [true, false])
  (.cond (.tmp 114) (.seq (.sreg r_f272_28 [true, false, false, false])
  .ret)
  .skip))
  (.seq (.sreg r_f272_29 [])
  .ret)))
  (.seq (.sreg r_f272_30 [true, false, false, false, false, false, false])
  (.cond (.tmp 132) (.seq (.sreg r_f272_31 [true, false, false, false, false, false])
  (.seq (.seq (.sreg r_f272_32 [true, false])
  (.cond (.tmp 139) (.seq (.sreg r_f272_33 [])
  .ret)
  .skip))
  (.seq (.sreg r_f272_34 [true, false, false, false])
  .ret)))
  .skip))))))))))))
  (.seq (.sreg r_f272_35 [])
  .ret)))))))))), [(.tmp 4)]⟩
def o_f272 : Nat → Nat → Nat := fun _ _ => 1
theorem c_f272_eq : lowF Tryz.prog o_f272 272 = some c_f272.raw := by kernel_rfl
theorem c_f272_ok : c_f272.code.okc = true := by kernel_rfl
/-! internal/stringslite.HasPrefix -/
def r_f273_0 : List SOp :=
   [.op ⟨(some 4), (.mv (.av (.bool false))), none⟩]
def r_f273_1 : List SOp :=
   [.op ⟨(some 5), (.mv (.tmp 0)), none⟩,
    .op ⟨(some 6), (.len true (.tmp 5)), none⟩,
    .op ⟨(some 7), (.mv (.tmp 1)), none⟩,
    .op ⟨(some 8), (.len true (.tmp 7)), none⟩,
    .op ⟨(some 9), (.bin .geq (.tmp 6) (.tmp 8)), none⟩,
    .op ⟨(some 10), (.mv (.tmp 9)), none⟩,
    .grp none 10 true
      [.op ⟨(some 11), (.mv (.tmp 0)), (some (10, true))⟩,
      .op ⟨(some 12), (.mv (.tmp 1)), (some (10, true))⟩,
      .op ⟨(some 13), (.len true (.tmp 12)), (some (10, true))⟩,
      .op ⟨(some 14), (.slS (.tmp 11) none (some (.tmp 13))), (some (10, true))⟩,
      .op ⟨(some 15), (.mv (.tmp 1)), (some (10, true))⟩,
      .op ⟨(some 16), (.bin .eql (.tmp 14) (.tmp 15)), (some (10, true))⟩]
      17 (.tmp 16),
    .op ⟨(some 4), (.mv (.tmp 17)), none⟩]
def c_f273 : LFun := ⟨18, (.seq (.sreg r_f273_0 [])
  (.seq (.sreg r_f273_1 [true, false, false, false, false, false, false, false])
  .ret)), [(.tmp 4)]⟩
def o_f273 : Nat → Nat → Nat := fun _ _ => 1
theorem c_f273_eq : lowF Tryz.prog o_f273 273 = some c_f273.raw := by kernel_rfl
theorem c_f273_ok : c_f273.code.okc = true := by kernel_rfl
/-! internal/stringslite.HasSuffix -/
def r_f274_0 : List SOp :=
   [.op ⟨(some 4), (.mv (.av (.bool false))), none⟩]
def r_f274_1 : List SOp :=
   [.op ⟨(some 5), (.mv (.tmp 0)), none⟩,
    .op ⟨(some 6), (.len true (.tmp 5)), none⟩,
    .op ⟨(some 7), (.mv (.tmp 1)), none⟩,
    .op ⟨(some 8), (.len true (.tmp 7)), none⟩,
    .op ⟨(some 9), (.bin .geq (.tmp 6) (.tmp 8)), none⟩,
    .op ⟨(some 10), (.mv (.tmp 9)), none⟩,
    .grp none 10 true
      [.op ⟨(some 11), (.mv (.tmp 0)), (some (10, true))⟩,
      .op ⟨(some 12), (.mv (.tmp 0)), (some (10, true))⟩,
      .op ⟨(some 13), (.len true (.tmp 12)), (some (10, true))⟩,
      .op ⟨(some 14), (.mv (.tmp 1)), (some (10, true))⟩,
      .op ⟨(some 15), (.len true (.tmp 14)), (some (10, true))⟩,
      .op ⟨(some 16), (.bin .sub (.tmp 13) (.tmp 15)), (some (10, true))⟩,
      .op ⟨(some 17), (.slS (.tmp 11) (some (.tmp 16)) none), (some (10, true))⟩,
      .op ⟨(some 18), (.mv (.tmp 1)), (some (10, true))⟩,
      .op ⟨(some 19), (.bin .eql (.tmp 17) (.tmp 18)), (some (10, true))⟩]
      20 (.tmp 19),
    .op ⟨(some 4), (.mv (.tmp 20)), none⟩]
def c_f274 : LFun := ⟨21, (.seq (.sreg r_f274_0 [])
  (.seq (.sreg r_f274_1 [true, false, false, false, false, false, false, false])
  .ret)), [(.tmp 4)]⟩
def o_f274 : Nat → Nat → Nat := fun _ _ => 1
theorem c_f274_eq : lowF Tryz.prog o_f274 274 = some c_f274.raw := by kernel_rfl
theorem c_f274_ok : c_f274.code.okc = true := by kernel_rfl
/-! internal/strconv.ParseUint -/
def r_f254_0 : List SOp :=
   [.op ⟨(some 6), (.mv (.av (.int .u64 0))), none⟩,
    .op ⟨(some 7), (.mv (.av .nilif)), none⟩]
def r_f254_1 : List SOp :=
   [.op ⟨(some 18), (.mv (.tmp 0)), none⟩,
    .op ⟨(some 19), (.bin .eql (.tmp 18) (.av (.str []))), none⟩]
def r_f254_2 : List SOp :=
   [.op ⟨(some 20), (.mkif 336 (.av (.int .i64 2))), none⟩,
    .op ⟨(some 6), (.mv (.av (.int .u64 0))), none⟩,
    .op ⟨(some 7), (.mv (.tmp 20)), none⟩]
def r_f254_3 : List SOp :=
   [.op ⟨(some 21), (.mv (.tmp 1)), none⟩,
    .op ⟨(some 22), (.bin .eql (.tmp 21) (.av (.int .i64 0))), none⟩,
    .op ⟨(some 8), (.mv (.tmp 22)), none⟩]
def r_f254_4 : List SOp :=
   [.op ⟨(some 23), (.mv (.tmp 0)), none⟩,
    .op ⟨(some 9), (.mv (.tmp 23)), none⟩]
def r_f254_5 : List SOp :=
   [.op ⟨(some 26), (.mv (.tmp 1)), none⟩,
    .op ⟨(some 27), (.bin .leq (.av (.int .i64 2)) (.tmp 26)), none⟩,
    .op ⟨(some 28), (.mv (.tmp 27)), none⟩,
    .grp none 28 true
      [.op ⟨(some 29), (.mv (.tmp 1)), (some (28, true))⟩,
      .op ⟨(some 30), (.bin .leq (.tmp 29) (.av (.int .i64 36))), (some (28, true))⟩]
      31 (.tmp 30),
    .op ⟨(some 25), (.mv (.tmp 31)), none⟩]
def r_f254_6 : List SOp :=
   [.op ⟨(some 33), (.mv (.tmp 1)), none⟩,
    .op ⟨(some 34), (.bin .eql (.tmp 33) (.av (.int .i64 0))), none⟩,
    .op ⟨(some 32), (.mv (.tmp 34)), none⟩]
def r_f254_7 : List SOp :=
   [.op ⟨(some 1), (.mv (.av (.int .i64 10))), none⟩]
def r_f254_8 : List SOp :=
   [.op ⟨(some 35), (.mv (.tmp 0)), none⟩,
    .op ⟨(some 36), (.idxS (.tmp 35) (.av (.int .i64 0))), none⟩,
    .op ⟨(some 37), (.bin .eql (.tmp 36) (.av (.int .u8 48))), none⟩]
def r_f254_9 : List SOp :=
   [.op ⟨(some 41), (.mv (.tmp 0)), none⟩,
    .op ⟨(some 42), (.len true (.tmp 41)), none⟩,
    .op ⟨(some 43), (.bin .geq (.tmp 42) (.av (.int .i64 3))), none⟩,
    .op ⟨(some 44), (.mv (.tmp 43)), none⟩,
    .op ⟨(some 45), (.mv (.tmp 0)), (some (44, true))⟩,
    .op ⟨(some 46), (.idxS (.tmp 45) (.av (.int .i64 1))), (some (44, true))⟩,
    .op ⟨(some 47), (.call 301 [(.tmp 46)]), (some (44, true))⟩,
    .op ⟨(some 48), (.bin .eql (.tmp 47) (.av (.int .u8 98))), (some (44, true))⟩,
    .op ⟨(some 49), (.pick (.tmp 44) (.tmp 48) (.av (.bool false))), none⟩,
    .op ⟨(some 40), (.mv (.tmp 49)), none⟩]
def r_f254_10 : List SOp :=
   [.op ⟨(some 1), (.mv (.av (.int .i64 2))), none⟩]
def r_f254_11 : List SOp :=
   [.op ⟨(some 50), (.mv (.tmp 0)), none⟩,
    .op ⟨(some 51), (.slS (.tmp 50) (some (.av (.int .i64 2))) none), none⟩,
    .op ⟨(some 0), (.mv (.tmp 51)), none⟩]
def r_f254_12 : List SOp :=
   [.op ⟨(some 53), (.mv (.tmp 0)), none⟩,
    .op ⟨(some 54), (.len true (.tmp 53)), none⟩,
    .op ⟨(some 55), (.bin .geq (.tmp 54) (.av (.int .i64 3))), none⟩,
    .op ⟨(some 56), (.mv (.tmp 55)), none⟩,
    .op ⟨(some 57), (.mv (.tmp 0)), (some (56, true))⟩,
    .op ⟨(some 58), (.idxS (.tmp 57) (.av (.int .i64 1))), (some (56, true))⟩,
    .op ⟨(some 59), (.call 301 [(.tmp 58)]), (some (56, true))⟩,
    .op ⟨(some 60), (.bin .eql (.tmp 59) (.av (.int .u8 111))), (some (56, true))⟩,
    .op ⟨(some 61), (.pick (.tmp 56) (.tmp 60) (.av (.bool false))), none⟩,
    .op ⟨(some 52), (.mv (.tmp 61)), none⟩]
def r_f254_13 : List SOp :=
   [.op ⟨(some 1), (.mv (.av (.int .i64 8))), none⟩]
def r_f254_14 : List SOp :=
   [.op ⟨(some 62), (.mv (.tmp 0)), none⟩,
    .op ⟨(some 63), (.slS (.tmp 62) (some (.av (.int .i64 2))) none), none⟩,
    .op ⟨(some 0), (.mv (.tmp 63)), none⟩]
def r_f254_15 : List SOp :=
   [.op ⟨(some 65), (.mv (.tmp 0)), none⟩,
    .op ⟨(some 66), (.len true (.tmp 65)), none⟩,
    .op ⟨(some 67), (.bin .geq (.tmp 66) (.av (.int .i64 3))), none⟩,
    .op ⟨(some 68), (.mv (.tmp 67)), none⟩,
    .op ⟨(some 69), (.mv (.tmp 0)), (some (68, true))⟩,
    .op ⟨(some 70), (.idxS (.tmp 69) (.av (.int .i64 1))), (some (68, true))⟩,
    .op ⟨(some 71), (.call 301 [(.tmp 70)]), (some (68, true))⟩,
    .op ⟨(some 72), (.bin .eql (.tmp 71) (.av (.int .u8 120))), (some (68, true))⟩,
    .op ⟨(some 73), (.pick (.tmp 68) (.tmp 72) (.av (.bool false))), none⟩,
    .op ⟨(some 64), (.mv (.tmp 73)), none⟩]
def r_f254_16 : List SOp :=
   [.op ⟨(some 1), (.mv (.av (.int .i64 16))), none⟩]
def r_f254_17 : List SOp :=
   [.op ⟨(some 74), (.mv (.tmp 0)), none⟩,
    .op ⟨(some 75), (.slS (.tmp 74) (some (.av (.int .i64 2))) none), none⟩,
    .op ⟨(some 0), (.mv (.tmp 75)), none⟩]
def r_f254_18 : List SOp :=
   [.op ⟨(some 1), (.mv (.av (.int .i64 8))), none⟩]
def r_f254_19 : List SOp :=
   [.op ⟨(some 38), (.mv (.tmp 0)), none⟩,
    .op ⟨(some 39), (.slS (.tmp 38) (some (.av (.int .i64 1))) none), none⟩,
    .op ⟨(some 0), (.mv (.tmp 39)), none⟩]
def r_f254_20 : List SOp :=
   [.op ⟨(some 24), (.mkif 336 (.av (.int .i64 3))), none⟩,
    .op ⟨(some 6), (.mv (.av (.int .u64 0))), none⟩,
    .op ⟨(some 7), (.mv (.tmp 24)), none⟩]
def r_f254_21 : List SOp :=
   [.op ⟨(some 76), (.mv (.tmp 2)), none⟩,
    .op ⟨(some 77), (.bin .eql (.tmp 76) (.av (.int .i64 0))), none⟩]
def r_f254_22 : List SOp :=
   [.op ⟨(some 2), (.mv (.av (.int .i64 64))), none⟩]
def r_f254_23 : List SOp :=
   [.op ⟨(some 78), (.mv (.tmp 2)), none⟩,
    .op ⟨(some 79), (.bin .lss (.tmp 78) (.av (.int .i64 0))), none⟩,
    .op ⟨(some 80), (.mv (.tmp 79)), none⟩,
    .grp none 80 false
      [.op ⟨(some 81), (.mv (.tmp 2)), (some (80, false))⟩,
      .op ⟨(some 82), (.bin .gtr (.tmp 81) (.av (.int .i64 64))), (some (80, false))⟩]
      83 (.tmp 82)]
def r_f254_24 : List SOp :=
   [.op ⟨(some 84), (.mkif 336 (.av (.int .i64 4))), none⟩,
    .op ⟨(some 6), (.mv (.av (.int .u64 0))), none⟩,
    .op ⟨(some 7), (.mv (.tmp 84)), none⟩]
def r_f254_25 : List SOp :=
   [.op ⟨(some 10), (.mv (.av (.int .u64 0))), none⟩]
def r_f254_26 : List SOp :=
   [.op ⟨(some 85), (.mv (.tmp 1)), none⟩]
def r_f254_27 : List SOp :=
   [.op ⟨(some 91), (.bin .eql (.tmp 85) (.av (.int .i64 10))), none⟩,
    .op ⟨(some 90), (.mv (.tmp 91)), none⟩]
def r_f254_28 : List SOp :=
   [.op ⟨(some 10), (.mv (.av (.int .u64 1844674407370955162))), none⟩]
def r_f254_29 : List SOp :=
   [.op ⟨(some 93), (.bin .eql (.tmp 85) (.av (.int .i64 16))), none⟩,
    .op ⟨(some 92), (.mv (.tmp 93)), none⟩]
def r_f254_30 : List SOp :=
   [.op ⟨(some 10), (.mv (.av (.int .u64 1152921504606846976))), none⟩]
def r_f254_31 : List SOp :=
   [.op ⟨(some 86), (.mv (.tmp 1)), none⟩,
    .op ⟨(some 87), (.conv .u64 (.tmp 86)), none⟩,
    .op ⟨(some 88), (.bin .quo (.av (.int .u64 18446744073709551615)) (.tmp 87)), none⟩,
    .op ⟨(some 89), (.bin .add (.tmp 88) (.av (.int .u64 1))), none⟩,
    .op ⟨(some 10), (.mv (.tmp 89)), none⟩]
def r_f254_32 : List SOp :=
   [.op ⟨(some 94), (.mv (.tmp 2)), none⟩,
    .op ⟨(some 95), (.conv .u64 (.tmp 94)), none⟩,
    .op ⟨(some 96), (.bin .shl (.av (.int .u64 1)) (.tmp 95)), none⟩,
    .op ⟨(some 97), (.bin .sub (.tmp 96) (.av (.int .u64 1))), none⟩,
    .op ⟨(some 11), (.mv (.tmp 97)), none⟩]
def r_f254_33 : List SOp :=
   [.op ⟨(some 12), (.mv (.av (.bool false))), none⟩]
def r_f254_34 : List SOp :=
   [.op ⟨(some 13), (.mv (.av (.int .u64 0))), none⟩]
def r_f254_35 : List SOp :=
   [.op ⟨(some 98), (.mv (.tmp 0)), none⟩,
    .op ⟨(some 99), (.s2b (.tmp 98)), none⟩,
    .op ⟨(some 100), (.len false (.tmp 99)), none⟩,
    .op ⟨(some 101), (.mv (.av (.int .i64 0))), none⟩]
def r_f254_36 : List SOp :=
   [.op ⟨(some 102), (.bin .lss (.tmp 101) (.tmp 100)), none⟩]
def r_f254_37 : List SOp :=
   [.op ⟨(some 103), (.iaddr 1 (.tmp 99) (.tmp 101)), none⟩,
    .op ⟨(some 104), (.load false 1 (.tmp 103)), none⟩,
    .op ⟨(some 15), (.mv (.tmp 104)), none⟩]
def r_f254_38 : List SOp :=
   [.op ⟨(some 16), (.mv (.av (.int .u8 0))), none⟩]
def r_f254_39 : List SOp :=
   [.op ⟨(some 107), (.mv (.tmp 15)), none⟩,
    .op ⟨(some 108), (.bin .eql (.tmp 107) (.av (.int .u8 95))), none⟩,
    .op ⟨(some 109), (.mv (.tmp 108)), none⟩,
    .grp none 109 true
      [.op ⟨(some 110), (.mv (.tmp 8)), (some (109, true))⟩]
      111 (.tmp 110),
    .op ⟨(some 106), (.mv (.tmp 111)), none⟩]
def r_f254_40 : List SOp :=
   [.op ⟨(some 12), (.mv (.av (.bool true))), none⟩]
def r_f254_41 : List SOp :=
   [.op ⟨(some 113), (.mv (.tmp 15)), none⟩,
    .op ⟨(some 114), (.bin .leq (.av (.int .u8 48)) (.tmp 113)), none⟩,
    .op ⟨(some 115), (.mv (.tmp 114)), none⟩,
    .grp none 115 true
      [.op ⟨(some 116), (.mv (.tmp 15)), (some (115, true))⟩,
      .op ⟨(some 117), (.bin .leq (.tmp 116) (.av (.int .u8 57))), (some (115, true))⟩]
      118 (.tmp 117),
    .op ⟨(some 112), (.mv (.tmp 118)), none⟩]
def r_f254_42 : List SOp :=
   [.op ⟨(some 119), (.mv (.tmp 15)), none⟩,
    .op ⟨(some 120), (.bin .sub (.tmp 119) (.av (.int .u8 48))), none⟩,
    .op ⟨(some 16), (.mv (.tmp 120)), none⟩]
def r_f254_43 : List SOp :=
   [.op ⟨(some 122), (.mv (.tmp 15)), none⟩,
    .op ⟨(some 123), (.call 301 [(.tmp 122)]), none⟩,
    .op ⟨(some 124), (.bin .leq (.av (.int .u8 97)) (.tmp 123)), none⟩,
    .op ⟨(some 125), (.mv (.tmp 124)), none⟩,
    .op ⟨(some 126), (.mv (.tmp 15)), (some (125, true))⟩,
    .op ⟨(some 127), (.call 301 [(.tmp 126)]), (some (125, true))⟩,
    .op ⟨(some 128), (.bin .leq (.tmp 127) (.av (.int .u8 122))), (some (125, true))⟩,
    .op ⟨(some 129), (.pick (.tmp 125) (.tmp 128) (.av (.bool false))), none⟩,
    .op ⟨(some 121), (.mv (.tmp 129)), none⟩]
def r_f254_44 : List SOp :=
   [.op ⟨(some 130), (.mv (.tmp 15)), none⟩,
    .op ⟨(some 131), (.call 301 [(.tmp 130)]), none⟩,
    .op ⟨(some 132), (.bin .sub (.tmp 131) (.av (.int .u8 97))), none⟩,
    .op ⟨(some 133), (.bin .add (.tmp 132) (.av (.int .u8 10))), none⟩,
    .op ⟨(some 16), (.mv (.tmp 133)), none⟩]
def r_f254_45 : List SOp :=
   [.op ⟨(some 105), (.mkif 336 (.av (.int .i64 2))), none⟩,
    .op ⟨(some 6), (.mv (.av (.int .u64 0))), none⟩,
    .op ⟨(some 7), (.mv (.tmp 105)), none⟩]
def r_f254_46 : List SOp :=
   [.op ⟨(some 134), (.mv (.tmp 16)), none⟩,
    .op ⟨(some 135), (.mv (.tmp 1)), none⟩,
    .op ⟨(some 136), (.conv .u8 (.tmp 135)), none⟩,
    .op ⟨(some 137), (.bin .geq (.tmp 134) (.tmp 136)), none⟩]
def r_f254_47 : List SOp :=
   [.op ⟨(some 138), (.mkif 336 (.av (.int .i64 2))), none⟩,
    .op ⟨(some 6), (.mv (.av (.int .u64 0))), none⟩,
    .op ⟨(some 7), (.mv (.tmp 138)), none⟩]
def r_f254_48 : List SOp :=
   [.op ⟨(some 139), (.mv (.tmp 13)), none⟩,
    .op ⟨(some 140), (.mv (.tmp 10)), none⟩,
    .op ⟨(some 141), (.bin .geq (.tmp 139) (.tmp 140)), none⟩]
def r_f254_49 : List SOp :=
   [.op ⟨(some 142), (.mv (.tmp 11)), none⟩,
    .op ⟨(some 143), (.mkif 336 (.av (.int .i64 1))), none⟩,
    .op ⟨(some 6), (.mv (.tmp 142)), none⟩,
    .op ⟨(some 7), (.mv (.tmp 143)), none⟩]
def r_f254_50 : List SOp :=
   [.op ⟨(some 144), (.mv (.tmp 13)), none⟩,
    .op ⟨(some 145), (.mv (.tmp 1)), none⟩,
    .op ⟨(some 146), (.conv .u64 (.tmp 145)), none⟩,
    .op ⟨(some 147), (.bin .mul (.tmp 144) (.tmp 146)), none⟩,
    .op ⟨(some 13), (.mv (.tmp 147)), none⟩]
def r_f254_51 : List SOp :=
   [.op ⟨(some 148), (.mv (.tmp 13)), none⟩,
    .op ⟨(some 149), (.mv (.tmp 16)), none⟩,
    .op ⟨(some 150), (.conv .u64 (.tmp 149)), none⟩,
    .op ⟨(some 151), (.bin .add (.tmp 148) (.tmp 150)), none⟩,
    .op ⟨(some 17), (.mv (.tmp 151)), none⟩]
def r_f254_52 : List SOp :=
   [.op ⟨(some 152), (.mv (.tmp 17)), none⟩,
    .op ⟨(some 153), (.mv (.tmp 13)), none⟩,
    .op ⟨(some 154), (.bin .lss (.tmp 152) (.tmp 153)), none⟩,
    .op ⟨(some 155), (.mv (.tmp 154)), none⟩,
    .grp none 155 false
      [.op ⟨(some 156), (.mv (.tmp 17)), (some (155, false))⟩,
      .op ⟨(some 157), (.mv (.tmp 11)), (some (155, false))⟩,
      .op ⟨(some 158), (.bin .gtr (.tmp 156) (.tmp 157)), (some (155, false))⟩]
      159 (.tmp 158)]
def r_f254_53 : List SOp :=
   [.op ⟨(some 160), (.mv (.tmp 11)), none⟩,
    .op ⟨(some 161), (.mkif 336 (.av (.int .i64 1))), none⟩,
    .op ⟨(some 6), (.mv (.tmp 160)), none⟩,
    .op ⟨(some 7), (.mv (.tmp 161)), none⟩]
def r_f254_54 : List SOp :=
   [.op ⟨(some 162), (.mv (.tmp 17)), none⟩,
    .op ⟨(some 13), (.mv (.tmp 162)), none⟩]
def r_f254_55 : List SOp :=
   [.op ⟨(some 163), (.bin .add (.tmp 101) (.av (.int .i64 1))), none⟩,
    .op ⟨(some 101), (.mv (.tmp 163)), none⟩]
def r_f254_56 : List SOp :=
   [.op ⟨(some 164), (.mv (.tmp 12)), none⟩,
    .op ⟨(some 165), (.mv (.tmp 164)), none⟩,
    .op ⟨(some 166), (.mv (.tmp 9)), (some (165, true))⟩,
    .op ⟨(some 167), (.call 302 [(.tmp 166)]), (some (165, true))⟩,
    .op ⟨(some 168), (.un .not (.tmp 167)), (some (165, true))⟩,
    .op ⟨(some 169), (.pick (.tmp 165) (.tmp 168) (.av (.bool false))), none⟩]
def r_f254_57 : List SOp :=
   [.op ⟨(some 170), (.mkif 336 (.av (.int .i64 2))), none⟩,
    .op ⟨(some 6), (.mv (.av (.int .u64 0))), none⟩,
    .op ⟨(some 7), (.mv (.tmp 170)), none⟩]
def r_f254_58 : List SOp :=
   [.op ⟨(some 171), (.mv (.tmp 13)), none⟩,
    .op ⟨(some 6), (.mv (.tmp 171)), none⟩,
    .op ⟨(some 7), (.mv (.av .nilif)), none⟩]
def c_f254 : LFun := ⟨172, (.seq (.sreg r_f254_0 [])
  (.seq (.seq (.sreg r_f254_1 [true, false])
  (.cond (.tmp 19) (.seq (.sreg r_f254_2 [true, true, false])
  .ret)
  .skip))
  (.seq (.sreg r_f254_3 [true, false, false])
  (.seq (.sreg r_f254_4 [true, false])
  (.seq (.block 0 (.seq (.sreg r_f254_5 [true, false, false, false, false])
  (.cond (.tmp 25) .skip
  (.seq (.sreg r_f254_6 [true, false, false])
  (.cond (.tmp 32) (.seq (.sreg r_f254_7 [])
  (.seq (.sreg r_f254_8 [true, false, false])
  (.cond (.tmp 37) (.block 1 (.seq (.sreg r_f254_9 [true, false, false, false, false, false, false, false, false, false])
  (.cond (.tmp 40) (.seq (.sreg r_f254_10 [])
  (.sreg r_f254_11 [true, false, false]))
  (.seq (.sreg r_f254_12 [true, false, false, false, false, false, false, false, false, false])
  (.cond (.tmp 52) (.seq (.sreg r_f254_13 [])
  (.sreg r_f254_14 [true, false, false]))
  (.seq (.sreg r_f254_15 [true, false, false, false, false, false, false, false, false, false])
  (.cond (.tmp 64) (.seq (.sreg r_f254_16 [])
  (.sreg r_f254_17 [true, false, false]))
  (.seq (.sreg r_f254_18 [])
  (.sreg r_f254_19 [true, false, false])))))))))
  .skip)))
  (.seq (.sreg r_f254_20 [true, true, false])
  .ret))))))
  (.seq (.seq (.sreg r_f254_21 [true, false])
  (.cond (.tmp 77) (.sreg r_f254_22 [])
  (.seq (.sreg r_f254_23 [true, false, false, false])
  (.cond (.tmp 83) (.seq (.sreg r_f254_24 [true, true, false])
  .ret)
  .skip))))
  (.seq (.sreg r_f254_25 [])
  (.seq (.seq (.sreg r_f254_26 [])
  (.block 2 (.seq (.sreg r_f254_27 [true, false])
  (.cond (.tmp 90) (.sreg r_f254_28 [])
  (.seq (.sreg r_f254_29 [true, false])
  (.cond (.tmp 92) (.sreg r_f254_30 [])
  (.sreg r_f254_31 [true, false, false, false, false])))))))
  (.seq (.sreg r_f254_32 [true, false, false, false, false])
  (.seq (.sreg r_f254_33 [])
  (.seq (.sreg r_f254_34 [])
  (.seq (.seq (.sreg r_f254_35 [true, true, true, false])
  (.block 3 (.loop (.seq (.sreg r_f254_36 [])
  (.seq (.cond (.tmp 102) .skip
  (.exit 3))
  (.seq (.block 4 (.seq (.sreg r_f254_37 [true, false, false])
  (.seq (.sreg r_f254_38 [])
  (.seq (.block 5 (.seq (.sreg r_f254_39 [true, false, false, false, false])
  (.cond (.tmp 106) (.seq (.sreg r_f254_40 [])
  (.exit 4))
  (.seq (.sreg r_f254_41 [true, false, false, false, false])
  (.cond (.tmp 112) (.sreg r_f254_42 [true, false, false])
  (.seq (.sreg r_f254_43 [true, false, false, false, false, false, false, false, false])
  (.cond (.tmp 121) (.sreg r_f254_44 [true, false, false, false, false])
  (.seq (.sreg r_f254_45 [true, true, false])
  .ret))))))))
  (.seq (.seq (.sreg r_f254_46 [true, false, false, false])
  (.cond (.tmp 137) (.seq (.sreg r_f254_47 [true, true, false])
  .ret)
  .skip))
  (.seq (.seq (.sreg r_f254_48 [true, false, false])
  (.cond (.tmp 141) (.seq (.sreg r_f254_49 [true, true, false, false])
  .ret)
  .skip))
  (.seq (.sreg r_f254_50 [true, false, false, false, false])
  (.seq (.sreg r_f254_51 [true, false, false, false, false])
  (.seq (.seq (.sreg r_f254_52 [true, false, false, false, false])
  (.cond (.tmp 159) (.seq (.sreg r_f254_53 [true, true, false, false])
  .ret)
  .skip))
  (.sreg r_f254_54 [true, false]))))))))))
  (.sreg r_f254_55 [true, false])))))))
  (.seq (.seq (.sreg r_f254_56 [true, false, false, false, false, false])
  (.cond (.tmp 169) (.seq (.sreg r_f254_57 [true, true, false])
  .ret)
  .skip))
  (.seq (.sreg r_f254_58 [true, true, false])
  .ret)))))))))))))), [(.tmp 6), (.tmp 7)]⟩
def o_f254 : Nat → Nat → Nat := fun _ _ => 1
theorem c_f254_eq : lowF Tryz.prog o_f254 254 = some c_f254.raw := by kernel_rfl
theorem c_f254_ok : c_f254.code.okc = true := by kernel_rfl
/-! strconv.syntaxError -/
def r_f255_0 : List SOp :=
   [.op ⟨(some 4), (.mv (.av .nilptr)), none⟩]
def r_f255_1 : List (LOper × Kd) :=
   [(⟨(some 5), (.mv (.tmp 0)), none⟩, .pure),
    (⟨(some 6), (.mv (.tmp 1)), none⟩, .pure),
    (⟨(some 7), (.call 303 [(.tmp 6)]), none⟩, .eff),
    (⟨(some 8), (.load false 1 (.av (.gptr 4 0))), none⟩, (.read 1 0))]
def r_f255_1t : List LOper :=
   [⟨(some 9), (.build [(.str []), (.str []), .nilif] [(0, 1, (.tmp 5)), (1, 1, (.tmp 7)), (2, 1, (.tmp 8))]), none⟩,
    ⟨(some 10), (.box (.tmp 9)), none⟩,
    ⟨(some 4), (.mv (.tmp 10)), none⟩]
def c_f255 : LFun := ⟨11, (.seq (.sreg r_f255_0 [])
  (.seq (.dregM r_f255_1 r_f255_1t [true, false, false, false, false, false, false])
  .ret)), [(.tmp 4)]⟩
def o_f255 : Nat → Nat → Nat := fun r i => if r = 1 ∧ i = 2 then 3 else 1
theorem c_f255_eq : lowF Tryz.prog o_f255 255 = some c_f255.raw := by kernel_rfl
theorem c_f255_ok : c_f255.code.okc = true := by kernel_rfl
/-! strconv.rangeError -/
def r_f256_0 : List SOp :=
   [.op ⟨(some 4), (.mv (.av .nilptr)), none⟩]
def r_f256_1 : List (LOper × Kd) :=
   [(⟨(some 5), (.mv (.tmp 0)), none⟩, .pure),
    (⟨(some 6), (.mv (.tmp 1)), none⟩, .pure),
    (⟨(some 7), (.call 303 [(.tmp 6)]), none⟩, .eff),
    (⟨(some 8), (.load false 1 (.av (.gptr 5 0))), none⟩, (.read 1 0))]
def r_f256_1t : List LOper :=
   [⟨(some 9), (.build [(.str []), (.str []), .nilif] [(0, 1, (.tmp 5)), (1, 1, (.tmp 7)), (2, 1, (.tmp 8))]), none⟩,
    ⟨(some 10), (.box (.tmp 9)), none⟩,
    ⟨(some 4), (.mv (.tmp 10)), none⟩]
def c_f256 : LFun := ⟨11, (.seq (.sreg r_f256_0 [])
  (.seq (.dregM r_f256_1 r_f256_1t [true, false, false, false, false, false, false])
  .ret)), [(.tmp 4)]⟩
def o_f256 : Nat → Nat → Nat := fun r i => if r = 1 ∧ i = 2 then 3 else 1
theorem c_f256_eq : lowF Tryz.prog o_f256 256 = some c_f256.raw := by kernel_rfl
theorem c_f256_ok : c_f256.code.okc = true := by kernel_rfl
/-! strconv.baseError -/
def r_f257_0 : List SOp :=
   [.op ⟨(some 6), (.mv (.av .nilptr)), none⟩]
def r_f257_1 : List SOp :=
   [.op ⟨(some 7), (.mv (.tmp 0)), none⟩,
    .op ⟨(some 8), (.mv (.tmp 1)), none⟩,
    .op ⟨(some 9), (.call 303 [(.tmp 8)]), none⟩,
    .op ⟨(some 10), (.mv (.tmp 2)), none⟩,
    .op ⟨(some 11), (.call 305 [(.tmp 10)]), none⟩,
    .op ⟨(some 12), (.bin .add (.av (.str [105, 110, 118, 97, 108, 105, 100, 32, 98, 97, 115, 101, 32])) (.tmp 11)), none⟩,
    .op ⟨(some 13), (.call 304 [(.tmp 12)]), none⟩,
    .op ⟨(some 14), (.build [(.str []), (.str []), .nilif] [(0, 1, (.tmp 7)), (1, 1, (.tmp 9)), (2, 1, (.tmp 13))]), none⟩,
    .op ⟨(some 15), (.box (.tmp 14)), none⟩,
    .op ⟨(some 6), (.mv (.tmp 15)), none⟩]
def c_f257 : LFun := ⟨16, (.seq (.sreg r_f257_0 [])
  (.seq (.sreg r_f257_1 [true, false, false, false, false, false, false, false, false, false])
  .ret)), [(.tmp 6)]⟩
def o_f257 : Nat → Nat → Nat := fun _ _ => 1
theorem c_f257_eq : lowF Tryz.prog o_f257 257 = some c_f257.raw := by kernel_rfl
theorem c_f257_ok : c_f257.code.okc = true := by kernel_rfl
/-! strconv.bitSizeError -/
def r_f258_0 : List SOp :=
   [.op ⟨(some 6), (.mv (.av .nilptr)), none⟩]
def r_f258_1 : List SOp :=
   [.op ⟨(some 7), (.mv (.tmp 0)), none⟩,
    .op ⟨(some 8), (.mv (.tmp 1)), none⟩,
    .op ⟨(some 9), (.call 303 [(.tmp 8)]), none⟩,
    .op ⟨(some 10), (.mv (.tmp 2)), none⟩,
    .op ⟨(some 11), (.call 305 [(.tmp 10)]), none⟩,
    .op ⟨(some 12), (.bin .add (.av (.str [105, 110, 118, 97, 108, 105, 100, 32, 98, 105, 116, 32, 115, 105, 122, 101, 32])) (.tmp 11)), none⟩,
    .op ⟨(some 13), (.call 304 [(.tmp 12)]), none⟩,
    .op ⟨(some 14), (.build [(.str []), (.str []), .nilif] [(0, 1, (.tmp 7)), (1, 1, (.tmp 9)), (2, 1, (.tmp 13))]), none⟩,
    .op ⟨(some 15), (.box (.tmp 14)), none⟩,
    .op ⟨(some 6), (.mv (.tmp 15)), none⟩]
def c_f258 : LFun := ⟨16, (.seq (.sreg r_f258_0 [])
  (.seq (.sreg r_f258_1 [true, false, false, false, false, false, false, false, false, false])
  .ret)), [(.tmp 6)]⟩
def o_f258 : Nat → Nat → Nat := fun _ _ => 1
theorem c_f258_eq : lowF Tryz.prog o_f258 258 = some c_f258.raw := by kernel_rfl
theorem c_f258_ok : c_f258.code.okc = true := by kernel_rfl
/-! internal/strconv.small -/
def r_f259_0 : List SOp :=
   [.op ⟨(some 2), (.mv (.av (.str []))), none⟩]
def r_f259_1 : List SOp :=
   [.op ⟨(some 3), (.mv (.tmp 0)), none⟩,
    .op ⟨(some 4), (.bin .lss (.tmp 3) (.av (.int .i64 10))), none⟩]
def r_f259_2 : List SOp :=
   [.op ⟨(some 5), (.mv (.tmp 0)), none⟩,
    .op ⟨(some 6), (.mv (.tmp 0)), none⟩,
    .op ⟨(some 7), (.bin .add (.tmp 6) (.av (.int .i64 1))), none⟩,
    .op ⟨(some 8), (.slS (.av (.str [48, 49, 50, 51, 52, 53, 54, 55, 56, 57, 97, 98, 99, 100, 101, 102, 103, 104, 105, 106, 107, 108, 109, 110, 111, 112, 113, 114, 115, 116, 117, 118, 119, 120, 121, 122])) (some (.tmp 5)) (some (.tmp 7))), none⟩,
    .op ⟨(some 2), (.mv (.tmp 8)), none⟩]
def r_f259_3 : List SOp :=
   [.op ⟨(some 9), (.mv (.tmp 0)), none⟩,
    .op ⟨(some 10), (.bin .mul (.tmp 9) (.av (.int .i64 2))), none⟩,
    .op ⟨(some 11), (.mv (.tmp 0)), none⟩,
    .op ⟨(some 12), (.bin .mul (.tmp 11) (.av (.int .i64 2))), none⟩,
    .op ⟨(some 13), (.bin .add (.tmp 12) (.av (.int .i64 2))), none⟩,
    .op ⟨(some 14), (.slS (.av (.str [48, 48, 48, 49, 48, 50, 48, 51, 48, 52, 48, 53, 48, 54, 48, 55, 48, 56, 48, 57, 49, 48, 49, 49, 49, 50, 49, 51, 49, 52, 49, 53, 49, 54, 49, 55, 49, 56, 49, 57, 50, 48, 50, 49, 50, 50, 50, 51, 50, 52, 50, 53, 50, 54, 50, 55, 50, 56, 50, 57, 51, 48, 51, 49, 51, 50, 51, 51, 51, 52, 51, 53, 51, 54, 51, 55, 51, 56, 51, 57, 52, 48, 52, 49, 52, 50, 52, 51, 52, 52, 52, 53, 52, 54, 52, 55, 52, 56, 52, 57, 53, 48, 53, 49, 53, 50, 53, 51, 53, 52, 53, 53, 53, 54, 53, 55, 53, 56, 53, 57, 54, 48, 54, 49, 54, 50, 54, 51, 54, 52, 54, 53, 54, 54, 54, 55, 54, 56, 54, 57, 55, 48, 55, 49, 55, 50, 55, 51, 55, 52, 55, 53, 55, 54, 55, 55, 55, 56, 55, 57, 56, 48, 56, 49, 56, 50, 56, 51, 56, 52, 56, 53, 56, 54, 56, 55, 56, 56, 56, 57, 57, 48, 57, 49, 57, 50, 57, 51, 57, 52, 57, 53, 57, 54, 57, 55, 57, 56, 57, 57])) (some (.tmp 10)) (some (.tmp 13))), none⟩,
    .op ⟨(some 2), (.mv (.tmp 14)), none⟩]
def c_f259 : LFun := ⟨15, (.seq (.sreg r_f259_0 [])
  (.seq (.seq (.sreg r_f259_1 [true, false])
  (.cond (.tmp 4) (.seq (.sreg r_f259_2 [true, false, false, false, false])
  .ret)
  .skip))
  (.seq (.sreg r_f259_3 [true, false, false, false, false, false, false])
  .ret))), [(.tmp 2)]⟩
def o_f259 : Nat → Nat → Nat := fun _ _ => 1
theorem c_f259_eq : lowF Tryz.prog o_f259 259 = some c_f259.raw := by kernel_rfl
theorem c_f259_ok : c_f259.code.okc = true := by kernel_rfl
/-! internal/strconv.numDigits -/
def r_f260_0 : List SOp :=
   [.op ⟨(some 2), (.mv (.av (.int .i64 0))), none⟩]
def r_f260_1 : List SOp :=
   [.op ⟨(some 4), (.mv (.tmp 0)), none⟩,
    .op ⟨(some 5), (.call 204 [(.tmp 4)]), none⟩,
    .op ⟨(some 6), (.call 306 [(.tmp 5)]), none⟩,
    .op ⟨(some 3), (.mv (.tmp 6)), none⟩]
def r_f260_2 : List SOp :=
   [.op ⟨(some 7), (.mv (.tmp 3)), none⟩,
    .op ⟨(some 8), (.mv (.tmp 0)), none⟩,
    .op ⟨(some 9), (.mv (.tmp 3)), none⟩,
    .op ⟨(some 10), (.iaddrA 20 1 (.av (.gptr 6 0)) (.tmp 9)), none⟩,
    .op ⟨(some 11), (.load false 1 (.tmp 10)), none⟩,
    .op ⟨(some 12), (.bin .geq (.tmp 8) (.tmp 11)), none⟩,
    .op ⟨(some 13), (.call 307 [(.tmp 12)]), none⟩,
    .op ⟨(some 14), (.bin .add (.tmp 7) (.tmp 13)), none⟩,
    .op ⟨(some 2), (.mv (.tmp 14)), none⟩]
def c_f260 : LFun := ⟨15, (.seq (.sreg r_f260_0 [])
  (.seq (.sreg r_f260_1 [true, false, false, false])
  (.seq (.sreg r_f260_2 [true, false, false, false, false, false, false, false, false])
  .ret))), [(.tmp 2)]⟩
def o_f260 : Nat → Nat → Nat := fun _ _ => 1
theorem c_f260_eq : lowF Tryz.prog o_f260 260 = some c_f260.raw := by kernel_rfl
theorem c_f260_ok : c_f260.code.okc = true := by kernel_rfl
/-! internal/strconv.formatBase10 -/
def r_f261_0 : List SOp :=
   [.op ⟨(some 17), (.mv (.tmp 0)), none⟩,
    .op ⟨(some 18), (.len false (.tmp 17)), none⟩,
    .op ⟨(some 4), (.mv (.tmp 18)), none⟩]
def r_f261_1 : List SOp :=
   [.op ⟨(some 19), (.mv (.tmp 4)), none⟩,
    .op ⟨(some 20), (.bin .geq (.tmp 19) (.av (.int .i64 8))), none⟩]
def r_f261_2 : List SOp :=
   [.op ⟨(some 21), (.mv (.tmp 1)), none⟩,
    .op ⟨(some 22), (.bin .rem (.tmp 21) (.av (.int .u64 100000000))), none⟩,
    .op ⟨(some 23), (.conv .u32 (.tmp 22)), none⟩,
    .op ⟨(some 5), (.mv (.tmp 23)), none⟩]
def r_f261_3 : List SOp :=
   [.op ⟨(some 24), (.mv (.tmp 1)), none⟩,
    .op ⟨(some 25), (.bin .quo (.tmp 24) (.av (.int .u64 100000000))), none⟩,
    .op ⟨(some 1), (.mv (.tmp 25)), none⟩]
def r_f261_4 : List SOp :=
   [.op ⟨(some 26), (.mv (.tmp 5)), none⟩,
    .op ⟨(some 27), (.bin .quo (.tmp 26) (.av (.int .u32 10000))), none⟩,
    .op ⟨(some 28), (.mv (.tmp 5)), none⟩,
    .op ⟨(some 29), (.bin .rem (.tmp 28) (.av (.int .u32 10000))), none⟩,
    .op ⟨(some 6), (.mv (.tmp 27)), none⟩,
    .op ⟨(some 7), (.mv (.tmp 29)), none⟩]
def r_f261_5 : List SOp :=
   [.op ⟨(some 30), (.mv (.tmp 7)), none⟩,
    .op ⟨(some 31), (.bin .quo (.tmp 30) (.av (.int .u32 100))), none⟩,
    .op ⟨(some 32), (.bin .mul (.tmp 31) (.av (.int .u32 2))), none⟩,
    .op ⟨(some 33), (.mv (.tmp 7)), none⟩,
    .op ⟨(some 34), (.bin .rem (.tmp 33) (.av (.int .u32 100))), none⟩,
    .op ⟨(some 35), (.bin .mul (.tmp 34) (.av (.int .u32 2))), none⟩,
    .op ⟨(some 8), (.mv (.tmp 32)), none⟩,
    .op ⟨(some 9), (.mv (.tmp 35)), none⟩]
def r_f261_6 : List SOp :=
   [.op ⟨(some 36), (.mv (.tmp 6)), none⟩,
    .op ⟨(some 37), (.bin .quo (.tmp 36) (.av (.int .u32 100))), none⟩,
    .op ⟨(some 38), (.bin .mul (.tmp 37) (.av (.int .u32 2))), none⟩,
    .op ⟨(some 39), (.mv (.tmp 6)), none⟩,
    .op ⟨(some 40), (.bin .rem (.tmp 39) (.av (.int .u32 100))), none⟩,
    .op ⟨(some 41), (.bin .mul (.tmp 40) (.av (.int .u32 2))), none⟩,
    .op ⟨(some 10), (.mv (.tmp 38)), none⟩,
    .op ⟨(some 11), (.mv (.tmp 41)), none⟩]
def r_f261_7 : List (LOper × Kd) :=
   [(⟨(some 42), (.mv (.tmp 0)), none⟩, .pure),
    (⟨(some 43), (.mv (.tmp 4)), none⟩, .pure),
    (⟨(some 44), (.bin .sub (.tmp 43) (.av (.int .i64 1))), none⟩, .pure),
    (⟨(some 45), (.mv (.tmp 0)), none⟩, .pure),
    (⟨(some 46), (.mv (.tmp 4)), none⟩, .pure),
    (⟨(some 47), (.bin .sub (.tmp 46) (.av (.int .i64 2))), none⟩, .pure),
    (⟨(some 48), (.mv (.tmp 9)), none⟩, .pure),
    (⟨(some 49), (.bin .add (.tmp 48) (.av (.int .u32 1))), none⟩, .pure),
    (⟨(some 50), (.idxS (.av (.str [48, 48, 48, 49, 48, 50, 48, 51, 48, 52, 48, 53, 48, 54, 48, 55, 48, 56, 48, 57, 49, 48, 49, 49, 49, 50, 49, 51, 49, 52, 49, 53, 49, 54, 49, 55, 49, 56, 49, 57, 50, 48, 50, 49, 50, 50, 50, 51, 50, 52, 50, 53, 50, 54, 50, 55, 50, 56, 50, 57, 51, 48, 51, 49, 51, 50, 51, 51, 51, 52, 51, 53, 51, 54, 51, 55, 51, 56, 51, 57, 52, 48, 52, 49, 52, 50, 52, 51, 52, 52, 52, 53, 52, 54, 52, 55, 52, 56, 52, 57, 53, 48, 53, 49, 53, 50, 53, 51, 53, 52, 53, 53, 53, 54, 53, 55, 53, 56, 53, 57, 54, 48, 54, 49, 54, 50, 54, 51, 54, 52, 54, 53, 54, 54, 54, 55, 54, 56, 54, 57, 55, 48, 55, 49, 55, 50, 55, 51, 55, 52, 55, 53, 55, 54, 55, 55, 55, 56, 55, 57, 56, 48, 56, 49, 56, 50, 56, 51, 56, 52, 56, 53, 56, 54, 56, 55, 56, 56, 56, 57, 57, 48, 57, 49, 57, 50, 57, 51, 57, 52, 57, 53, 57, 54, 57, 55, 57, 56, 57, 57])) (.tmp 49)), none⟩, (.read 0 0)),
    (⟨(some 51), (.mv (.tmp 9)), none⟩, .pure),
    (⟨(some 52), (.idxS (.av (.str [48, 48, 48, 49, 48, 50, 48, 51, 48, 52, 48, 53, 48, 54, 48, 55, 48, 56, 48, 57, 49, 48, 49, 49, 49, 50, 49, 51, 49, 52, 49, 53, 49, 54, 49, 55, 49, 56, 49, 57, 50, 48, 50, 49, 50, 50, 50, 51, 50, 52, 50, 53, 50, 54, 50, 55, 50, 56, 50, 57, 51, 48, 51, 49, 51, 50, 51, 51, 51, 52, 51, 53, 51, 54, 51, 55, 51, 56, 51, 57, 52, 48, 52, 49, 52, 50, 52, 51, 52, 52, 52, 53, 52, 54, 52, 55, 52, 56, 52, 57, 53, 48, 53, 49, 53, 50, 53, 51, 53, 52, 53, 53, 53, 54, 53, 55, 53, 56, 53, 57, 54, 48, 54, 49, 54, 50, 54, 51, 54, 52, 54, 53, 54, 54, 54, 55, 54, 56, 54, 57, 55, 48, 55, 49, 55, 50, 55, 51, 55, 52, 55, 53, 55, 54, 55, 55, 55, 56, 55, 57, 56, 48, 56, 49, 56, 50, 56, 51, 56, 52, 56, 53, 56, 54, 56, 55, 56, 56, 56, 57, 57, 48, 57, 49, 57, 50, 57, 51, 57, 52, 57, 53, 57, 54, 57, 55, 57, 56, 57, 57])) (.tmp 51)), none⟩, (.read 0 1)),
    (⟨(some 53), (.iaddr 1 (.tmp 42) (.tmp 44)), none⟩, (.read 0 0)),
    (⟨none, (.store 1 (.tmp 53) (.tmp 50)), none⟩, .eff)]
def r_f261_7t : List LOper :=
   [⟨(some 54), (.iaddr 1 (.tmp 45) (.tmp 47)), none⟩,
    ⟨none, (.store 1 (.tmp 54) (.tmp 52)), none⟩]
def r_f261_8 : List (LOper × Kd) :=
   [(⟨(some 55), (.mv (.tmp 0)), none⟩, .pure),
    (⟨(some 56), (.mv (.tmp 4)), none⟩, .pure),
    (⟨(some 57), (.bin .sub (.tmp 56) (.av (.int .i64 3))), none⟩, .pure),
    (⟨(some 58), (.mv (.tmp 0)), none⟩, .pure),
    (⟨(some 59), (.mv (.tmp 4)), none⟩, .pure),
    (⟨(some 60), (.bin .sub (.tmp 59) (.av (.int .i64 4))), none⟩, .pure),
    (⟨(some 61), (.mv (.tmp 8)), none⟩, .pure),
    (⟨(some 62), (.bin .add (.tmp 61) (.av (.int .u32 1))), none⟩, .pure),
    (⟨(some 63), (.idxS (.av (.str [48, 48, 48, 49, 48, 50, 48, 51, 48, 52, 48, 53, 48, 54, 48, 55, 48, 56, 48, 57, 49, 48, 49, 49, 49, 50, 49, 51, 49, 52, 49, 53, 49, 54, 49, 55, 49, 56, 49, 57, 50, 48, 50, 49, 50, 50, 50, 51, 50, 52, 50, 53, 50, 54, 50, 55, 50, 56, 50, 57, 51, 48, 51, 49, 51, 50, 51, 51, 51, 52, 51, 53, 51, 54, 51, 55, 51, 56, 51, 57, 52, 48, 52, 49, 52, 50, 52, 51, 52, 52, 52, 53, 52, 54, 52, 55, 52, 56, 52, 57, 53, 48, 53, 49, 53, 50, 53, 51, 53, 52, 53, 53, 53, 54, 53, 55, 53, 56, 53, 57, 54, 48, 54, 49, 54, 50, 54, 51, 54, 52, 54, 53, 54, 54, 54, 55, 54, 56, 54, 57, 55, 48, 55, 49, 55, 50, 55, 51, 55, 52, 55, 53, 55, 54, 55, 55, 55, 56, 55, 57, 56, 48, 56, 49, 56, 50, 56, 51, 56, 52, 56, 53, 56, 54, 56, 55, 56, 56, 56, 57, 57, 48, 57, 49, 57, 50, 57, 51, 57, 52, 57, 53, 57, 54, 57, 55, 57, 56, 57, 57])) (.tmp 62)), none⟩, (.read 0 0)),
    (⟨(some 64), (.mv (.tmp 8)), none⟩, .pure),
    (⟨(some 65), (.idxS (.av (.str [48, 48, 48, 49, 48, 50, 48, 51, 48, 52, 48, 53, 48, 54, 48, 55, 48, 56, 48, 57, 49, 48, 49, 49, 49, 50, 49, 51, 49, 52, 49, 53, 49, 54, 49, 55, 49, 56, 49, 57, 50, 48, 50, 49, 50, 50, 50, 51, 50, 52, 50, 53, 50, 54, 50, 55, 50, 56, 50, 57, 51, 48, 51, 49, 51, 50, 51, 51, 51, 52, 51, 53, 51, 54, 51, 55, 51, 56, 51, 57, 52, 48, 52, 49, 52, 50, 52, 51, 52, 52, 52, 53, 52, 54, 52, 55, 52, 56, 52, 57, 53, 48, 53, 49, 53, 50, 53, 51, 53, 52, 53, 53, 53, 54, 53, 55, 53, 56, 53, 57, 54, 48, 54, 49, 54, 50, 54, 51, 54, 52, 54, 53, 54, 54, 54, 55, 54, 56, 54, 57, 55, 48, 55, 49, 55, 50, 55, 51, 55, 52, 55, 53, 55, 54, 55, 55, 55, 56, 55, 57, 56, 48, 56, 49, 56, 50, 56, 51, 56, 52, 56, 53, 56, 54, 56, 55, 56, 56, 56, 57, 57, 48, 57, 49, 57, 50, 57, 51, 57, 52, 57, 53, 57, 54, 57, 55, 57, 56, 57, 57])) (.tmp 64)), none⟩, (.read 0 1)),
    (⟨(some 66), (.iaddr 1 (.tmp 55) (.tmp 57)), none⟩, (.read 0 0)),
    (⟨none, (.store 1 (.tmp 66) (.tmp 63)), none⟩, .eff)]
def r_f261_8t : List LOper :=
   [⟨(some 67), (.iaddr 1 (.tmp 58) (.tmp 60)), none⟩,
    ⟨none, (.store 1 (.tmp 67) (.tmp 65)), none⟩]
def r_f261_9 : List (LOper × Kd) :=
   [(⟨(some 68), (.mv (.tmp 0)), none⟩, .pure),
    (⟨(some 69), (.mv (.tmp 4)), none⟩, .pure),
    (⟨(some 70), (.bin .sub (.tmp 69) (.av (.int .i64 5))), none⟩, .pure),
    (⟨(some 71), (.mv (.tmp 0)), none⟩, .pure),
    (⟨(some 72), (.mv (.tmp 4)), none⟩, .pure),
    (⟨(some 73), (.bin .sub (.tmp 72) (.av (.int .i64 6))), none⟩, .pure),
    (⟨(some 74), (.mv (.tmp 11)), none⟩, .pure),
    (⟨(some 75), (.bin .add (.tmp 74) (.av (.int .u32 1))), none⟩, .pure),
    (⟨(some 76), (.idxS (.av (.str [48, 48, 48, 49, 48, 50, 48, 51, 48, 52, 48, 53, 48, 54, 48, 55, 48, 56, 48, 57, 49, 48, 49, 49, 49, 50, 49, 51, 49, 52, 49, 53, 49, 54, 49, 55, 49, 56, 49, 57, 50, 48, 50, 49, 50, 50, 50, 51, 50, 52, 50, 53, 50, 54, 50, 55, 50, 56, 50, 57, 51, 48, 51, 49, 51, 50, 51, 51, 51, 52, 51, 53, 51, 54, 51, 55, 51, 56, 51, 57, 52, 48, 52, 49, 52, 50, 52, 51, 52, 52, 52, 53, 52, 54, 52, 55, 52, 56, 52, 57, 53, 48, 53, 49, 53, 50, 53, 51, 53, 52, 53, 53, 53, 54, 53, 55, 53, 56, 53, 57, 54, 48, 54, 49, 54, 50, 54, 51, 54, 52, 54, 53, 54, 54, 54, 55, 54, 56, 54, 57, 55, 48, 55, 49, 55, 50, 55, 51, 55, 52, 55, 53, 55, 54, 55, 55, 55, 56, 55, 57, 56, 48, 56, 49, 56, 50, 56, 51, 56, 52, 56, 53, 56, 54, 56, 55, 56, 56, 56, 57, 57, 48, 57, 49, 57, 50, 57, 51, 57, 52, 57, 53, 57, 54, 57, 55, 57, 56, 57, 57])) (.tmp 75)), none⟩, (.read 0 0)),
    (⟨(some 77), (.mv (.tmp 11)), none⟩, .pure),
    (⟨(some 78), (.idxS (.av (.str [48, 48, 48, 49, 48, 50, 48, 51, 48, 52, 48, 53, 48, 54, 48, 55, 48, 56, 48, 57, 49, 48, 49, 49, 49, 50, 49, 51, 49, 52, 49, 53, 49, 54, 49, 55, 49, 56, 49, 57, 50, 48, 50, 49, 50, 50, 50, 51, 50, 52, 50, 53, 50, 54, 50, 55, 50, 56, 50, 57, 51, 48, 51, 49, 51, 50, 51, 51, 51, 52, 51, 53, 51, 54, 51, 55, 51, 56, 51, 57, 52, 48, 52, 49, 52, 50, 52, 51, 52, 52, 52, 53, 52, 54, 52, 55, 52, 56, 52, 57, 53, 48, 53, 49, 53, 50, 53, 51, 53, 52, 53, 53, 53, 54, 53, 55, 53, 56, 53, 57, 54, 48, 54, 49, 54, 50, 54, 51, 54, 52, 54, 53, 54, 54, 54, 55, 54, 56, 54, 57, 55, 48, 55, 49, 55, 50, 55, 51, 55, 52, 55, 53, 55, 54, 55, 55, 55, 56, 55, 57, 56, 48, 56, 49, 56, 50, 56, 51, 56, 52, 56, 53, 56, 54, 56, 55, 56, 56, 56, 57, 57, 48, 57, 49, 57, 50, 57, 51, 57, 52, 57, 53, 57, 54, 57, 55, 57, 56, 57, 57])) (.tmp 77)), none⟩, (.read 0 1)),
    (⟨(some 79), (.iaddr 1 (.tmp 68) (.tmp 70)), none⟩, (.read 0 0)),
    (⟨none, (.store 1 (.tmp 79) (.tmp 76)), none⟩, .eff)]
def r_f261_9t : List LOper :=
   [⟨(some 80), (.iaddr 1 (.tmp 71) (.tmp 73)), none⟩,
    ⟨none, (.store 1 (.tmp 80) (.tmp 78)), none⟩]
def r_f261_10 : List (LOper × Kd) :=
   [(⟨(some 81), (.mv (.tmp 0)), none⟩, .pure),
    (⟨(some 82), (.mv (.tmp 4)), none⟩, .pure),
    (⟨(some 83), (.bin .sub (.tmp 82) (.av (.int .i64 7))), none⟩, .pure),
    (⟨(some 84), (.mv (.tmp 0)), none⟩, .pure),
    (⟨(some 85), (.mv (.tmp 4)), none⟩, .pure),
    (⟨(some 86), (.bin .sub (.tmp 85) (.av (.int .i64 8))), none⟩, .pure),
    (⟨(some 87), (.mv (.tmp 10)), none⟩, .pure),
    (⟨(some 88), (.bin .add (.tmp 87) (.av (.int .u32 1))), none⟩, .pure),
    (⟨(some 89), (.idxS (.av (.str [48, 48, 48, 49, 48, 50, 48, 51, 48, 52, 48, 53, 48, 54, 48, 55, 48, 56, 48, 57, 49, 48, 49, 49, 49, 50, 49, 51, 49, 52, 49, 53, 49, 54, 49, 55, 49, 56, 49, 57, 50, 48, 50, 49, 50, 50, 50, 51, 50, 52, 50, 53, 50, 54, 50, 55, 50, 56, 50, 57, 51, 48, 51, 49, 51, 50, 51, 51, 51, 52, 51, 53, 51, 54, 51, 55, 51, 56, 51, 57, 52, 48, 52, 49, 52, 50, 52, 51, 52, 52, 52, 53, 52, 54, 52, 55, 52, 56, 52, 57, 53, 48, 53, 49, 53, 50, 53, 51, 53, 52, 53, 53, 53, 54, 53, 55, 53, 56, 53, 57, 54, 48, 54, 49, 54, 50, 54, 51, 54, 52, 54, 53, 54, 54, 54, 55, 54, 56, 54, 57, 55, 48, 55, 49, 55, 50, 55, 51, 55, 52, 55, 53, 55, 54, 55, 55, 55, 56, 55, 57, 56, 48, 56, 49, 56, 50, 56, 51, 56, 52, 56, 53, 56, 54, 56, 55, 56, 56, 56, 57, 57, 48, 57, 49, 57, 50, 57, 51, 57, 52, 57, 53, 57, 54, 57, 55, 57, 56, 57, 57])) (.tmp 88)), none⟩, (.read 0 0)),
    (⟨(some 90), (.mv (.tmp 10)), none⟩, .pure),
    (⟨(some 91), (.idxS (.av (.str [48, 48, 48, 49, 48, 50, 48, 51, 48, 52, 48, 53, 48, 54, 48, 55, 48, 56, 48, 57, 49, 48, 49, 49, 49, 50, 49, 51, 49, 52, 49, 53, 49, 54, 49, 55, 49, 56, 49, 57, 50, 48, 50, 49, 50, 50, 50, 51, 50, 52, 50, 53, 50, 54, 50, 55, 50, 56, 50, 57, 51, 48, 51, 49, 51, 50, 51, 51, 51, 52, 51, 53, 51, 54, 51, 55, 51, 56, 51, 57, 52, 48, 52, 49, 52, 50, 52, 51, 52, 52, 52, 53, 52, 54, 52, 55, 52, 56, 52, 57, 53, 48, 53, 49, 53, 50, 53, 51, 53, 52, 53, 53, 53, 54, 53, 55, 53, 56, 53, 57, 54, 48, 54, 49, 54, 50, 54, 51, 54, 52, 54, 53, 54, 54, 54, 55, 54, 56, 54, 57, 55, 48, 55, 49, 55, 50, 55, 51, 55, 52, 55, 53, 55, 54, 55, 55, 55, 56, 55, 57, 56, 48, 56, 49, 56, 50, 56, 51, 56, 52, 56, 53, 56, 54, 56, 55, 56, 56, 56, 57, 57, 48, 57, 49, 57, 50, 57, 51, 57, 52, 57, 53, 57, 54, 57, 55, 57, 56, 57, 57])) (.tmp 90)), none⟩, (.read 0 1)),
    (⟨(some 92), (.iaddr 1 (.tmp 81) (.tmp 83)), none⟩, (.read 0 0)),
    (⟨none, (.store 1 (.tmp 92) (.tmp 89)), none⟩, .eff)]
def r_f261_10t : List LOper :=
   [⟨(some 93), (.iaddr 1 (.tmp 84) (.tmp 86)), none⟩,
    ⟨none, (.store 1 (.tmp 93) (.tmp 91)), none⟩]
def r_f261_11 : List SOp :=
   [.op ⟨(some 94), (.mv (.tmp 4)), none⟩,
    .op ⟨(some 95), (.bin .sub (.tmp 94) (.av (.int .i64 8))), none⟩,
    .op ⟨(some 4), (.mv (.tmp 95)), none⟩]
def r_f261_12 : List SOp :=
   [.op ⟨(some 96), (.mv (.tmp 1)), none⟩,
    .op ⟨(some 97), (.conv .u32 (.tmp 96)), none⟩,
    .op ⟨(some 12), (.mv (.tmp 97)), none⟩]
def r_f261_13 : List SOp :=
   [.op ⟨(some 98), (.mv (.tmp 4)), none⟩,
    .op ⟨(some 99), (.bin .geq (.tmp 98) (.av (.int .i64 4))), none⟩]
def r_f261_14 : List SOp :=
   [.op ⟨(some 100), (.mv (.tmp 12)), none⟩,
    .op ⟨(some 101), (.bin .rem (.tmp 100) (.av (.int .u32 10000))), none⟩,
    .op ⟨(some 13), (.mv (.tmp 101)), none⟩]
def r_f261_15 : List SOp :=
   [.op ⟨(some 102), (.mv (.tmp 12)), none⟩,
    .op ⟨(some 103), (.bin .quo (.tmp 102) (.av (.int .u32 10000))), none⟩,
    .op ⟨(some 12), (.mv (.tmp 103)), none⟩]
def r_f261_16 : List SOp :=
   [.op ⟨(some 104), (.mv (.tmp 13)), none⟩,
    .op ⟨(some 105), (.bin .quo (.tmp 104) (.av (.int .u32 100))), none⟩,
    .op ⟨(some 106), (.bin .mul (.tmp 105) (.av (.int .u32 2))), none⟩,
    .op ⟨(some 107), (.mv (.tmp 13)), none⟩,
    .op ⟨(some 108), (.bin .rem (.tmp 107) (.av (.int .u32 100))), none⟩,
    .op ⟨(some 109), (.bin .mul (.tmp 108) (.av (.int .u32 2))), none⟩,
    .op ⟨(some 14), (.mv (.tmp 106)), none⟩,
    .op ⟨(some 15), (.mv (.tmp 109)), none⟩]
def r_f261_17 : List (LOper × Kd) :=
   [(⟨(some 110), (.mv (.tmp 0)), none⟩, .pure),
    (⟨(some 111), (.mv (.tmp 4)), none⟩, .pure),
    (⟨(some 112), (.bin .sub (.tmp 111) (.av (.int .i64 1))), none⟩, .pure),
    (⟨(some 113), (.mv (.tmp 0)), none⟩, .pure),
    (⟨(some 114), (.mv (.tmp 4)), none⟩, .pure),
    (⟨(some 115), (.bin .sub (.tmp 114) (.av (.int .i64 2))), none⟩, .pure),
    (⟨(some 116), (.mv (.tmp 15)), none⟩, .pure),
    (⟨(some 117), (.bin .add (.tmp 116) (.av (.int .u32 1))), none⟩, .pure),
    (⟨(some 118), (.idxS (.av (.str [48, 48, 48, 49, 48, 50, 48, 51, 48, 52, 48, 53, 48, 54, 48, 55, 48, 56, 48, 57, 49, 48, 49, 49, 49, 50, 49, 51, 49, 52, 49, 53, 49, 54, 49, 55, 49, 56, 49, 57, 50, 48, 50, 49, 50, 50, 50, 51, 50, 52, 50, 53, 50, 54, 50, 55, 50, 56, 50, 57, 51, 48, 51, 49, 51, 50, 51, 51, 51, 52, 51, 53, 51, 54, 51, 55, 51, 56, 51, 57, 52, 48, 52, 49, 52, 50, 52, 51, 52, 52, 52, 53, 52, 54, 52, 55, 52, 56, 52, 57, 53, 48, 53, 49, 53, 50, 53, 51, 53, 52, 53, 53, 53, 54, 53, 55, 53, 56, 53, 57, 54, 48, 54, 49, 54, 50, 54, 51, 54, 52, 54, 53, 54, 54, 54, 55, 54, 56, 54, 57, 55, 48, 55, 49, 55, 50, 55, 51, 55, 52, 55, 53, 55, 54, 55, 55, 55, 56, 55, 57, 56, 48, 56, 49, 56, 50, 56, 51, 56, 52, 56, 53, 56, 54, 56, 55, 56, 56, 56, 57, 57, 48, 57, 49, 57, 50, 57, 51, 57, 52, 57, 53, 57, 54, 57, 55, 57, 56, 57, 57])) (.tmp 117)), none⟩, (.read 0 0)),
    (⟨(some 119), (.mv (.tmp 15)), none⟩, .pure),
    (⟨(some 120), (.idxS (.av (.str [48, 48, 48, 49, 48, 50, 48, 51, 48, 52, 48, 53, 48, 54, 48, 55, 48, 56, 48, 57, 49, 48, 49, 49, 49, 50, 49, 51, 49, 52, 49, 53, 49, 54, 49, 55, 49, 56, 49, 57, 50, 48, 50, 49, 50, 50, 50, 51, 50, 52, 50, 53, 50, 54, 50, 55, 50, 56, 50, 57, 51, 48, 51, 49, 51, 50, 51, 51, 51, 52, 51, 53, 51, 54, 51, 55, 51, 56, 51, 57, 52, 48, 52, 49, 52, 50, 52, 51, 52, 52, 52, 53, 52, 54, 52, 55, 52, 56, 52, 57, 53, 48, 53, 49, 53, 50, 53, 51, 53, 52, 53, 53, 53, 54, 53, 55, 53, 56, 53, 57, 54, 48, 54, 49, 54, 50, 54, 51, 54, 52, 54, 53, 54, 54, 54, 55, 54, 56, 54, 57, 55, 48, 55, 49, 55, 50, 55, 51, 55, 52, 55, 53, 55, 54, 55, 55, 55, 56, 55, 57, 56, 48, 56, 49, 56, 50, 56, 51, 56, 52, 56, 53, 56, 54, 56, 55, 56, 56, 56, 57, 57, 48, 57, 49, 57, 50, 57, 51, 57, 52, 57, 53, 57, 54, 57, 55, 57, 56, 57, 57])) (.tmp 119)), none⟩, (.read 0 1)),
    (⟨(some 121), (.iaddr 1 (.tmp 110) (.tmp 112)), none⟩, (.read 0 0)),
    (⟨none, (.store 1 (.tmp 121) (.tmp 118)), none⟩, .eff)]
def r_f261_17t : List LOper :=
   [⟨(some 122), (.iaddr 1 (.tmp 113) (.tmp 115)), none⟩,
    ⟨none, (.store 1 (.tmp 122) (.tmp 120)), none⟩]
def r_f261_18 : List (LOper × Kd) :=
   [(⟨(some 123), (.mv (.tmp 0)), none⟩, .pure),
    (⟨(some 124), (.mv (.tmp 4)), none⟩, .pure),
    (⟨(some 125), (.bin .sub (.tmp 124) (.av (.int .i64 3))), none⟩, .pure),
    (⟨(some 126), (.mv (.tmp 0)), none⟩, .pure),
    (⟨(some 127), (.mv (.tmp 4)), none⟩, .pure),
    (⟨(some 128), (.bin .sub (.tmp 127) (.av (.int .i64 4))), none⟩, .pure),
    (⟨(some 129), (.mv (.tmp 14)), none⟩, .pure),
    (⟨(some 130), (.bin .add (.tmp 129) (.av (.int .u32 1))), none⟩, .pure),
    (⟨(some 131), (.idxS (.av (.str [48, 48, 48, 49, 48, 50, 48, 51, 48, 52, 48, 53, 48, 54, 48, 55, 48, 56, 48, 57, 49, 48, 49, 49, 49, 50, 49, 51, 49, 52, 49, 53, 49, 54, 49, 55, 49, 56, 49, 57, 50, 48, 50, 49, 50, 50, 50, 51, 50, 52, 50, 53, 50, 54, 50, 55, 50, 56, 50, 57, 51, 48, 51, 49, 51, 50, 51, 51, 51, 52, 51, 53, 51, 54, 51, 55, 51, 56, 51, 57, 52, 48, 52, 49, 52, 50, 52, 51, 52, 52, 52, 53, 52, 54, 52, 55, 52, 56, 52, 57, 53, 48, 53, 49, 53, 50, 53, 51, 53, 52, 53, 53, 53, 54, 53, 55, 53, 56, 53, 57, 54, 48, 54, 49, 54, 50, 54, 51, 54, 52, 54, 53, 54, 54, 54, 55, 54, 56, 54, 57, 55, 48, 55, 49, 55, 50, 55, 51, 55, 52, 55, 53, 55, 54, 55, 55, 55, 56, 55, 57, 56, 48, 56, 49, 56, 50, 56, 51, 56, 52, 56, 53, 56, 54, 56, 55, 56, 56, 56, 57, 57, 48, 57, 49, 57, 50, 57, 51, 57, 52, 57, 53, 57, 54, 57, 55, 57, 56, 57, 57])) (.tmp 130)), none⟩, (.read 0 0)),
    (⟨(some 132), (.mv (.tmp 14)), none⟩, .pure),
    (⟨(some 133), (.idxS (.av (.str [48, 48, 48, 49, 48, 50, 48, 51, 48, 52, 48, 53, 48, 54, 48, 55, 48, 56, 48, 57, 49, 48, 49, 49, 49, 50, 49, 51, 49, 52, 49, 53, 49, 54, 49, 55, 49, 56, 49, 57, 50, 48, 50, 49, 50, 50, 50, 51, 50, 52, 50, 53, 50, 54, 50, 55, 50, 56, 50, 57, 51, 48, 51, 49, 51, 50, 51, 51, 51, 52, 51, 53, 51, 54, 51, 55, 51, 56, 51, 57, 52, 48, 52, 49, 52, 50, 52, 51, 52, 52, 52, 53, 52, 54, 52, 55, 52, 56, 52, 57, 53, 48, 53, 49, 53, 50, 53, 51, 53, 52, 53, 53, 53, 54, 53, 55, 53, 56, 53, 57, 54, 48, 54, 49, 54, 50, 54, 51, 54, 52, 54, 53, 54, 54, 54, 55, 54, 56, 54, 57, 55, 48, 55, 49, 55, 50, 55, 51, 55, 52, 55, 53, 55, 54, 55, 55, 55, 56, 55, 57, 56, 48, 56, 49, 56, 50, 56, 51, 56, 52, 56, 53, 56, 54, 56, 55, 56, 56, 56, 57, 57, 48, 57, 49, 57, 50, 57, 51, 57, 52, 57, 53, 57, 54, 57, 55, 57, 56, 57, 57])) (.tmp 132)), none⟩, (.read 0 1)),
    (⟨(some 134), (.iaddr 1 (.tmp 123) (.tmp 125)), none⟩, (.read 0 0)),
    (⟨none, (.store 1 (.tmp 134) (.tmp 131)), none⟩, .eff)]
def r_f261_18t : List LOper :=
   [⟨(some 135), (.iaddr 1 (.tmp 126) (.tmp 128)), none⟩,
    ⟨none, (.store 1 (.tmp 135) (.tmp 133)), none⟩]
def r_f261_19 : List SOp :=
   [.op ⟨(some 136), (.mv (.tmp 4)), none⟩,
    .op ⟨(some 137), (.bin .sub (.tmp 136) (.av (.int .i64 4))), none⟩,
    .op ⟨(some 4), (.mv (.tmp 137)), none⟩]
def r_f261_20 : List SOp :=
   [.op ⟨(some 138), (.mv (.tmp 4)), none⟩,
    .op ⟨(some 139), (.bin .geq (.tmp 138) (.av (.int .i64 2))), none⟩]
def r_f261_21 : List SOp :=
   [.op ⟨(some 140), (.mv (.tmp 12)), none⟩,
    .op ⟨(some 141), (.bin .rem (.tmp 140) (.av (.int .u32 100))), none⟩,
    .op ⟨(some 142), (.bin .mul (.tmp 141) (.av (.int .u32 2))), none⟩,
    .op ⟨(some 16), (.mv (.tmp 142)), none⟩]
def r_f261_22 : List SOp :=
   [.op ⟨(some 143), (.mv (.tmp 12)), none⟩,
    .op ⟨(some 144), (.bin .quo (.tmp 143) (.av (.int .u32 100))), none⟩,
    .op ⟨(some 12), (.mv (.tmp 144)), none⟩]
def r_f261_23 : List (LOper × Kd) :=
   [(⟨(some 145), (.mv (.tmp 0)), none⟩, .pure),
    (⟨(some 146), (.mv (.tmp 4)), none⟩, .pure),
    (⟨(some 147), (.bin .sub (.tmp 146) (.av (.int .i64 1))), none⟩, .pure),
    (⟨(some 148), (.mv (.tmp 0)), none⟩, .pure),
    (⟨(some 149), (.mv (.tmp 4)), none⟩, .pure),
    (⟨(some 150), (.bin .sub (.tmp 149) (.av (.int .i64 2))), none⟩, .pure),
    (⟨(some 151), (.mv (.tmp 16)), none⟩, .pure),
    (⟨(some 152), (.bin .add (.tmp 151) (.av (.int .u32 1))), none⟩, .pure),
    (⟨(some 153), (.idxS (.av (.str [48, 48, 48, 49, 48, 50, 48, 51, 48, 52, 48, 53, 48, 54, 48, 55, 48, 56, 48, 57, 49, 48, 49, 49, 49, 50, 49, 51, 49, 52, 49, 53, 49, 54, 49, 55, 49, 56, 49, 57, 50, 48, 50, 49, 50, 50, 50, 51, 50, 52, 50, 53, 50, 54, 50, 55, 50, 56, 50, 57, 51, 48, 51, 49, 51, 50, 51, 51, 51, 52, 51, 53, 51, 54, 51, 55, 51, 56, 51, 57, 52, 48, 52, 49, 52, 50, 52, 51, 52, 52, 52, 53, 52, 54, 52, 55, 52, 56, 52, 57, 53, 48, 53, 49, 53, 50, 53, 51, 53, 52, 53, 53, 53, 54, 53, 55, 53, 56, 53, 57, 54, 48, 54, 49, 54, 50, 54, 51, 54, 52, 54, 53, 54, 54, 54, 55, 54, 56, 54, 57, 55, 48, 55, 49, 55, 50, 55, 51, 55, 52, 55, 53, 55, 54, 55, 55, 55, 56, 55, 57, 56, 48, 56, 49, 56, 50, 56, 51, 56, 52, 56, 53, 56, 54, 56, 55, 56, 56, 56, 57, 57, 48, 57, 49, 57, 50, 57, 51, 57, 52, 57, 53, 57, 54, 57, 55, 57, 56, 57, 57])) (.tmp 152)), none⟩, (.read 0 0)),
    (⟨(some 154), (.mv (.tmp 16)), none⟩, .pure),
    (⟨(some 155), (.idxS (.av (.str [48, 48, 48, 49, 48, 50, 48, 51, 48, 52, 48, 53, 48, 54, 48, 55, 48, 56, 48, 57, 49, 48, 49, 49, 49, 50, 49, 51, 49, 52, 49, 53, 49, 54, 49, 55, 49, 56, 49, 57, 50, 48, 50, 49, 50, 50, 50, 51, 50, 52, 50, 53, 50, 54, 50, 55, 50, 56, 50, 57, 51, 48, 51, 49, 51, 50, 51, 51, 51, 52, 51, 53, 51, 54, 51, 55, 51, 56, 51, 57, 52, 48, 52, 49, 52, 50, 52, 51, 52, 52, 52, 53, 52, 54, 52, 55, 52, 56, 52, 57, 53, 48, 53, 49, 53, 50, 53, 51, 53, 52, 53, 53, 53, 54, 53, 55, 53, 56, 53, 57, 54, 48, 54, 49, 54, 50, 54, 51, 54, 52, 54, 53, 54, 54, 54, 55, 54, 56, 54, 57, 55, 48, 55, 49, 55, 50, 55, 51, 55, 52, 55, 53, 55, 54, 55, 55, 55, 56, 55, 57, 56, 48, 56, 49, 56, 50, 56, 51, 56, 52, 56, 53, 56, 54, 56, 55, 56, 56, 56, 57, 57, 48, 57, 49, 57, 50, 57, 51, 57, 52, 57, 53, 57, 54, 57, 55, 57, 56, 57, 57])) (.tmp 154)), none⟩, (.read 0 1)),
    (⟨(some 156), (.iaddr 1 (.tmp 145) (.tmp 147)), none⟩, (.read 0 0)),
    (⟨none, (.store 1 (.tmp 156) (.tmp 153)), none⟩, .eff)]
def r_f261_23t : List LOper :=
   [⟨(some 157), (.iaddr 1 (.tmp 148) (.tmp 150)), none⟩,
    ⟨none, (.store 1 (.tmp 157) (.tmp 155)), none⟩]
def r_f261_24 : List SOp :=
   [.op ⟨(some 158), (.mv (.tmp 4)), none⟩,
    .op ⟨(some 159), (.bin .sub (.tmp 158) (.av (.int .i64 2))), none⟩,
    .op ⟨(some 4), (.mv (.tmp 159)), none⟩]
def r_f261_25 : List SOp :=
   [.op ⟨(some 160), (.mv (.tmp 4)), none⟩,
    .op ⟨(some 161), (.bin .gtr (.tmp 160) (.av (.int .i64 0))), none⟩]
def r_f261_26 : List SOp :=
   [.op ⟨(some 162), (.mv (.tmp 0)), none⟩,
    .op ⟨(some 163), (.mv (.tmp 12)), none⟩,
    .op ⟨(some 164), (.bin .add (.av (.int .u32 48)) (.tmp 163)), none⟩,
    .op ⟨(some 165), (.conv .u8 (.tmp 164)), none⟩,
    .op ⟨(some 166), (.iaddr 1 (.tmp 162) (.av (.int .i64 0))), none⟩,
    .op ⟨none, (.store 1 (.tmp 166) (.tmp 165)), none⟩]
def c_f261 : LFun := ⟨167, (.seq (.sreg r_f261_0 [true, false, false])
  (.seq (.block 0 (.loop (.seq (.seq (.sreg r_f261_1 [true, false])
  (.cond (.tmp 20) .skip
  (.exit 0)))
  (.block 1 (.seq (.sreg r_f261_2 [true, false, false, false])
  (.seq (.sreg r_f261_3 [true, false, false])
  (.seq (.sreg r_f261_4 [true, true, false, false, false, false])
  (.seq (.sreg r_f261_5 [true, true, false, false, false, false, false, false])
  (.seq (.sreg r_f261_6 [true, true, false, false, false, false, false, false])
  (.seq (.dregM r_f261_7 r_f261_7t [false, false, false, false, false, false, false, false, false, false, false, false, false])
  (.seq (.dregM r_f261_8 r_f261_8t [false, false, false, false, false, false, false, false, false, false, false, false, false])
  (.seq (.dregM r_f261_9 r_f261_9t [false, false, false, false, false, false, false, false, false, false, false, false, false])
  (.seq (.dregM r_f261_10 r_f261_10t [false, false, false, false, false, false, false, false, false, false, false, false, false])
  (.sreg r_f261_11 [true, false, false]))))))))))))))
  (.seq (.sreg r_f261_12 [true, false, false])
  (.seq (.seq (.sreg r_f261_13 [true, false])
  (.cond (.tmp 99) (.seq (.sreg r_f261_14 [true, false, false])
  (.seq (.sreg r_f261_15 [true, false, false])
  (.seq (.sreg r_f261_16 [true, true, false, false, false, false, false, false])
  (.seq (.dregM r_f261_17 r_f261_17t [false, false, false, false, false, false, false, false, false, false, false, false, false])
  (.seq (.dregM r_f261_18 r_f261_18t [false, false, false, false, false, false, false, false, false, false, false, false, false])
  (.sreg r_f261_19 [true, false, false]))))))
  .skip))
  (.seq (.seq (.sreg r_f261_20 [true, false])
  (.cond (.tmp 139) (.seq (.sreg r_f261_21 [true, false, false, false])
  (.seq (.sreg r_f261_22 [true, false, false])
  (.seq (.dregM r_f261_23 r_f261_23t [false, false, false, false, false, false, false, false, false, false, false, false, false])
  (.sreg r_f261_24 [true, false, false]))))
  .skip))
  (.seq (.sreg r_f261_25 [true, false])
  (.cond (.tmp 161) (.sreg r_f261_26 [false, false, false, false, false])
  .skip))))))), []⟩
def o_f261 : Nat → Nat → Nat := fun _ _ => 1
theorem c_f261_eq : lowF Tryz.prog o_f261 261 = some c_f261.raw := by kernel_rfl
theorem c_f261_ok : c_f261.code.okc = true := by kernel_rfl
/-! internal/strconv.formatBits -/
def r_f262_0 : List SOp :=
   [.op ⟨(some 10), (.mv (.av (.sl [] 0 (some 0)))), none⟩,
    .op ⟨(some 11), (.mv (.av (.str []))), none⟩]
def r_f262_1 : List SOp :=
   [.op ⟨(some 19), (.mv (.tmp 2)), none⟩,
    .op ⟨(some 20), (.bin .lss (.tmp 19) (.av (.int .i64 2))), none⟩,
    .op ⟨(some 21), (.mv (.tmp 20)), none⟩,
    .grp none 21 false
      [.op ⟨(some 22), (.mv (.tmp 2)), (some (21, false))⟩,
      .op ⟨(some 23), (.bin .eql (.tmp 22) (.av (.int .i64 10))), (some (21, false))⟩]
      24 (.tmp 23),
    .op ⟨(some 25), (.mv (.tmp 24)), none⟩,
    .grp none 25 false
      [.op ⟨(some 26), (.mv (.tmp 2)), (some (25, false))⟩,
      .op ⟨(some 27), (.bin .gtr (.tmp 26) (.av (.int .i64 36))), (some (25, false))⟩]
      28 (.tmp 27)]
def r_f262_2 : List SOp :=
   [.op ⟨(some 29), (.mkif 9 (.av (.str [115, 116, 114, 99, 111, 110, 118, 58, 32, 105, 108, 108, 101, 103, 97, 108, 32, 65, 112, 112, 101, 110, 100, 73, 110, 116, 47, 70, 111, 114, 109, 97, 116, 73, 110, 116, 32, 98, 97, 115, 101]))), none⟩,
    .op ⟨none, .bad, none⟩]
def r_f262_3 : List SOp :=
   [.op ⟨(some 12), (.alloc [(.int .u8 0), (.int .u8 0), (.int .u8 0), (.int .u8 0), (.int .u8 0), (.int .u8 0), (.int .u8 0), (.int .u8 0), (.int .u8 0), (.int .u8 0), (.int .u8 0), (.int .u8 0), (.int .u8 0), (.int .u8 0), (.int .u8 0), (.int .u8 0), (.int .u8 0), (.int .u8 0), (.int .u8 0), (.int .u8 0), (.int .u8 0), (.int .u8 0), (.int .u8 0), (.int .u8 0), (.int .u8 0), (.int .u8 0), (.int .u8 0), (.int .u8 0), (.int .u8 0), (.int .u8 0), (.int .u8 0), (.int .u8 0), (.int .u8 0), (.int .u8 0), (.int .u8 0), (.int .u8 0), (.int .u8 0), (.int .u8 0), (.int .u8 0), (.int .u8 0), (.int .u8 0), (.int .u8 0), (.int .u8 0), (.int .u8 0), (.int .u8 0), (.int .u8 0), (.int .u8 0), (.int .u8 0), (.int .u8 0), (.int .u8 0), (.int .u8 0), (.int .u8 0), (.int .u8 0), (.int .u8 0), (.int .u8 0), (.int .u8 0), (.int .u8 0), (.int .u8 0), (.int .u8 0), (.int .u8 0), (.int .u8 0), (.int .u8 0), (.int .u8 0), (.int .u8 0), (.int .u8 0)]), none⟩]
def r_f262_4 : List SOp :=
   [.op ⟨(some 13), (.mv (.av (.int .i64 65))), none⟩]
def r_f262_5 : List SOp :=
   [.op ⟨(some 30), (.mv (.tmp 3)), none⟩]
def r_f262_6 : List SOp :=
   [.op ⟨(some 31), (.mv (.tmp 1)), none⟩,
    .op ⟨(some 32), (.un .neg (.tmp 31)), none⟩,
    .op ⟨(some 1), (.mv (.tmp 32)), none⟩]
def r_f262_7 : List SOp :=
   [.op ⟨(some 33), (.mv (.tmp 2)), none⟩,
    .op ⟨(some 34), (.call 308 [(.tmp 33)]), none⟩]
def r_f262_8 : List SOp :=
   [.op ⟨(some 35), (.mv (.tmp 2)), none⟩,
    .op ⟨(some 36), (.conv .u64 (.tmp 35)), none⟩,
    .op ⟨(some 37), (.call 309 [(.tmp 36)]), none⟩,
    .op ⟨(some 38), (.conv .u64 (.tmp 37)), none⟩,
    .op ⟨(some 14), (.mv (.tmp 38)), none⟩]
def r_f262_9 : List SOp :=
   [.op ⟨(some 39), (.mv (.tmp 2)), none⟩,
    .op ⟨(some 40), (.conv .u64 (.tmp 39)), none⟩,
    .op ⟨(some 15), (.mv (.tmp 40)), none⟩]
def r_f262_10 : List SOp :=
   [.op ⟨(some 41), (.mv (.tmp 2)), none⟩,
    .op ⟨(some 42), (.conv .u64 (.tmp 41)), none⟩,
    .op ⟨(some 43), (.bin .sub (.tmp 42) (.av (.int .u64 1))), none⟩,
    .op ⟨(some 16), (.mv (.tmp 43)), none⟩]
def r_f262_11 : List SOp :=
   [.op ⟨(some 44), (.mv (.tmp 1)), none⟩,
    .op ⟨(some 45), (.mv (.tmp 15)), none⟩,
    .op ⟨(some 46), (.bin .geq (.tmp 44) (.tmp 45)), none⟩]
def r_f262_12 : List SOp :=
   [.op ⟨(some 47), (.mv (.tmp 13)), none⟩,
    .op ⟨(some 48), (.bin .sub (.tmp 47) (.av (.int .i64 1))), none⟩,
    .op ⟨(some 13), (.mv (.tmp 48)), none⟩]
def r_f262_13 : List SOp :=
   [.op ⟨(some 49), (.mv (.tmp 13)), none⟩,
    .op ⟨(some 50), (.mv (.tmp 1)), none⟩,
    .op ⟨(some 51), (.mv (.tmp 16)), none⟩,
    .op ⟨(some 52), (.bin .and (.tmp 50) (.tmp 51)), none⟩,
    .op ⟨(some 53), (.idxS (.av (.str [48, 49, 50, 51, 52, 53, 54, 55, 56, 57, 97, 98, 99, 100, 101, 102, 103, 104, 105, 106, 107, 108, 109, 110, 111, 112, 113, 114, 115, 116, 117, 118, 119, 120, 121, 122])) (.tmp 52)), none⟩,
    .op ⟨(some 54), (.iaddrA 65 1 (.tmp 12) (.tmp 49)), none⟩,
    .op ⟨none, (.store 1 (.tmp 54) (.tmp 53)), none⟩]
def r_f262_14 : List SOp :=
   [.op ⟨(some 55), (.mv (.tmp 1)), none⟩,
    .op ⟨(some 56), (.mv (.tmp 14)), none⟩,
    .op ⟨(some 57), (.bin .shr (.tmp 55) (.tmp 56)), none⟩,
    .op ⟨(some 1), (.mv (.tmp 57)), none⟩]
def r_f262_15 : List SOp :=
   [.op ⟨(some 58), (.mv (.tmp 13)), none⟩,
    .op ⟨(some 59), (.bin .sub (.tmp 58) (.av (.int .i64 1))), none⟩,
    .op ⟨(some 13), (.mv (.tmp 59)), none⟩]
def r_f262_16 : List SOp :=
   [.op ⟨(some 60), (.mv (.tmp 13)), none⟩,
    .op ⟨(some 61), (.mv (.tmp 1)), none⟩,
    .op ⟨(some 62), (.idxS (.av (.str [48, 49, 50, 51, 52, 53, 54, 55, 56, 57, 97, 98, 99, 100, 101, 102, 103, 104, 105, 106, 107, 108, 109, 110, 111, 112, 113, 114, 115, 116, 117, 118, 119, 120, 121, 122])) (.tmp 61)), none⟩,
    .op ⟨(some 63), (.iaddrA 65 1 (.tmp 12) (.tmp 60)), none⟩,
    .op ⟨none, (.store 1 (.tmp 63) (.tmp 62)), none⟩]
def r_f262_17 : List SOp :=
   [.op ⟨(some 64), (.mv (.tmp 2)), none⟩,
    .op ⟨(some 65), (.conv .u64 (.tmp 64)), none⟩,
    .op ⟨(some 17), (.mv (.tmp 65)), none⟩]
def r_f262_18 : List SOp :=
   [.op ⟨(some 66), (.mv (.tmp 1)), none⟩,
    .op ⟨(some 67), (.mv (.tmp 17)), none⟩,
    .op ⟨(some 68), (.bin .geq (.tmp 66) (.tmp 67)), none⟩]
def r_f262_19 : List SOp :=
   [.op ⟨(some 69), (.mv (.tmp 13)), none⟩,
    .op ⟨(some 70), (.bin .sub (.tmp 69) (.av (.int .i64 1))), none⟩,
    .op ⟨(some 13), (.mv (.tmp 70)), none⟩]
def r_f262_20 : List SOp :=
   [.op ⟨(some 71), (.mv (.tmp 1)), none⟩,
    .op ⟨(some 72), (.mv (.tmp 17)), none⟩,
    .op ⟨(some 73), (.bin .quo (.tmp 71) (.tmp 72)), none⟩,
    .op ⟨(some 18), (.mv (.tmp 73)), none⟩]
def r_f262_21 : List SOp :=
   [.op ⟨(some 74), (.mv (.tmp 13)), none⟩,
    .op ⟨(some 75), (.mv (.tmp 1)), none⟩,
    .op ⟨(some 76), (.mv (.tmp 18)), none⟩,
    .op ⟨(some 77), (.mv (.tmp 17)), none⟩,
    .op ⟨(some 78), (.bin .mul (.tmp 76) (.tmp 77)), none⟩,
    .op ⟨(some 79), (.bin .sub (.tmp 75) (.tmp 78)), none⟩,
    .op ⟨(some 80), (.idxS (.av (.str [48, 49, 50, 51, 52, 53, 54, 55, 56, 57, 97, 98, 99, 100, 101, 102, 103, 104, 105, 106, 107, 108, 109, 110, 111, 112, 113, 114, 115, 116, 117, 118, 119, 120, 121, 122])) (.tmp 79)), none⟩,
    .op ⟨(some 81), (.iaddrA 65 1 (.tmp 12) (.tmp 74)), none⟩,
    .op ⟨none, (.store 1 (.tmp 81) (.tmp 80)), none⟩]
def r_f262_22 : List SOp :=
   [.op ⟨(some 82), (.mv (.tmp 18)), none⟩,
    .op ⟨(some 1), (.mv (.tmp 82)), none⟩]
def r_f262_23 : List SOp :=
   [.op ⟨(some 83), (.mv (.tmp 13)), none⟩,
    .op ⟨(some 84), (.bin .sub (.tmp 83) (.av (.int .i64 1))), none⟩,
    .op ⟨(some 13), (.mv (.tmp 84)), none⟩]
def r_f262_24 : List SOp :=
   [.op ⟨(some 85), (.mv (.tmp 13)), none⟩,
    .op ⟨(some 86), (.mv (.tmp 1)), none⟩,
    .op ⟨(some 87), (.idxS (.av (.str [48, 49, 50, 51, 52, 53, 54, 55, 56, 57, 97, 98, 99, 100, 101, 102, 103, 104, 105, 106, 107, 108, 109, 110, 111, 112, 113, 114, 115, 116, 117, 118, 119, 120, 121, 122])) (.tmp 86)), none⟩,
    .op ⟨(some 88), (.iaddrA 65 1 (.tmp 12) (.tmp 85)), none⟩,
    .op ⟨none, (.store 1 (.tmp 88) (.tmp 87)), none⟩]
def r_f262_25 : List SOp :=
   [.op ⟨(some 89), (.mv (.tmp 3)), none⟩]
def r_f262_26 : List SOp :=
   [.op ⟨(some 90), (.mv (.tmp 13)), none⟩,
    .op ⟨(some 91), (.bin .sub (.tmp 90) (.av (.int .i64 1))), none⟩,
    .op ⟨(some 13), (.mv (.tmp 91)), none⟩]
def r_f262_27 : List SOp :=
   [.op ⟨(some 92), (.mv (.tmp 13)), none⟩,
    .op ⟨(some 93), (.iaddrA 65 1 (.tmp 12) (.tmp 92)), none⟩,
    .op ⟨none, (.store 1 (.tmp 93) (.av (.int .u8 45))), none⟩]
def r_f262_28 : List SOp :=
   [.op ⟨(some 94), (.mv (.tmp 4)), none⟩]
def r_f262_29 : List SOp :=
   [.op ⟨(some 95), (.mv (.tmp 0)), none⟩,
    .op ⟨(some 96), (.mv (.tmp 13)), none⟩,
    .op ⟨(some 97), (.slA 65 1 (.tmp 12) (some (.tmp 96)) none), none⟩,
    .op ⟨(some 98), (.app 1 1 1 [(.int .u8 0)] (.tmp 95) (.tmp 97)), none⟩,
    .op ⟨(some 10), (.mv (.tmp 98)), none⟩]
def r_f262_30 : List SOp :=
   [.op ⟨(some 99), (.mv (.tmp 13)), none⟩,
    .op ⟨(some 100), (.slA 65 1 (.tmp 12) (some (.tmp 99)) none), none⟩,
    .op ⟨(some 101), (.b2s (.tmp 100)), none⟩,
    .op ⟨(some 11), (.mv (.tmp 101)), none⟩]
def c_f262 : LFun := ⟨102, (.seq (.sreg r_f262_0 [])
  (.seq (.seq (.sreg r_f262_1 [true, false, false, false, false, false])
  (.cond (.tmp 28) (.sreg r_f262_2 [false])
  .skip))
  (.seq (.sreg r_f262_3 [])
  (.seq (.sreg r_f262_4 [])
  (.seq (.seq (.sreg r_f262_5 [])
  (.cond (.tmp 30) (.sreg r_f262_6 [true, false, false])
  .skip))
  (.seq (.seq (.sreg r_f262_7 [true, false])
  (.cond (.tmp 34) (.seq (.sreg r_f262_8 [true, false, false, false, false])
  (.seq (.sreg r_f262_9 [true, false, false])
  (.seq (.sreg r_f262_10 [true, false, false, false])
  (.seq (.block 0 (.loop (.seq (.seq (.sreg r_f262_11 [true, false, false])
  (.cond (.tmp 46) .skip
  (.exit 0)))
  (.block 1 (.seq (.sreg r_f262_12 [true, false, false])
  (.seq (.sreg r_f262_13 [false, false, false, false, false, false])
  (.sreg r_f262_14 [true, false, false, false])))))))
  (.seq (.sreg r_f262_15 [true, false, false])
  (.sreg r_f262_16 [false, false, false, false]))))))
  (.seq (.sreg r_f262_17 [true, false, false])
  (.seq (.block 2 (.loop (.seq (.seq (.sreg r_f262_18 [true, false, false])
  (.cond (.tmp 68) .skip
  (.exit 2)))
  (.block 3 (.seq (.sreg r_f262_19 [true, false, false])
  (.seq (.sreg r_f262_20 [true, false, false, false])
  (.seq (.sreg r_f262_21 [false, false, false, false, false, false, false, false])
  (.sreg r_f262_22 [true, false]))))))))
  (.seq (.sreg r_f262_23 [true, false, false])
  (.sreg r_f262_24 [false, false, false, false]))))))
  (.seq (.seq (.sreg r_f262_25 [])
  (.cond (.tmp 89) (.seq (.sreg r_f262_26 [true, false, false])
  (.sreg r_f262_27 [false, false]))
  .skip))
  (.seq (.seq (.sreg r_f262_28 [])
  (.cond (.tmp 94) (.seq (.sreg r_f262_29 [true, false, false, false, false])
  .ret)
  .skip))
  (.seq (.sreg r_f262_30 [true, false, false, false])
  .ret))))))))), [(.tmp 10), (.tmp 11)]⟩
def o_f262 : Nat → Nat → Nat := fun _ _ => 1
theorem c_f262_eq : lowF Tryz.prog o_f262 262 = some c_f262.raw := by kernel_rfl
theorem c_f262_ok : c_f262.code.okc = true := by kernel_rfl
/-! internal/stringslite.Cut -/
def r_f263_0 : List SOp :=
   [.op ⟨(some 4), (.mv (.av (.str []))), none⟩,
    .op ⟨(some 5), (.mv (.av (.str []))), none⟩,
    .op ⟨(some 6), (.mv (.av (.bool false))), none⟩]
def r_f263_1 : List SOp :=
   [.op ⟨(some 8), (.mv (.tmp 0)), none⟩,
    .op ⟨(some 9), (.mv (.tmp 1)), none⟩,
    .op ⟨(some 10), (.call 272 [(.tmp 8), (.tmp 9)]), none⟩,
    .op ⟨(some 7), (.mv (.tmp 10)), none⟩]
def r_f263_2 : List SOp :=
   [.op ⟨(some 11), (.mv (.tmp 7)), none⟩,
    .op ⟨(some 12), (.bin .geq (.tmp 11) (.av (.int .i64 0))), none⟩]
def r_f263_3 : List SOp :=
   [.op ⟨(some 13), (.mv (.tmp 0)), none⟩,
    .op ⟨(some 14), (.mv (.tmp 7)), none⟩,
    .op ⟨(some 15), (.slS (.tmp 13) none (some (.tmp 14))), none⟩,
    .op ⟨(some 16), (.mv (.tmp 0)), none⟩,
    .op ⟨(some 17), (.mv (.tmp 7)), none⟩,
    .op ⟨(some 18), (.mv (.tmp 1)), none⟩,
    .op ⟨(some 19), (.len true (.tmp 18)), none⟩,
    .op ⟨(some 20), (.bin .add (.tmp 17) (.tmp 19)), none⟩,
    .op ⟨(some 21), (.slS (.tmp 16) (some (.tmp 20)) none), none⟩,
    .op ⟨(some 4), (.mv (.tmp 15)), none⟩,
    .op ⟨(some 5), (.mv (.tmp 21)), none⟩,
    .op ⟨(some 6), (.mv (.av (.bool true))), none⟩]
def r_f263_4 : List SOp :=
   [.op ⟨(some 22), (.mv (.tmp 0)), none⟩,
    .op ⟨(some 4), (.mv (.tmp 22)), none⟩,
    .op ⟨(some 5), (.mv (.av (.str []))), none⟩,
    .op ⟨(some 6), (.mv (.av (.bool false))), none⟩]
def c_f263 : LFun := ⟨23, (.seq (.sreg r_f263_0 [])
  (.seq (.seq (.sreg r_f263_1 [true, false, false, false])
  (.seq (.sreg r_f263_2 [true, false])
  (.cond (.tmp 12) (.seq (.sdreg r_f263_3 [.pure, .pure, (.read 0 0), .pure, .pure, .pure, (.read 0 0), .pure, (.read 0 0), .pure] [true, true, true, false, false, false, false, false, false, false, false, false])
  .ret)
  .skip)))
  (.seq (.sreg r_f263_4 [true, true, true, false])
  .ret))), [(.tmp 4), (.tmp 5), (.tmp 6)]⟩
def o_f263 : Nat → Nat → Nat := fun _ _ => 1
theorem c_f263_eq : lowF Tryz.prog o_f263 263 = some c_f263.raw := by kernel_rfl
theorem c_f263_ok : c_f263.code.okc = true := by kernel_rfl
/-! castellan/dn.has$1 -/
def r_f266_0 : List SOp :=
   [.op ⟨(some 2), (.box (.tmp 0)), none⟩,
    .op ⟨(some 3), (.mv (.av (.bool false))), none⟩]
def r_f266_1 : List SOp :=
   [.op ⟨(some 4), (.faddr 0 (.tmp 2)), none⟩,
    .op ⟨(some 5), (.load false 1 (.tmp 4)), none⟩,
    .op ⟨(some 6), (.call 45 [(.tmp 5)]), none⟩,
    .op ⟨(some 7), (.load false 1 (.tmp 1)), none⟩,
    .op ⟨(some 8), (.call 45 [(.tmp 7)]), none⟩,
    .op ⟨(some 9), (.bin .eql (.tmp 6) (.tmp 8)), none⟩,
    .op ⟨(some 3), (.mv (.tmp 9)), none⟩]
def c_f266 : LFun := ⟨10, (.seq (.sreg r_f266_0 [])
  (.seq (.sdreg r_f266_1 [.pure, (.read 0 0), .eff, (.read 1 0)] [true, false, false, false, false, false, false])
  .ret)), [(.tmp 3)]⟩
def o_f266 : Nat → Nat → Nat := fun r i => if r = 1 ∧ i = 2 then 3 else if r = 1 ∧ i = 4 then 3 else 1
theorem c_f266_eq : lowF Tryz.prog o_f266 266 = some c_f266.raw := by kernel_rfl
theorem c_f266_ok : c_f266.code.okc = true := by kernel_rfl
/-! slices.ContainsFunc[castellan/api.RDN,castellan/api.AVA] -/
def r_f265_0 : List SOp :=
   [.op ⟨(some 4), (.mv (.av (.bool false))), none⟩]
def r_f265_1 : List SOp :=
   [.op ⟨(some 5), (.mv (.tmp 0)), none⟩,
    .op ⟨(some 6), (.mv (.tmp 1)), none⟩,
    .op ⟨(some 7), (.call 310 [(.tmp 5), (.tmp 6)]), none⟩,
    .op ⟨(some 8), (.bin .geq (.tmp 7) (.av (.int .i64 0))), none⟩,
    .op ⟨(some 4), (.mv (.tmp 8)), none⟩]
def c_f265 : LFun := ⟨9, (.seq (.sreg r_f265_0 [])
  (.seq (.sreg r_f265_1 [true, false, false, false, false])
  .ret)), [(.tmp 4)]⟩
def o_f265 : Nat → Nat → Nat := fun _ _ => 1
theorem c_f265_eq : lowF Tryz.prog o_f265 265 = some c_f265.raw := by kernel_rfl
theorem c_f265_ok : c_f265.code.okc = true := by kernel_rfl
/-! strings.IndexByte -/
def r_f267_0 : List SOp :=
   [.op ⟨(some 4), (.mv (.av (.int .i64 0))), none⟩]
def r_f267_1 : List SOp :=
   [.op ⟨(some 5), (.mv (.tmp 0)), none⟩,
    .op ⟨(some 6), (.mv (.tmp 1)), none⟩,
    .op ⟨(some 7), (.call 311 [(.tmp 5), (.tmp 6)]), none⟩,
    .op ⟨(some 4), (.mv (.tmp 7)), none⟩]
def c_f267 : LFun := ⟨8, (.seq (.sreg r_f267_0 [])
  (.seq (.sreg r_f267_1 [true, false, false, false])
  .ret)), [(.tmp 4)]⟩
def o_f267 : Nat → Nat → Nat := fun _ _ => 1
theorem c_f267_eq : lowF Tryz.prog o_f267 267 = some c_f267.raw := by kernel_rfl
theorem c_f267_ok : c_f267.code.okc = true := by kernel_rfl
/-! castellan/octet.Unhex -/
def r_f268_0 : List SOp :=
   [.op ⟨(some 2), (.mv (.av (.str []))), none⟩,
    .op ⟨(some 3), (.mv (.av (.bool false))), none⟩]
def r_f268_1 : List SOp :=
   [.op ⟨(some 10), (.mv (.tmp 0)), none⟩,
    .op ⟨(some 11), (.len true (.tmp 10)), none⟩,
    .op ⟨(some 12), (.bin .rem (.tmp 11) (.av (.int .i64 2))), none⟩,
    .op ⟨(some 13), (.bin .eql (.tmp 12) (.av (.int .i64 1))), none⟩]
def r_f268_2 : List SOp :=
   [.op ⟨(some 2), (.mv (.av (.str []))), none⟩,
    .op ⟨(some 3), (.mv (.av (.bool false))), none⟩]
def r_f268_3 : List SOp :=
   [.op ⟨(some 14), (.mv (.tmp 0)), none⟩,
    .op ⟨(some 15), (.len true (.tmp 14)), none⟩,
    .op ⟨(some 16), (.bin .quo (.tmp 15) (.av (.int .i64 2))), none⟩,
    .op ⟨(some 17), (.mkslice 1 1 [(.int .u8 0)] (.av (.int .i64 0)) (.tmp 16)), none⟩,
    .op ⟨(some 4), (.mv (.tmp 17)), none⟩]
def r_f268_4 : List SOp :=
   [.op ⟨(some 5), (.mv (.av (.int .i64 0))), none⟩]
def r_f268_5 : List SOp :=
   [.op ⟨(some 18), (.mv (.tmp 5)), none⟩,
    .op ⟨(some 19), (.mv (.tmp 0)), none⟩,
    .op ⟨(some 20), (.len true (.tmp 19)), none⟩,
    .op ⟨(some 21), (.bin .lss (.tmp 18) (.tmp 20)), none⟩]
def r_f268_6 : List SOp :=
   [.op ⟨(some 25), (.mv (.tmp 0)), none⟩,
    .op ⟨(some 26), (.mv (.tmp 5)), none⟩,
    .op ⟨(some 27), (.idxS (.tmp 25) (.tmp 26)), none⟩,
    .op ⟨(some 28), (.call 312 [(.tmp 27)]), none⟩,
    .op ⟨(some 24), (.mv (.tmp 28)), none⟩,
    .op ⟨(some 29), (.extract (.tmp 24) 0), none⟩,
    .op ⟨(some 30), (.extract (.tmp 24) 1), none⟩,
    .op ⟨(some 6), (.mv (.tmp 29)), none⟩,
    .op ⟨(some 7), (.mv (.tmp 30)), none⟩]
def r_f268_7 : List SOp :=
   [.op ⟨(some 32), (.mv (.tmp 0)), none⟩,
    .op ⟨(some 33), (.mv (.tmp 5)), none⟩,
    .op ⟨(some 34), (.bin .add (.tmp 33) (.av (.int .i64 1))), none⟩,
    .op ⟨(some 35), (.idxS (.tmp 32) (.tmp 34)), none⟩,
    .op ⟨(some 36), (.call 312 [(.tmp 35)]), none⟩,
    .op ⟨(some 31), (.mv (.tmp 36)), none⟩,
    .op ⟨(some 37), (.extract (.tmp 31) 0), none⟩,
    .op ⟨(some 38), (.extract (.tmp 31) 1), none⟩,
    .op ⟨(some 8), (.mv (.tmp 37)), none⟩,
    .op ⟨(some 9), (.mv (.tmp 38)), none⟩]
def r_f268_8 : List SOp :=
   [.op ⟨(some 39), (.mv (.tmp 7)), none⟩,
    .op ⟨(some 40), (.un .not (.tmp 39)), none⟩,
    .op ⟨(some 41), (.mv (.tmp 40)), none⟩,
    .grp none 41 false
      [.op ⟨(some 42), (.mv (.tmp 9)), (some (41, false))⟩,
      .op ⟨(some 43), (.un .not (.tmp 42)), (some (41, false))⟩]
      44 (.tmp 43)]
def r_f268_9 : List SOp :=
   [.op ⟨(some 2), (.mv (.av (.str []))), none⟩,
    .op ⟨(some 3), (.mv (.av (.bool false))), none⟩]
def r_f268_10 : List SOp :=
   [.op ⟨(some 45), (.mv (.tmp 4)), none⟩,
    .op ⟨(some 46), (.mv (.tmp 6)), none⟩,
    .op ⟨(some 47), (.bin .shl (.tmp 46) (.av (.int .u64 4))), none⟩,
    .op ⟨(some 48), (.mv (.tmp 8)), none⟩,
    .op ⟨(some 49), (.bin .or (.tmp 47) (.tmp 48)), none⟩,
    .op ⟨(some 50), (.bslice false 1 1 [(.int .u8 0)] [(0, 1, (.tmp 49))]), none⟩,
    .op ⟨(some 51), (.app 1 1 1 [(.int .u8 0)] (.tmp 45) (.tmp 50)), none⟩,
    .op ⟨(some 4), (.mv (.tmp 51)), none⟩]
def r_f268_11 : List SOp :=
   [.op ⟨(some 22), (.mv (.tmp 5)), none⟩,
    .op ⟨(some 23), (.bin .add (.tmp 22) (.av (.int .i64 2))), none⟩,
    .op ⟨(some 5), (.mv (.tmp 23)), none⟩]
def r_f268_12 : List SOp :=
   [.op ⟨(some 52), (.mv (.tmp 4)), none⟩,
    .op ⟨(some 53), (.b2s (.tmp 52)), none⟩,
    .op ⟨(some 2), (.mv (.tmp 53)), none⟩,
    .op ⟨(some 3), (.mv (.av (.bool true))), none⟩]
def c_f268 : LFun := ⟨54, (.seq (.sreg r_f268_0 [])
  (.seq (.seq (.sreg r_f268_1 [true, false, false, false])
  (.cond (.tmp 13) (.seq (.sreg r_f268_2 [])
  .ret)
  .skip))
  (.seq (.sreg r_f268_3 [true, false, false, false, false])
  (.seq (.seq (.sreg r_f268_4 [])
  (.block 0 (.loop (.seq (.seq (.sreg r_f268_5 [true, false, false, false])
  (.cond (.tmp 21) .skip
  (.exit 0)))
  (.seq (.block 1 (.seq (.sreg r_f268_6 [true, true, false, false, false, false, false, false, false])
  (.seq (.sreg r_f268_7 [true, true, false, false, false, false, false, false, false, false])
  (.seq (.seq (.sreg r_f268_8 [true, false, false, false])
  (.cond (.tmp 44) (.seq (.sreg r_f268_9 [])
  .ret)
  .skip))
  (.sreg r_f268_10 [true, false, false, false, false, false, false, false])))))
  (.sreg r_f268_11 [true, false, false]))))))
  (.seq (.sreg r_f268_12 [true, true, false, false])
  .ret))))), [(.tmp 2), (.tmp 3)]⟩
def o_f268 : Nat → Nat → Nat := fun _ _ => 1
theorem c_f268_eq : lowF Tryz.prog o_f268 268 = some c_f268.raw := by kernel_rfl
theorem c_f268_ok : c_f268.code.okc = true := by kernel_rfl
/-! castellan/dn.check -/
def r_f165_0 : List SOp :=
   [.op ⟨(some 2), (.mv (.av (.int .i64 0))), none⟩]
def r_f165_1 : List SOp :=
   [.op ⟨(some 7), (.mv (.tmp 0)), none⟩,
    .op ⟨(some 8), (.len false (.tmp 7)), none⟩,
    .op ⟨(some 9), (.mv (.av (.int .i64 0))), none⟩]
def r_f165_2 : List SOp :=
   [.op ⟨(some 10), (.bin .lss (.tmp 9) (.tmp 8)), none⟩]
def r_f165_3 : List SOp :=
   [.op ⟨(some 11), (.mv (.tmp 9)), none⟩,
    .op ⟨(some 12), (.iaddr 1 (.tmp 7) (.tmp 9)), none⟩,
    .op ⟨(some 13), (.load false 1 (.tmp 12)), none⟩,
    .op ⟨(some 3), (.mv (.tmp 11)), none⟩,
    .op ⟨(some 4), (.mv (.tmp 13)), none⟩]
def r_f165_4 : List SOp :=
   [.op ⟨(some 15), (.mv (.tmp 3)), none⟩,
    .op ⟨(some 16), (.bin .eql (.tmp 15) (.av (.int .i64 32))), none⟩,
    .op ⟨(some 14), (.mv (.tmp 16)), none⟩]
def r_f165_5 : List SOp :=
   [.op ⟨(some 2), (.mv (.av (.int .i64 9))), none⟩]
def r_f165_6 : List SOp :=
   [.op ⟨(some 18), (.mv (.tmp 4)), none⟩,
    .op ⟨(some 19), (.len false (.tmp 18)), none⟩,
    .op ⟨(some 20), (.bin .eql (.tmp 19) (.av (.int .i64 0))), none⟩,
    .op ⟨(some 17), (.mv (.tmp 20)), none⟩]
def r_f165_7 : List SOp :=
   [.op ⟨(some 2), (.mv (.av (.int .i64 2))), none⟩]
def r_f165_8 : List SOp :=
   [.op ⟨(some 21), (.mv (.tmp 4)), none⟩,
    .op ⟨(some 22), (.len false (.tmp 21)), none⟩,
    .op ⟨(some 23), (.mv (.av (.int .i64 0))), none⟩]
def r_f165_9 : List SOp :=
   [.op ⟨(some 24), (.bin .lss (.tmp 23) (.tmp 22)), none⟩]
def r_f165_10 : List SOp :=
   [.op ⟨(some 25), (.mv (.tmp 23)), none⟩,
    .op ⟨(some 26), (.iaddr 2 (.tmp 21) (.tmp 23)), none⟩,
    .op ⟨(some 27), (.load true 2 (.tmp 26)), none⟩,
    .op ⟨(some 6), (.alloc [(.str []), (.str [])]), none⟩,
    .op ⟨(some 5), (.mv (.tmp 25)), none⟩,
    .op ⟨none, (.store 2 (.tmp 6) (.tmp 27)), none⟩]
def r_f165_11 : List SOp :=
   [.op ⟨(some 29), (.mv (.tmp 5)), none⟩,
    .op ⟨(some 30), (.bin .eql (.tmp 29) (.av (.int .i64 8))), none⟩,
    .op ⟨(some 28), (.mv (.tmp 30)), none⟩]
def r_f165_12 : List SOp :=
   [.op ⟨(some 2), (.mv (.av (.int .i64 9))), none⟩]
def r_f165_13 : List SOp :=
   [.op ⟨(some 32), (.faddr 0 (.tmp 6)), none⟩,
    .op ⟨(some 33), (.load false 1 (.tmp 32)), none⟩,
    .op ⟨(some 34), (.call 209 [(.tmp 33)]), none⟩,
    .op ⟨(some 35), (.un .not (.tmp 34)), none⟩,
    .op ⟨(some 31), (.mv (.tmp 35)), none⟩]
def r_f165_14 : List SOp :=
   [.op ⟨(some 2), (.mv (.av (.int .i64 20))), none⟩]
def r_f165_15 : List SOp :=
   [.op ⟨(some 37), (.mv (.tmp 4)), none⟩,
    .op ⟨(some 38), (.mv (.tmp 5)), none⟩,
    .op ⟨(some 39), (.slV 2 (.tmp 37) none (some (.tmp 38)) none), none⟩,
    .op ⟨(some 40), (.faddr 0 (.tmp 6)), none⟩,
    .op ⟨(some 41), (.load false 1 (.tmp 40)), none⟩,
    .op ⟨(some 42), (.call 210 [(.tmp 39), (.tmp 41)]), none⟩,
    .op ⟨(some 36), (.mv (.tmp 42)), none⟩]
def r_f165_16 : List SOp :=
   [.op ⟨(some 2), (.mv (.av (.int .i64 21))), none⟩]
def r_f165_17 : List SOp :=
   [.op ⟨(some 43), (.bin .add (.tmp 23) (.av (.int .i64 1))), none⟩,
    .op ⟨(some 23), (.mv (.tmp 43)), none⟩]
def r_f165_18 : List SOp :=
   [.op ⟨(some 44), (.bin .add (.tmp 9) (.av (.int .i64 1))), none⟩,
    .op ⟨(some 9), (.mv (.tmp 44)), none⟩]
def r_f165_19 : List SOp :=
   [.op ⟨(some 2), (.mv (.av (.int .i64 0))), none⟩]
def c_f165 : LFun := ⟨45, (.seq (.sreg r_f165_0 [])
  (.seq (.seq (.sreg r_f165_1 [])
  (.block 0 (.loop (.seq (.sreg r_f165_2 [])
  (.seq (.cond (.tmp 10) .skip
  (.exit 0))
  (.seq (.block 1 (.seq (.sreg r_f165_3 [true, true, false, false, false])
  (.seq (.block 2 (.seq (.sreg r_f165_4 [true, false, false])
  (.cond (.tmp 14) (.seq (.sreg r_f165_5 [])
  .ret)
  (.seq (.sreg r_f165_6 [true, false, false, false])
  (.cond (.tmp 17) (.seq (.sreg r_f165_7 [])
  .ret)
  .skip)))))
  (.seq (.sreg r_f165_8 [])
  (.block 3 (.loop (.seq (.sreg r_f165_9 [])
  (.seq (.cond (.tmp 24) .skip
  (.exit 3))
  (.seq (.block 4 (.seq (.sreg r_f165_10 [true, true, false, false, false])
  (.block 5 (.seq (.sreg r_f165_11 [true, false, false])
  (.cond (.tmp 28) (.seq (.sreg r_f165_12 [])
  .ret)
  (.seq (.sreg r_f165_13 [true, false, false, false, false])
  (.cond (.tmp 31) (.seq (.sreg r_f165_14 [])
  .ret)
  (.seq (.sdreg r_f165_15 [.pure, .pure, (.read 0 0), .pure, (.read 0 0)] [true, false, false, false, false, false, false])
  (.cond (.tmp 36) (.seq (.sreg r_f165_16 [])
  .ret)
  .skip)))))))))
  (.sreg r_f165_17 [true, false]))))))))))
  (.sreg r_f165_18 [true, false])))))))
  (.seq (.sreg r_f165_19 [])
  .ret))), [(.tmp 2)]⟩
def o_f165 : Nat → Nat → Nat := fun r i => if r = 15 ∧ i = 5 then 3 else 1
theorem c_f165_eq : lowF Tryz.prog o_f165 165 = some c_f165.raw := by kernel_rfl
theorem c_f165_ok : c_f165.code.okc = true := by kernel_rfl
/-! castellan/dn.written -/
def r_f221_0 : List SOp :=
   [.op ⟨(some 2), (.mv (.av (.str []))), none⟩]
def r_f221_1 : List SOp :=
   [.op ⟨(some 3), (.mv (.av (.sl [] 0 (some 0)))), none⟩]
def r_f221_2 : List SOp :=
   [.op ⟨(some 7), (.mv (.tmp 0)), none⟩,
    .op ⟨(some 8), (.s2b (.tmp 7)), none⟩,
    .op ⟨(some 9), (.len false (.tmp 8)), none⟩,
    .op ⟨(some 10), (.mv (.av (.int .i64 0))), none⟩]
def r_f221_3 : List SOp :=
   [.op ⟨(some 11), (.bin .lss (.tmp 10) (.tmp 9)), none⟩]
def r_f221_4 : List SOp :=
   [.op ⟨(some 12), (.mv (.tmp 10)), none⟩,
    .op ⟨(some 13), (.iaddr 1 (.tmp 8) (.tmp 10)), none⟩,
    .op ⟨(some 14), (.load false 1 (.tmp 13)), none⟩,
    .op ⟨(some 4), (.mv (.tmp 12)), none⟩,
    .op ⟨(some 5), (.mv (.tmp 14)), none⟩]
def r_f221_5 : List SOp :=
   [.op ⟨(some 15), (.mv (.tmp 4)), none⟩,
    .op ⟨(some 16), (.bin .eql (.tmp 15) (.av (.int .i64 0))), none⟩,
    .op ⟨(some 17), (.mv (.tmp 16)), none⟩,
    .grp none 17 true
      [.op ⟨(some 18), (.mv (.tmp 5)), (some (17, true))⟩,
      .op ⟨(some 19), (.bin .eql (.tmp 18) (.av (.int .u8 32))), (some (17, true))⟩,
      .op ⟨(some 20), (.mv (.tmp 19)), (some (17, true))⟩,
      .grp (some (17, true)) 20 false
        [.op ⟨(some 21), (.mv (.tmp 5)), (some (20, false))⟩,
        .op ⟨(some 22), (.bin .eql (.tmp 21) (.av (.int .u8 35))), (some (20, false))⟩]
        23 (.tmp 22)]
      24 (.tmp 23),
    .op ⟨(some 25), (.mv (.tmp 24)), none⟩,
    .grp none 25 false
      [.op ⟨(some 26), (.mv (.tmp 4)), (some (25, false))⟩,
      .op ⟨(some 27), (.mv (.tmp 0)), (some (25, false))⟩,
      .op ⟨(some 28), (.len true (.tmp 27)), (some (25, false))⟩,
      .op ⟨(some 29), (.bin .sub (.tmp 28) (.av (.int .i64 1))), (some (25, false))⟩,
      .op ⟨(some 30), (.bin .eql (.tmp 26) (.tmp 29)), (some (25, false))⟩,
      .op ⟨(some 31), (.mv (.tmp 30)), (some (25, false))⟩,
      .grp (some (25, false)) 31 true
        [.op ⟨(some 32), (.mv (.tmp 5)), (some (31, true))⟩,
        .op ⟨(some 33), (.bin .eql (.tmp 32) (.av (.int .u8 32))), (some (31, true))⟩]
        34 (.tmp 33)]
      35 (.tmp 34),
    .op ⟨(some 6), (.mv (.tmp 35)), none⟩]
def r_f221_6 : List SOp :=
   [.op ⟨(some 37), (.mv (.tmp 5)), none⟩,
    .op ⟨(some 38), (.bin .eql (.tmp 37) (.av (.int .u8 0))), none⟩,
    .op ⟨(some 36), (.mv (.tmp 38)), none⟩]
def r_f221_7 : List SOp :=
   [.op ⟨(some 39), (.mv (.tmp 3)), none⟩,
    .op ⟨(some 40), (.app 1 1 1 [(.int .u8 0)] (.tmp 39) (.av (.str [92, 48, 48]))), none⟩,
    .op ⟨(some 3), (.mv (.tmp 40)), none⟩]
def r_f221_8 : List SOp :=
   [.op ⟨(some 42), (.mv (.tmp 6)), none⟩,
    .op ⟨(some 43), (.mv (.tmp 42)), none⟩,
    .op ⟨(some 44), (.mv (.tmp 5)), (some (43, false))⟩,
    .op ⟨(some 45), (.call 267 [(.av (.str [34, 43, 44, 59, 60, 62, 92])), (.tmp 44)]), (some (43, false))⟩,
    .op ⟨(some 46), (.bin .geq (.tmp 45) (.av (.int .i64 0))), (some (43, false))⟩,
    .op ⟨(some 47), (.pick (.tmp 43) (.av (.bool true)) (.tmp 46)), none⟩,
    .op ⟨(some 41), (.mv (.tmp 47)), none⟩]
def r_f221_9 : List SOp :=
   [.op ⟨(some 48), (.mv (.tmp 3)), none⟩,
    .op ⟨(some 49), (.bslice false 1 1 [(.int .u8 0)] [(0, 1, (.av (.int .u8 92)))]), none⟩,
    .op ⟨(some 50), (.app 1 1 1 [(.int .u8 0)] (.tmp 48) (.tmp 49)), none⟩,
    .op ⟨(some 3), (.mv (.tmp 50)), none⟩]
def r_f221_10 : List SOp :=
   [.op ⟨(some 51), (.mv (.tmp 3)), none⟩,
    .op ⟨(some 52), (.mv (.tmp 5)), none⟩,
    .op ⟨(some 53), (.bslice false 1 1 [(.int .u8 0)] [(0, 1, (.tmp 52))]), none⟩,
    .op ⟨(some 54), (.app 1 1 1 [(.int .u8 0)] (.tmp 51) (.tmp 53)), none⟩,
    .op ⟨(some 3), (.mv (.tmp 54)), none⟩]
def r_f221_11 : List SOp :=
   [.op ⟨(some 55), (.bin .add (.tmp 10) (.av (.int .i64 1))), none⟩,
    .op ⟨(some 10), (.mv (.tmp 55)), none⟩]
def r_f221_12 : List SOp :=
   [.op ⟨(some 56), (.mv (.tmp 3)), none⟩,
    .op ⟨(some 57), (.b2s (.tmp 56)), none⟩,
    .op ⟨(some 2), (.mv (.tmp 57)), none⟩]
def c_f221 : LFun := ⟨58, (.seq (.sreg r_f221_0 [])
  (.seq (.sreg r_f221_1 [])
  (.seq (.seq (.sreg r_f221_2 [true, true, true, false])
  (.block 0 (.loop (.seq (.sreg r_f221_3 [])
  (.seq (.cond (.tmp 11) .skip
  (.exit 0))
  (.seq (.block 1 (.seq (.sreg r_f221_4 [true, true, false, false, false])
  (.seq (.sreg r_f221_5 [true, false, false, false, false, false, false])
  (.seq (.block 2 (.seq (.sreg r_f221_6 [true, false, false])
  (.cond (.tmp 36) (.seq (.sreg r_f221_7 [true, false, false])
  (.exit 1))
  (.seq (.sreg r_f221_8 [true, false, false, false, false, false, false])
  (.cond (.tmp 41) (.sreg r_f221_9 [true, false, false, false])
  .skip)))))
  (.sreg r_f221_10 [true, false, false, false, false])))))
  (.sreg r_f221_11 [true, false])))))))
  (.seq (.sreg r_f221_12 [true, false, false])
  .ret)))), [(.tmp 2)]⟩
def o_f221 : Nat → Nat → Nat := fun _ _ => 1
theorem c_f221_eq : lowF Tryz.prog o_f221 221 = some c_f221.raw := by kernel_rfl
theorem c_f221_ok : c_f221.code.okc = true := by kernel_rfl
/-! slices.Sort[[]string,string] -/
def r_f222_0 : List SOp :=
   [.op ⟨(some 3), (.mv (.tmp 0)), none⟩,
    .op ⟨(some 4), (.len false (.tmp 3)), none⟩,
    .op ⟨(some 2), (.mv (.tmp 4)), none⟩]
def r_f222_1 : List SOp :=
   [.op ⟨(some 5), (.mv (.tmp 0)), none⟩,
    .op ⟨(some 6), (.mv (.tmp 2)), none⟩,
    .op ⟨(some 7), (.mv (.tmp 2)), none⟩,
    .op ⟨(some 8), (.conv .u64 (.tmp 7)), none⟩,
    .op ⟨(some 9), (.call 145 [(.tmp 8)]), none⟩,
    .op ⟨(some 10), (.call 279 [(.tmp 5), (.av (.int .i64 0)), (.tmp 6), (.tmp 9)]), none⟩]
def c_f222 : LFun := ⟨11, (.seq (.sreg r_f222_0 [true, false, false])
  (.sreg r_f222_1 [false, false, false, false, false, false])), []⟩
def o_f222 : Nat → Nat → Nat := fun _ _ => 1
theorem c_f222_eq : lowF Tryz.prog o_f222 222 = some c_f222.raw := by kernel_rfl
theorem c_f222_ok : c_f222.code.okc = true := by kernel_rfl
/-! strings.Join -/
def r_f180_0 : List SOp :=
   [.op ⟨(some 4), (.mv (.av (.str []))), none⟩]
def r_f180_1 : List SOp :=
   [.op ⟨(some 11), (.mv (.tmp 0)), none⟩,
    .op ⟨(some 12), (.len false (.tmp 11)), none⟩]
def r_f180_2 : List SOp :=
   [.op ⟨(some 14), (.bin .eql (.tmp 12) (.av (.int .i64 0))), none⟩,
    .op ⟨(some 13), (.mv (.tmp 14)), none⟩]
def r_f180_3 : List SOp :=
   [.op ⟨(some 4), (.mv (.av (.str []))), none⟩]
def r_f180_4 : List SOp :=
   [.op ⟨(some 16), (.bin .eql (.tmp 12) (.av (.int .i64 1))), none⟩,
    .op ⟨(some 15), (.mv (.tmp 16)), none⟩]
def r_f180_5 : List SOp :=
   [.op ⟨(some 17), (.mv (.tmp 0)), none⟩,
    .op ⟨(some 18), (.iaddr 1 (.tmp 17) (.av (.int .i64 0))), none⟩,
    .op ⟨(some 19), (.load false 1 (.tmp 18)), none⟩,
    .op ⟨(some 4), (.mv (.tmp 19)), none⟩]
def r_f180_6 : List SOp :=
   [.op ⟨(some 5), (.mv (.av (.int .i64 0))), none⟩]
def r_f180_7 : List SOp :=
   [.op ⟨(some 20), (.mv (.tmp 1)), none⟩,
    .op ⟨(some 21), (.len true (.tmp 20)), none⟩,
    .op ⟨(some 22), (.bin .gtr (.tmp 21) (.av (.int .i64 0))), none⟩]
def r_f180_8 : List SOp :=
   [.op ⟨(some 23), (.mv (.tmp 1)), none⟩,
    .op ⟨(some 24), (.len true (.tmp 23)), none⟩,
    .op ⟨(some 25), (.mv (.tmp 0)), none⟩,
    .op ⟨(some 26), (.len false (.tmp 25)), none⟩,
    .op ⟨(some 27), (.bin .sub (.tmp 26) (.av (.int .i64 1))), none⟩,
    .op ⟨(some 28), (.bin .quo (.av (.int .i64 9223372036854775807)) (.tmp 27)), none⟩,
    .op ⟨(some 29), (.bin .geq (.tmp 24) (.tmp 28)), none⟩]
def r_f180_9 : List SOp :=
   [.op ⟨(some 30), (.mkif 9 (.av (.str [115, 116, 114, 105, 110, 103, 115, 58, 32, 74, 111, 105, 110, 32, 111, 117, 116, 112, 117, 116, 32, 108, 101, 110, 103, 116, 104, 32, 111, 118, 101, 114, 102, 108, 111, 119]))), none⟩,
    .op ⟨none, .bad, none⟩]
def r_f180_10 : List SOp :=
   [.op ⟨(some 31), (.mv (.tmp 5)), none⟩,
    .op ⟨(some 32), (.mv (.tmp 1)), none⟩,
    .op ⟨(some 33), (.len true (.tmp 32)), none⟩,
    .op ⟨(some 34), (.mv (.tmp 0)), none⟩,
    .op ⟨(some 35), (.len false (.tmp 34)), none⟩,
    .op ⟨(some 36), (.bin .sub (.tmp 35) (.av (.int .i64 1))), none⟩,
    .op ⟨(some 37), (.bin .mul (.tmp 33) (.tmp 36)), none⟩,
    .op ⟨(some 38), (.bin .add (.tmp 31) (.tmp 37)), none⟩,
    .op ⟨(some 5), (.mv (.tmp 38)), none⟩]
def r_f180_11 : List SOp :=
   [.op ⟨(some 39), (.mv (.tmp 0)), none⟩,
    .op ⟨(some 40), (.len false (.tmp 39)), none⟩,
    .op ⟨(some 41), (.mv (.av (.int .i64 0))), none⟩]
def r_f180_12 : List SOp :=
   [.op ⟨(some 42), (.bin .lss (.tmp 41) (.tmp 40)), none⟩]
def r_f180_13 : List SOp :=
   [.op ⟨(some 43), (.iaddr 1 (.tmp 39) (.tmp 41)), none⟩,
    .op ⟨(some 44), (.load false 1 (.tmp 43)), none⟩,
    .op ⟨(some 7), (.mv (.tmp 44)), none⟩]
def r_f180_14 : List SOp :=
   [.op ⟨(some 45), (.mv (.tmp 7)), none⟩,
    .op ⟨(some 46), (.len true (.tmp 45)), none⟩,
    .op ⟨(some 47), (.mv (.tmp 5)), none⟩,
    .op ⟨(some 48), (.bin .sub (.av (.int .i64 9223372036854775807)) (.tmp 47)), none⟩,
    .op ⟨(some 49), (.bin .gtr (.tmp 46) (.tmp 48)), none⟩]
def r_f180_15 : List SOp :=
   [.op ⟨(some 50), (.mkif 9 (.av (.str [115, 116, 114, 105, 110, 103, 115, 58, 32, 74, 111, 105, 110, 32, 111, 117, 116, 112, 117, 116, 32, 108, 101, 110, 103, 116, 104, 32, 111, 118, 101, 114, 102, 108, 111, 119]))), none⟩,
    .op ⟨none, .bad, none⟩]
def r_f180_16 : List SOp :=
   [.op ⟨(some 51), (.mv (.tmp 5)), none⟩,
    .op ⟨(some 52), (.mv (.tmp 7)), none⟩,
    .op ⟨(some 53), (.len true (.tmp 52)), none⟩,
    .op ⟨(some 54), (.bin .add (.tmp 51) (.tmp 53)), none⟩,
    .op ⟨(some 5), (.mv (.tmp 54)), none⟩]
def r_f180_17 : List SOp :=
   [.op ⟨(some 55), (.bin .add (.tmp 41) (.av (.int .i64 1))), none⟩,
    .op ⟨(some 41), (.mv (.tmp 55)), none⟩]
def r_f180_18 : List SOp :=
   [.op ⟨(some 8), (.alloc [.nilptr, (.sl [] 0 (some 0))]), none⟩]
def r_f180_19 : List SOp :=
   [.op ⟨(some 56), (.mv (.tmp 5)), none⟩,
    .op ⟨(some 57), (.call 227 [(.tmp 8), (.tmp 56)]), none⟩]
def r_f180_20 : List SOp :=
   [.op ⟨(some 58), (.mv (.tmp 0)), none⟩,
    .op ⟨(some 59), (.iaddr 1 (.tmp 58) (.av (.int .i64 0))), none⟩,
    .op ⟨(some 60), (.load false 1 (.tmp 59)), none⟩,
    .op ⟨(some 61), (.call 228 [(.tmp 8), (.tmp 60)]), none⟩]
def r_f180_21 : List SOp :=
   [.op ⟨(some 62), (.mv (.tmp 0)), none⟩,
    .op ⟨(some 63), (.slV 1 (.tmp 62) (some (.av (.int .i64 1))) none none), none⟩,
    .op ⟨(some 64), (.len false (.tmp 63)), none⟩,
    .op ⟨(some 65), (.mv (.av (.int .i64 0))), none⟩]
def r_f180_22 : List SOp :=
   [.op ⟨(some 66), (.bin .lss (.tmp 65) (.tmp 64)), none⟩]
def r_f180_23 : List SOp :=
   [.op ⟨(some 67), (.iaddr 1 (.tmp 63) (.tmp 65)), none⟩,
    .op ⟨(some 68), (.load false 1 (.tmp 67)), none⟩,
    .op ⟨(some 10), (.mv (.tmp 68)), none⟩]
def r_f180_24 : List SOp :=
   [.op ⟨(some 69), (.mv (.tmp 1)), none⟩,
    .op ⟨(some 70), (.call 228 [(.tmp 8), (.tmp 69)]), none⟩]
def r_f180_25 : List SOp :=
   [.op ⟨(some 71), (.mv (.tmp 10)), none⟩,
    .op ⟨(some 72), (.call 228 [(.tmp 8), (.tmp 71)]), none⟩]
def r_f180_26 : List SOp :=
   [.op ⟨(some 73), (.bin .add (.tmp 65) (.av (.int .i64 1))), none⟩,
    .op ⟨(some 65), (.mv (.tmp 73)), none⟩]
def r_f180_27 : List SOp :=
   [.op ⟨(some 74), (.call 230 [(.tmp 8)]), none⟩,
    .op ⟨(some 4), (.mv (.tmp 74)), none⟩]
def c_f180 : LFun := ⟨75, (.seq (.sreg r_f180_0 [])
  (.seq (.seq (.sreg r_f180_1 [true, false])
  (.block 0 (.seq (.sreg r_f180_2 [true, false])
  (.cond (.tmp 13) (.seq (.sreg r_f180_3 [])
  .ret)
  (.seq (.sreg r_f180_4 [true, false])
  (.cond (.tmp 15) (.seq (.sreg r_f180_5 [true, false, false, false])
  .ret)
  .skip))))))
  (.seq (.sreg r_f180_6 [])
  (.seq (.seq (.sreg r_f180_7 [true, false, false])
  (.cond (.tmp 22) (.seq (.seq (.sreg r_f180_8 [true, false, false, false, false, false, false])
  (.cond (.tmp 29) (.sreg r_f180_9 [false])
  .skip))
  (.sreg r_f180_10 [true, false, false, false, false, false, false, false, false]))
  .skip))
  (.seq (.seq (.sreg r_f180_11 [])
  (.block 1 (.loop (.seq (.sreg r_f180_12 [])
  (.seq (.cond (.tmp 42) .skip
  (.exit 1))
  (.seq (.block 2 (.seq (.sreg r_f180_13 [true, false, false])
  (.seq (.seq (.sreg r_f180_14 [true, false, false, false, false])
  (.cond (.tmp 49) (.sreg r_f180_15 [false])
  .skip))
  (.sreg r_f180_16 [true, false, false, false, false]))))
  (.sreg r_f180_17 [true, false])))))))
  (.seq (.sreg r_f180_18 [])
  (.seq (.sreg r_f180_19 [false, false])
  (.seq (.sreg r_f180_20 [false, false, false, false])
  (.seq (.seq (.sreg r_f180_21 [true, true, true, false])
  (.block 3 (.loop (.seq (.sreg r_f180_22 [])
  (.seq (.cond (.tmp 66) .skip
  (.exit 3))
  (.seq (.block 4 (.seq (.sreg r_f180_23 [true, false, false])
  (.seq (.sreg r_f180_24 [false, false])
  (.sreg r_f180_25 [false, false]))))
  (.sreg r_f180_26 [true, false])))))))
  (.seq (.sreg r_f180_27 [true, false])
  .ret)))))))))), [(.tmp 4)]⟩
def o_f180 : Nat → Nat → Nat := fun _ _ => 1
theorem c_f180_eq : lowF Tryz.prog o_f180 180 = some c_f180.raw := by kernel_rfl
theorem c_f180_ok : c_f180.code.okc = true := by kernel_rfl
/-! internal/stringslite.IndexByte -/
def r_f311_0 : List SOp :=
   [.op ⟨(some 4), (.mv (.av (.int .i64 0))), none⟩]
def r_f311_1 : List SOp :=
   [.op ⟨(some 5), (.mv (.tmp 0)), none⟩,
    .op ⟨(some 6), (.mv (.tmp 1)), none⟩,
    .op ⟨(some 7), (.call 337 [(.tmp 5), (.tmp 6)]), none⟩,
    .op ⟨(some 4), (.mv (.tmp 7)), none⟩]
def c_f311 : LFun := ⟨8, (.seq (.sreg r_f311_0 [])
  (.seq (.sreg r_f311_1 [true, false, false, false])
  .ret)), [(.tmp 4)]⟩
def o_f311 : Nat → Nat → Nat := fun _ _ => 1
theorem c_f311_eq : lowF Tryz.prog o_f311 311 = some c_f311.raw := by kernel_rfl
theorem c_f311_ok : c_f311.code.okc = true := by kernel_rfl
/-! internal/bytealg.Cutover -/
def r_f314_0 : List SOp :=
   [.op ⟨(some 2), (.mv (.av (.int .i64 0))), none⟩]
def r_f314_1 : List SOp :=
   [.op ⟨(some 3), (.mv (.tmp 0)), none⟩,
    .op ⟨(some 4), (.bin .add (.tmp 3) (.av (.int .i64 16))), none⟩,
    .op ⟨(some 5), (.bin .quo (.tmp 4) (.av (.int .i64 8))), none⟩,
    .op ⟨(some 2), (.mv (.tmp 5)), none⟩]
def c_f314 : LFun := ⟨6, (.seq (.sreg r_f314_0 [])
  (.seq (.sreg r_f314_1 [true, false, false, false])
  .ret)), [(.tmp 2)]⟩
def o_f314 : Nat → Nat → Nat := fun _ _ => 1
theorem c_f314_eq : lowF Tryz.prog o_f314 314 = some c_f314.raw := by kernel_rfl
theorem c_f314_ok : c_f314.code.okc = true := by kernel_rfl
/-! internal/bytealg.IndexRabinKarp[string] -/
def r_f315_0 : List SOp :=
   [.op ⟨(some 4), (.mv (.av (.int .i64 0))), none⟩]
def r_f315_1 : List SOp :=
   [.op ⟨(some 12), (.mv (.tmp 1)), none⟩,
    .op ⟨(some 13), (.call 338 [(.tmp 12)]), none⟩,
    .op ⟨(some 11), (.mv (.tmp 13)), none⟩,
    .op ⟨(some 14), (.extract (.tmp 11) 0), none⟩,
    .op ⟨(some 15), (.extract (.tmp 11) 1), none⟩,
    .op ⟨(some 5), (.mv (.tmp 14)), none⟩,
    .op ⟨(some 6), (.mv (.tmp 15)), none⟩]
def r_f315_2 : List SOp :=
   [.op ⟨(some 16), (.mv (.tmp 1)), none⟩,
    .op ⟨(some 17), (.len true (.tmp 16)), none⟩,
    .op ⟨(some 7), (.mv (.tmp 17)), none⟩]
def r_f315_3 : List SOp :=
   [.op ⟨(some 8), (.mv (.av (.int .u32 0))), none⟩]
def r_f315_4 : List SOp :=
   [.op ⟨(some 9), (.mv (.av (.int .i64 0))), none⟩]
def r_f315_5 : List SOp :=
   [.op ⟨(some 18), (.mv (.tmp 9)), none⟩,
    .op ⟨(some 19), (.mv (.tmp 7)), none⟩,
    .op ⟨(some 20), (.bin .lss (.tmp 18) (.tmp 19)), none⟩]
def r_f315_6 : List SOp :=
   [.op ⟨(some 23), (.mv (.tmp 8)), none⟩,
    .op ⟨(some 24), (.bin .mul (.tmp 23) (.av (.int .u32 16777619))), none⟩,
    .op ⟨(some 25), (.mv (.tmp 0)), none⟩,
    .op ⟨(some 26), (.mv (.tmp 9)), none⟩,
    .op ⟨(some 27), (.idxS (.tmp 25) (.tmp 26)), none⟩,
    .op ⟨(some 28), (.conv .u32 (.tmp 27)), none⟩,
    .op ⟨(some 29), (.bin .add (.tmp 24) (.tmp 28)), none⟩,
    .op ⟨(some 8), (.mv (.tmp 29)), none⟩]
def r_f315_7 : List SOp :=
   [.op ⟨(some 21), (.mv (.tmp 9)), none⟩,
    .op ⟨(some 22), (.bin .add (.tmp 21) (.av (.int .i64 1))), none⟩,
    .op ⟨(some 9), (.mv (.tmp 22)), none⟩]
def r_f315_8 : List SOp :=
   [.op ⟨(some 30), (.mv (.tmp 8)), none⟩,
    .op ⟨(some 31), (.mv (.tmp 5)), none⟩,
    .op ⟨(some 32), (.bin .eql (.tmp 30) (.tmp 31)), none⟩,
    .op ⟨(some 33), (.mv (.tmp 32)), none⟩,
    .grp none 33 true
      [.op ⟨(some 34), (.mv (.tmp 0)), (some (33, true))⟩,
      .op ⟨(some 35), (.mv (.tmp 7)), (some (33, true))⟩,
      .op ⟨(some 36), (.slS (.tmp 34) none (some (.tmp 35))), (some (33, true))⟩,
      .op ⟨(some 37), (.mv (.tmp 1)), (some (33, true))⟩,
      .op ⟨(some 38), (.bin .eql (.tmp 36) (.tmp 37)), (some (33, true))⟩]
      39 (.tmp 38)]
def r_f315_9 : List SOp :=
   [.op ⟨(some 4), (.mv (.av (.int .i64 0))), none⟩]
def r_f315_10 : List SOp :=
   [.op ⟨(some 40), (.mv (.tmp 7)), none⟩,
    .op ⟨(some 10), (.mv (.tmp 40)), none⟩]
def r_f315_11 : List SOp :=
   [.op ⟨(some 41), (.mv (.tmp 10)), none⟩,
    .op ⟨(some 42), (.mv (.tmp 0)), none⟩,
    .op ⟨(some 43), (.len true (.tmp 42)), none⟩,
    .op ⟨(some 44), (.bin .lss (.tmp 41) (.tmp 43)), none⟩]
def r_f315_12 : List SOp :=
   [.op ⟨(some 45), (.mv (.tmp 8)), none⟩,
    .op ⟨(some 46), (.bin .mul (.tmp 45) (.av (.int .u32 16777619))), none⟩,
    .op ⟨(some 8), (.mv (.tmp 46)), none⟩]
def r_f315_13 : List SOp :=
   [.op ⟨(some 47), (.mv (.tmp 8)), none⟩,
    .op ⟨(some 48), (.mv (.tmp 0)), none⟩,
    .op ⟨(some 49), (.mv (.tmp 10)), none⟩,
    .op ⟨(some 50), (.idxS (.tmp 48) (.tmp 49)), none⟩,
    .op ⟨(some 51), (.conv .u32 (.tmp 50)), none⟩,
    .op ⟨(some 52), (.bin .add (.tmp 47) (.tmp 51)), none⟩,
    .op ⟨(some 8), (.mv (.tmp 52)), none⟩]
def r_f315_14 : List SOp :=
   [.op ⟨(some 53), (.mv (.tmp 8)), none⟩,
    .op ⟨(some 54), (.mv (.tmp 6)), none⟩,
    .op ⟨(some 55), (.mv (.tmp 0)), none⟩,
    .op ⟨(some 56), (.mv (.tmp 10)), none⟩,
    .op ⟨(some 57), (.mv (.tmp 7)), none⟩,
    .op ⟨(some 58), (.bin .sub (.tmp 56) (.tmp 57)), none⟩,
    .op ⟨(some 59), (.idxS (.tmp 55) (.tmp 58)), none⟩,
    .op ⟨(some 60), (.conv .u32 (.tmp 59)), none⟩,
    .op ⟨(some 61), (.bin .mul (.tmp 54) (.tmp 60)), none⟩,
    .op ⟨(some 62), (.bin .sub (.tmp 53) (.tmp 61)), none⟩,
    .op ⟨(some 8), (.mv (.tmp 62)), none⟩]
def r_f315_15 : List SOp :=
   [.op ⟨(some 63), (.mv (.tmp 10)), none⟩,
    .op ⟨(some 64), (.bin .add (.tmp 63) (.av (.int .i64 1))), none⟩,
    .op ⟨(some 10), (.mv (.tmp 64)), none⟩]
def r_f315_16 : List SOp :=
   [.op ⟨(some 65), (.mv (.tmp 8)), none⟩,
    .op ⟨(some 66), (.mv (.tmp 5)), none⟩,
    .op ⟨(some 67), (.bin .eql (.tmp 65) (.tmp 66)), none⟩,
    .op ⟨(some 68), (.mv (.tmp 67)), none⟩,
    .grp none 68 true
      [.op ⟨(some 69), (.mv (.tmp 0)), (some (68, true))⟩,
      .op ⟨(some 70), (.mv (.tmp 10)), (some (68, true))⟩,
      .op ⟨(some 71), (.mv (.tmp 7)), (some (68, true))⟩,
      .op ⟨(some 72), (.bin .sub (.tmp 70) (.tmp 71)), (some (68, true))⟩,
      .op ⟨(some 73), (.mv (.tmp 10)), (some (68, true))⟩,
      .op ⟨(some 74), (.slS (.tmp 69) (some (.tmp 72)) (some (.tmp 73))), (some (68, true))⟩,
      .op ⟨(some 75), (.mv (.tmp 1)), (some (68, true))⟩,
      .op ⟨(some 76), (.bin .eql (.tmp 74) (.tmp 75)), (some (68, true))⟩]
      77 (.tmp 76)]
def r_f315_17 : List SOp :=
   [.op ⟨(some 78), (.mv (.tmp 10)), none⟩,
    .op ⟨(some 79), (.mv (.tmp 7)), none⟩,
    .op ⟨(some 80), (.bin .sub (.tmp 78) (.tmp 79)), none⟩,
    .op ⟨(some 4), (.mv (.tmp 80)), none⟩]
def r_f315_18 : List SOp :=
   [.op ⟨(some 4), (.mv (.av (.int .i64 (-1)))), none⟩]
def c_f315 : LFun := ⟨81, (.seq (.sreg r_f315_0 [])
  (.seq (.sreg r_f315_1 [true, true, false, false, false, false, false])
  (.seq (.sreg r_f315_2 [true, false, false])
  (.seq (.sreg r_f315_3 [])
  (.seq (.seq (.sreg r_f315_4 [])
  (.block 0 (.loop (.seq (.seq (.sreg r_f315_5 [true, false, false])
  (.cond (.tmp 20) .skip
  (.exit 0)))
  (.seq (.block 1 (.sreg r_f315_6 [true, false, false, false, false, false, false, false]))
  (.sreg r_f315_7 [true, false, false]))))))
  (.seq (.seq (.sreg r_f315_8 [true, false, false, false, false])
  (.cond (.tmp 39) (.seq (.sreg r_f315_9 [])
  .ret)
  .skip))
  (.seq (.seq (.sreg r_f315_10 [true, false])
  (.block 2 (.loop (.seq (.seq (.sreg r_f315_11 [true, false, false, false])
  (.cond (.tmp 44) .skip
  (.exit 2)))
  (.block 3 (.seq (.sreg r_f315_12 [true, false, false])
  (.seq (.sreg r_f315_13 [true, false, false, false, false, false, false])
  (.seq (.sreg r_f315_14 [true, false, false, false, false, false, false, false, false, false, false])
  (.seq (.sreg r_f315_15 [true, false, false])
  (.seq (.sreg r_f315_16 [true, false, false, false, false])
  (.cond (.tmp 77) (.seq (.sreg r_f315_17 [true, false, false, false])
  .ret)
  .skip)))))))))))
  (.seq (.sreg r_f315_18 [])
  .ret)))))))), [(.tmp 4)]⟩
def o_f315 : Nat → Nat → Nat := fun _ _ => 1
theorem c_f315_eq : lowF Tryz.prog o_f315 315 = some c_f315.raw := by kernel_rfl
theorem c_f315_ok : c_f315.code.okc = true := by kernel_rfl
/-! internal/strconv.lower -/
def r_f301_0 : List SOp :=
   [.op ⟨(some 2), (.mv (.av (.int .u8 0))), none⟩]
def r_f301_1 : List SOp :=
   [.op ⟨(some 3), (.mv (.tmp 0)), none⟩,
    .op ⟨(some 4), (.bin .or (.tmp 3) (.av (.int .u8 32))), none⟩,
    .op ⟨(some 2), (.mv (.tmp 4)), none⟩]
def c_f301 : LFun := ⟨5, (.seq (.sreg r_f301_0 [])
  (.seq (.sreg r_f301_1 [true, false, false])
  .ret)), [(.tmp 2)]⟩
def o_f301 : Nat → Nat → Nat := fun _ _ => 1
theorem c_f301_eq : lowF Tryz.prog o_f301 301 = some c_f301.raw := by kernel_rfl
theorem c_f301_ok : c_f301.code.okc = true := by kernel_rfl
/-! internal/strconv.underscoreOK -/
def r_f302_0 : List SOp :=
   [.op ⟨(some 2), (.mv (.av (.bool false))), none⟩]
def r_f302_1 : List SOp :=
   [.op ⟨(some 3), (.mv (.av (.int .i32 94))), none⟩]
def r_f302_2 : List SOp :=
   [.op ⟨(some 4), (.mv (.av (.int .i64 0))), none⟩]
def r_f302_3 : List SOp :=
   [.op ⟨(some 6), (.mv (.tmp 0)), none⟩,
    .op ⟨(some 7), (.len true (.tmp 6)), none⟩,
    .op ⟨(some 8), (.bin .geq (.tmp 7) (.av (.int .i64 1))), none⟩,
    .op ⟨(some 9), (.mv (.tmp 8)), none⟩,
    .grp none 9 true
      [.op ⟨(some 10), (.mv (.tmp 0)), (some (9, true))⟩,
      .op ⟨(some 11), (.idxS (.tmp 10) (.av (.int .i64 0))), (some (9, true))⟩,
      .op ⟨(some 12), (.bin .eql (.tmp 11) (.av (.int .u8 45))), (some (9, true))⟩,
      .op ⟨(some 13), (.mv (.tmp 12)), (some (9, true))⟩,
      .grp (some (9, true)) 13 false
        [.op ⟨(some 14), (.mv (.tmp 0)), (some (13, false))⟩,
        .op ⟨(some 15), (.idxS (.tmp 14) (.av (.int .i64 0))), (some (13, false))⟩,
        .op ⟨(some 16), (.bin .eql (.tmp 15) (.av (.int .u8 43))), (some (13, false))⟩]
        17 (.tmp 16)]
      18 (.tmp 17)]
def r_f302_4 : List SOp :=
   [.op ⟨(some 19), (.mv (.tmp 0)), none⟩,
    .op ⟨(some 20), (.slS (.tmp 19) (some (.av (.int .i64 1))) none), none⟩,
    .op ⟨(some 0), (.mv (.tmp 20)), none⟩]
def r_f302_5 : List SOp :=
   [.op ⟨(some 5), (.mv (.av (.bool false))), none⟩]
def r_f302_6 : List SOp :=
   [.op ⟨(some 21), (.mv (.tmp 0)), none⟩,
    .op ⟨(some 22), (.len true (.tmp 21)), none⟩,
    .op ⟨(some 23), (.bin .geq (.tmp 22) (.av (.int .i64 2))), none⟩,
    .op ⟨(some 24), (.mv (.tmp 23)), none⟩,
    .op ⟨(some 25), (.mv (.tmp 0)), (some (24, true))⟩,
    .op ⟨(some 26), (.idxS (.tmp 25) (.av (.int .i64 0))), (some (24, true))⟩,
    .op ⟨(some 27), (.bin .eql (.tmp 26) (.av (.int .u8 48))), (some (24, true))⟩,
    .op ⟨(some 28), (.pick (.tmp 24) (.tmp 27) (.av (.bool false))), none⟩,
    .op ⟨(some 29), (.mv (.tmp 28)), none⟩,
    .op ⟨(some 30), (.mv (.tmp 0)), (some (29, true))⟩,
    .op ⟨(some 31), (.idxS (.tmp 30) (.av (.int .i64 1))), (some (29, true))⟩,
    .op ⟨(some 32), (.call 301 [(.tmp 31)]), (some (29, true))⟩,
    .op ⟨(some 33), (.bin .eql (.tmp 32) (.av (.int .u8 98))), (some (29, true))⟩,
    .op ⟨(some 34), (.mv (.tmp 33)), (some (29, true))⟩,
    .op ⟨(some 35), (.mv (.tmp 0)), (some (34, false))⟩,
    .op ⟨(some 36), (.idxS (.tmp 35) (.av (.int .i64 1))), (some (34, false))⟩,
    .op ⟨(some 37), (.call 301 [(.tmp 36)]), (some (34, false))⟩,
    .op ⟨(some 38), (.bin .eql (.tmp 37) (.av (.int .u8 111))), (some (34, false))⟩,
    .op ⟨(some 39), (.pick (.tmp 34) (.av (.bool true)) (.tmp 38)), (some (29, true))⟩,
    .op ⟨(some 40), (.mv (.tmp 39)), (some (29, true))⟩,
    .op ⟨(some 41), (.mv (.tmp 0)), (some (40, false))⟩,
    .op ⟨(some 42), (.idxS (.tmp 41) (.av (.int .i64 1))), (some (40, false))⟩,
    .op ⟨(some 43), (.call 301 [(.tmp 42)]), (some (40, false))⟩,
    .op ⟨(some 44), (.bin .eql (.tmp 43) (.av (.int .u8 120))), (some (40, false))⟩,
    .op ⟨(some 45), (.pick (.tmp 40) (.av (.bool true)) (.tmp 44)), (some (29, true))⟩,
    .op ⟨(some 46), (.pick (.tmp 29) (.tmp 45) (.av (.bool false))), none⟩]
def r_f302_7 : List SOp :=
   [.op ⟨(some 4), (.mv (.av (.int .i64 2))), none⟩]
def r_f302_8 : List SOp :=
   [.op ⟨(some 3), (.mv (.av (.int .i32 48))), none⟩]
def r_f302_9 : List SOp :=
   [.op ⟨(some 47), (.mv (.tmp 0)), none⟩,
    .op ⟨(some 48), (.idxS (.tmp 47) (.av (.int .i64 1))), none⟩,
    .op ⟨(some 49), (.call 301 [(.tmp 48)]), none⟩,
    .op ⟨(some 50), (.bin .eql (.tmp 49) (.av (.int .u8 120))), none⟩,
    .op ⟨(some 5), (.mv (.tmp 50)), none⟩]
def r_f302_10 : List SOp :=
   [.op ⟨(some 51), (.mv (.tmp 4)), none⟩,
    .op ⟨(some 52), (.mv (.tmp 0)), none⟩,
    .op ⟨(some 53), (.len true (.tmp 52)), none⟩,
    .op ⟨(some 54), (.bin .lss (.tmp 51) (.tmp 53)), none⟩]
def r_f302_11 : List SOp :=
   [.op ⟨(some 57), (.mv (.tmp 0)), none⟩,
    .op ⟨(some 58), (.mv (.tmp 4)), none⟩,
    .op ⟨(some 59), (.idxS (.tmp 57) (.tmp 58)), none⟩,
    .op ⟨(some 60), (.bin .leq (.av (.int .u8 48)) (.tmp 59)), none⟩,
    .op ⟨(some 61), (.mv (.tmp 60)), none⟩,
    .op ⟨(some 62), (.mv (.tmp 0)), (some (61, true))⟩,
    .op ⟨(some 63), (.mv (.tmp 4)), (some (61, true))⟩,
    .op ⟨(some 64), (.idxS (.tmp 62) (.tmp 63)), (some (61, true))⟩,
    .op ⟨(some 65), (.bin .leq (.tmp 64) (.av (.int .u8 57))), (some (61, true))⟩,
    .op ⟨(some 66), (.pick (.tmp 61) (.tmp 65) (.av (.bool false))), none⟩,
    .op ⟨(some 67), (.mv (.tmp 66)), none⟩,
    .op ⟨(some 68), (.mv (.tmp 5)), (some (67, false))⟩,
    .op ⟨(some 69), (.mv (.tmp 68)), (some (67, false))⟩,
    .op ⟨(some 70), (.mv (.tmp 0)), (some (69, true))⟩,
    .op ⟨(some 71), (.mv (.tmp 4)), (some (69, true))⟩,
    .op ⟨(some 72), (.idxS (.tmp 70) (.tmp 71)), (some (69, true))⟩,
    .op ⟨(some 73), (.call 301 [(.tmp 72)]), (some (69, true))⟩,
    .op ⟨(some 74), (.bin .leq (.av (.int .u8 97)) (.tmp 73)), (some (69, true))⟩,
    .op ⟨(some 75), (.pick (.tmp 69) (.tmp 74) (.av (.bool false))), (some (67, false))⟩,
    .op ⟨(some 76), (.mv (.tmp 75)), (some (67, false))⟩,
    .op ⟨(some 77), (.mv (.tmp 0)), (some (76, true))⟩,
    .op ⟨(some 78), (.mv (.tmp 4)), (some (76, true))⟩,
    .op ⟨(some 79), (.idxS (.tmp 77) (.tmp 78)), (some (76, true))⟩,
    .op ⟨(some 80), (.call 301 [(.tmp 79)]), (some (76, true))⟩,
    .op ⟨(some 81), (.bin .leq (.tmp 80) (.av (.int .u8 102))), (some (76, true))⟩,
    .op ⟨(some 82), (.pick (.tmp 76) (.tmp 81) (.av (.bool false))), (some (67, false))⟩,
    .op ⟨(some 83), (.pick (.tmp 67) (.av (.bool true)) (.tmp 82)), none⟩]
def r_f302_12 : List SOp :=
   [.op ⟨(some 3), (.mv (.av (.int .i32 48))), none⟩]
def r_f302_13 : List SOp :=
   [.op ⟨(some 84), (.mv (.tmp 0)), none⟩,
    .op ⟨(some 85), (.mv (.tmp 4)), none⟩,
    .op ⟨(some 86), (.idxS (.tmp 84) (.tmp 85)), none⟩,
    .op ⟨(some 87), (.bin .eql (.tmp 86) (.av (.int .u8 95))), none⟩]
def r_f302_14 : List SOp :=
   [.op ⟨(some 88), (.mv (.tmp 3)), none⟩,
    .op ⟨(some 89), (.bin .neq (.tmp 88) (.av (.int .i32 48))), none⟩]
def r_f302_15 : List SOp :=
   [.op ⟨(some 2), (.mv (.av (.bool false))), none⟩]
def r_f302_16 : List SOp :=
   [.op ⟨(some 3), (.mv (.av (.int .i32 95))), none⟩]
def r_f302_17 : List SOp :=
   [.op ⟨(some 90), (.mv (.tmp 3)), none⟩,
    .op ⟨(some 91), (.bin .eql (.tmp 90) (.av (.int .i32 95))), none⟩]
def r_f302_18 : List SOp :=
   [.op ⟨(some 2), (.mv (.av (.bool false))), none⟩]
def r_f302_19 : List SOp :=
   [.op ⟨(some 3), (.mv (.av (.int .i32 33))), none⟩]
def r_f302_20 : List SOp :=
   [.op ⟨(some 55), (.mv (.tmp 4)), none⟩,
    .op ⟨(some 56), (.bin .add (.tmp 55) (.av (.int .i64 1))), none⟩,
    .op ⟨(some 4), (.mv (.tmp 56)), none⟩]
def r_f302_21 : List SOp :=
   [.op ⟨(some 92), (.mv (.tmp 3)), none⟩,
    .op ⟨(some 93), (.bin .neq (.tmp 92) (.av (.int .i32 95))), none⟩,
    .op ⟨(some 2), (.mv (.tmp 93)), none⟩]
def c_f302 : LFun := ⟨94, (.seq (.sreg r_f302_0 [])
  (.seq (.sreg r_f302_1 [])
  (.seq (.sreg r_f302_2 [])
  (.seq (.seq (.sreg r_f302_3 [true, false, false, false, false])
  (.cond (.tmp 18) (.sreg r_f302_4 [true, false, false])
  .skip))
  (.seq (.sreg r_f302_5 [])
  (.seq (.seq (.sreg r_f302_6 [true, false, false, false, false, false, false, false, false, false, false, false, false, false, false, false, false, false, false, false, false, false, false, false, false, false])
  (.cond (.tmp 46) (.seq (.sreg r_f302_7 [])
  (.seq (.sreg r_f302_8 [])
  (.sreg r_f302_9 [true, false, false, false, false])))
  .skip))
  (.seq (.block 0 (.loop (.seq (.seq (.sreg r_f302_10 [true, false, false, false])
  (.cond (.tmp 54) .skip
  (.exit 0)))
  (.seq (.block 1 (.seq (.seq (.sreg r_f302_11 [true, false, false, false, false, false, false, false, false, false, false, false, false, false, false, false, false, false, false, false, false, false, false, false, false, false, false])
  (.cond (.tmp 83) (.seq (.sreg r_f302_12 [])
  (.exit 1))
  .skip))
  (.seq (.seq (.sreg r_f302_13 [true, false, false, false])
  (.cond (.tmp 87) (.seq (.seq (.sreg r_f302_14 [true, false])
  (.cond (.tmp 89) (.seq (.sreg r_f302_15 [])
  .ret)
  .skip))
  (.seq (.sreg r_f302_16 [])
  (.exit 1)))
  .skip))
  (.seq (.seq (.sreg r_f302_17 [true, false])
  (.cond (.tmp 91) (.seq (.sreg r_f302_18 [])
  .ret)
  .skip))
  (.sreg r_f302_19 [])))))
  (.sreg r_f302_20 [true, false, false])))))
  (.seq (.sreg r_f302_21 [true, false, false])
  .ret)))))))), [(.tmp 2)]⟩
def o_f302 : Nat → Nat → Nat := fun _ _ => 1
theorem c_f302_eq : lowF Tryz.prog o_f302 302 = some c_f302.raw := by kernel_rfl
theorem c_f302_ok : c_f302.code.okc = true := by kernel_rfl
/-! internal/stringslite.Clone -/
def r_f303_0 : List SOp :=
   [.op ⟨(some 2), (.mv (.av (.str []))), none⟩]
def r_f303_1 : List SOp :=
   [.op ⟨(some 4), (.mv (.tmp 0)), none⟩,
    .op ⟨(some 5), (.len true (.tmp 4)), none⟩,
    .op ⟨(some 6), (.bin .eql (.tmp 5) (.av (.int .i64 0))), none⟩]
def r_f303_2 : List SOp :=
   [.op ⟨(some 2), (.mv (.av (.str []))), none⟩]
def r_f303_3 : List SOp :=
   [.op ⟨(some 7), (.mv (.tmp 0)), none⟩,
    .op ⟨(some 8), (.len true (.tmp 7)), none⟩,
    .op ⟨(some 9), (.mkslice 1 1 [(.int .u8 0)] (.tmp 8) (.tmp 8)), none⟩,
    .op ⟨(some 3), (.mv (.tmp 9)), none⟩]
def r_f303_4 : List SOp :=
   [.op ⟨(some 10), (.mv (.tmp 3)), none⟩,
    .op ⟨(some 11), (.mv (.tmp 0)), none⟩,
    .op ⟨(some 12), (.copy 1 (.tmp 10) (.tmp 11)), none⟩]
def r_f303_5 : List SOp :=
   [.op ⟨(some 13), (.mv (.tmp 3)), none⟩,
    .op ⟨(some 14), (.iaddr 1 (.tmp 13) (.av (.int .i64 0))), none⟩,
    .op ⟨(some 15), (.mv (.tmp 3)), none⟩,
    .op ⟨(some 16), (.len false (.tmp 15)), none⟩,
    .op ⟨(some 17), .bad, none⟩,
    .op ⟨(some 2), (.mv (.tmp 17)), none⟩]
def c_f303 : LFun := ⟨18, (.seq (.sreg r_f303_0 [])
  (.seq (.seq (.sreg r_f303_1 [true, false, false])
  (.cond (.tmp 6) (.seq (.sreg r_f303_2 [])
  .ret)
  .skip))
  (.seq (.sreg r_f303_3 [true, false, false, false])
  (.seq (.sreg r_f303_4 [false, false, false])
  (.seq (.sreg r_f303_5 [true, false, false, false, false, false])
  .ret))))), [(.tmp 2)]⟩
def o_f303 : Nat → Nat → Nat := fun _ _ => 1
theorem c_f303_eq : lowF Tryz.prog o_f303 303 = some c_f303.raw := by kernel_rfl
theorem c_f303_ok : c_f303.code.okc = true := by kernel_rfl
/-! strconv.Itoa -/
def r_f305_0 : List SOp :=
   [.op ⟨(some 2), (.mv (.av (.str []))), none⟩]
def r_f305_1 : List SOp :=
   [.op ⟨(some 3), (.mv (.tmp 0)), none⟩,
    .op ⟨(some 4), (.call 334 [(.tmp 3)]), none⟩,
    .op ⟨(some 2), (.mv (.tmp 4)), none⟩]
def c_f305 : LFun := ⟨5, (.seq (.sreg r_f305_0 [])
  (.seq (.sreg r_f305_1 [true, false, false])
  .ret)), [(.tmp 2)]⟩
def o_f305 : Nat → Nat → Nat := fun _ _ => 1
theorem c_f305_eq : lowF Tryz.prog o_f305 305 = some c_f305.raw := by kernel_rfl
theorem c_f305_ok : c_f305.code.okc = true := by kernel_rfl
/-! errors.New -/
def r_f304_0 : List SOp :=
   [.op ⟨(some 2), (.mv (.av .nilif)), none⟩]
def r_f304_1 : List SOp :=
   [.op ⟨(some 3), (.mv (.tmp 0)), none⟩,
    .op ⟨(some 4), (.build [(.str [])] [(0, 1, (.tmp 3))]), none⟩,
    .op ⟨(some 5), (.box (.tmp 4)), none⟩,
    .op ⟨(some 6), (.mkif 395 (.tmp 5)), none⟩,
    .op ⟨(some 2), (.mv (.tmp 6)), none⟩]
def c_f304 : LFun := ⟨7, (.seq (.sreg r_f304_0 [])
  (.seq (.sreg r_f304_1 [true, false, false, false, false])
  .ret)), [(.tmp 2)]⟩
def o_f304 : Nat → Nat → Nat := fun _ _ => 1
theorem c_f304_eq : lowF Tryz.prog o_f304 304 = some c_f304.raw := by kernel_rfl
theorem c_f304_ok : c_f304.code.okc = true := by kernel_rfl
/-! math/bits.Len64 -/
def r_f204_0 : List SOp :=
   [.op ⟨(some 2), (.mv (.av (.int .i64 0))), none⟩]
def r_f204_1 : List SOp :=
   [.op ⟨(some 3), (.mv (.tmp 0)), none⟩,
    .op ⟨(some 4), (.bin .geq (.tmp 3) (.av (.int .u64 4294967296))), none⟩]
def r_f204_2 : List SOp :=
   [.op ⟨(some 5), (.mv (.tmp 0)), none⟩,
    .op ⟨(some 6), (.bin .shr (.tmp 5) (.av (.int .u64 32))), none⟩,
    .op ⟨(some 0), (.mv (.tmp 6)), none⟩]
def r_f204_3 : List SOp :=
   [.op ⟨(some 2), (.mv (.av (.int .i64 32))), none⟩]
def r_f204_4 : List SOp :=
   [.op ⟨(some 7), (.mv (.tmp 0)), none⟩,
    .op ⟨(some 8), (.bin .geq (.tmp 7) (.av (.int .u64 65536))), none⟩]
def r_f204_5 : List SOp :=
   [.op ⟨(some 9), (.mv (.tmp 0)), none⟩,
    .op ⟨(some 10), (.bin .shr (.tmp 9) (.av (.int .u64 16))), none⟩,
    .op ⟨(some 0), (.mv (.tmp 10)), none⟩]
def r_f204_6 : List SOp :=
   [.op ⟨(some 11), (.mv (.tmp 2)), none⟩,
    .op ⟨(some 12), (.bin .add (.tmp 11) (.av (.int .i64 16))), none⟩,
    .op ⟨(some 2), (.mv (.tmp 12)), none⟩]
def r_f204_7 : List SOp :=
   [.op ⟨(some 13), (.mv (.tmp 0)), none⟩,
    .op ⟨(some 14), (.bin .geq (.tmp 13) (.av (.int .u64 256))), none⟩]
def r_f204_8 : List SOp :=
   [.op ⟨(some 15), (.mv (.tmp 0)), none⟩,
    .op ⟨(some 16), (.bin .shr (.tmp 15) (.av (.int .u64 8))), none⟩,
    .op ⟨(some 0), (.mv (.tmp 16)), none⟩]
def r_f204_9 : List SOp :=
   [.op ⟨(some 17), (.mv (.tmp 2)), none⟩,
    .op ⟨(some 18), (.bin .add (.tmp 17) (.av (.int .i64 8))), none⟩,
    .op ⟨(some 2), (.mv (.tmp 18)), none⟩]
def r_f204_10 : List SOp :=
   [.op ⟨(some 19), (.mv (.tmp 2)), none⟩,
    .op ⟨(some 20), (.mv (.tmp 0)), none⟩,
    .op ⟨(some 21), (.conv .u8 (.tmp 20)), none⟩,
    .op ⟨(some 22), (.idxS (.av (.str [0, 1, 2, 2, 3, 3, 3, 3, 4, 4, 4, 4, 4, 4, 4, 4, 5, 5, 5, 5, 5, 5, 5, 5, 5, 5, 5, 5, 5, 5, 5, 5, 6, 6, 6, 6, 6, 6, 6, 6, 6, 6, 6, 6, 6, 6, 6, 6, 6, 6, 6, 6, 6, 6, 6, 6, 6, 6, 6, 6, 6, 6, 6, 6, 7, 7, 7, 7, 7, 7, 7, 7, 7, 7, 7, 7, 7, 7, 7, 7, 7, 7, 7, 7, 7, 7, 7, 7, 7, 7, 7, 7, 7, 7, 7, 7, 7, 7, 7, 7, 7, 7, 7, 7, 7, 7, 7, 7, 7, 7, 7, 7, 7, 7, 7, 7, 7, 7, 7, 7, 7, 7, 7, 7, 7, 7, 7, 7, 8, 8, 8, 8, 8, 8, 8, 8, 8, 8, 8, 8, 8, 8, 8, 8, 8, 8, 8, 8, 8, 8, 8, 8, 8, 8, 8, 8, 8, 8, 8, 8, 8, 8, 8, 8, 8, 8, 8, 8, 8, 8, 8, 8, 8, 8, 8, 8, 8, 8, 8, 8, 8, 8, 8, 8, 8, 8, 8, 8, 8, 8, 8, 8, 8, 8, 8, 8, 8, 8, 8, 8, 8, 8, 8, 8, 8, 8, 8, 8, 8, 8, 8, 8, 8, 8, 8, 8, 8, 8, 8, 8, 8, 8, 8, 8, 8, 8, 8, 8, 8, 8, 8, 8, 8, 8, 8, 8, 8, 8, 8, 8, 8, 8, 8, 8, 8, 8, 8, 8, 8, 8, 8, 8, 8, 8, 8, 8])) (.tmp 21)), none⟩,
    .op ⟨(some 23), (.conv .i64 (.tmp 22)), none⟩,
    .op ⟨(some 24), (.bin .add (.tmp 19) (.tmp 23)), none⟩,
    .op ⟨(some 2), (.mv (.tmp 24)), none⟩]
def c_f204 : LFun := ⟨25, (.seq (.sreg r_f204_0 [])
  (.seq (.seq (.sreg r_f204_1 [true, false])
  (.cond (.tmp 4) (.seq (.sreg r_f204_2 [true, false, false])
  (.sreg r_f204_3 []))
  .skip))
  (.seq (.seq (.sreg r_f204_4 [true, false])
  (.cond (.tmp 8) (.seq (.sreg r_f204_5 [true, false, false])
  (.sreg r_f204_6 [true, false, false]))
  .skip))
  (.seq (.seq (.sreg r_f204_7 [true, false])
  (.cond (.tmp 14) (.seq (.sreg r_f204_8 [true, false, false])
  (.sreg r_f204_9 [true, false, false]))
  .skip))
  (.seq (.sreg r_f204_10 [true, false, false, false, false, false, false])
  .ret))))), [(.tmp 2)]⟩
def o_f204 : Nat → Nat → Nat := fun _ _ => 1
theorem c_f204_eq : lowF Tryz.prog o_f204 204 = some c_f204.raw := by kernel_rfl
theorem c_f204_ok : c_f204.code.okc = true := by kernel_rfl
/-! internal/strconv.log10Pow2 -/
def r_f306_0 : List SOp :=
   [.op ⟨(some 2), (.mv (.av (.int .i64 0))), none⟩]
def r_f306_1 : List SOp :=
   [.op ⟨(some 3), (.mv (.tmp 0)), none⟩,
    .op ⟨(some 4), (.bin .mul (.tmp 3) (.av (.int .i64 78913))), none⟩,
    .op ⟨(some 5), (.bin .shr (.tmp 4) (.av (.int .u64 18))), none⟩,
    .op ⟨(some 2), (.mv (.tmp 5)), none⟩]
def c_f306 : LFun := ⟨6, (.seq (.sreg r_f306_0 [])
  (.seq (.sreg r_f306_1 [true, false, false, false])
  .ret)), [(.tmp 2)]⟩
def o_f306 : Nat → Nat → Nat := fun _ _ => 1
theorem c_f306_eq : lowF Tryz.prog o_f306 306 = some c_f306.raw := by kernel_rfl
theorem c_f306_ok : c_f306.code.okc = true := by kernel_rfl
/-! internal/strconv.bool2[int] -/
def r_f307_0 : List SOp :=
   [.op ⟨(some 2), (.mv (.av (.int .i64 0))), none⟩]
def r_f307_1 : List SOp :=
   [.op ⟨(some 3), (.mv (.tmp 0)), none⟩]
def r_f307_2 : List SOp :=
   [.op ⟨(some 2), (.mv (.av (.int .i64 1))), none⟩]
def r_f307_3 : List SOp :=
   [.op ⟨(some 2), (.mv (.av (.int .i64 0))), none⟩]
def c_f307 : LFun := ⟨4, (.seq (.sreg r_f307_0 [])
  (.seq (.seq (.sreg r_f307_1 [])
  (.cond (.tmp 3) (.seq (.sreg r_f307_2 [])
  .ret)
  .skip))
  (.seq (.sreg r_f307_3 [])
  .ret))), [(.tmp 2)]⟩
def o_f307 : Nat → Nat → Nat := fun _ _ => 1
theorem c_f307_eq : lowF Tryz.prog o_f307 307 = some c_f307.raw := by kernel_rfl
theorem c_f307_ok : c_f307.code.okc = true := by kernel_rfl
/-! internal/strconv.isPowerOfTwo -/
def r_f308_0 : List SOp :=
   [.op ⟨(some 2), (.mv (.av (.bool false))), none⟩]
def r_f308_1 : List SOp :=
   [.op ⟨(some 3), (.mv (.tmp 0)), none⟩,
    .op ⟨(some 4), (.mv (.tmp 0)), none⟩,
    .op ⟨(some 5), (.bin .sub (.tmp 4) (.av (.int .i64 1))), none⟩,
    .op ⟨(some 6), (.bin .and (.tmp 3) (.tmp 5)), none⟩,
    .op ⟨(some 7), (.bin .eql (.tmp 6) (.av (.int .i64 0))), none⟩,
    .op ⟨(some 2), (.mv (.tmp 7)), none⟩]
def c_f308 : LFun := ⟨8, (.seq (.sreg r_f308_0 [])
  (.seq (.sreg r_f308_1 [true, false, false, false, false, false])
  .ret)), [(.tmp 2)]⟩
def o_f308 : Nat → Nat → Nat := fun _ _ => 1
theorem c_f308_eq : lowF Tryz.prog o_f308 308 = some c_f308.raw := by kernel_rfl
theorem c_f308_ok : c_f308.code.okc = true := by kernel_rfl
/-! math/bits.TrailingZeros -/
def r_f309_0 : List SOp :=
   [.op ⟨(some 2), (.mv (.av (.int .i64 0))), none⟩]
def r_f309_1 : List SOp :=
   [.op ⟨(some 3), (.mv (.tmp 0)), none⟩,
    .op ⟨(some 4), (.conv .u32 (.tmp 3)), none⟩,
    .op ⟨(some 5), (.call 335 [(.tmp 4)]), none⟩,
    .op ⟨(some 2), (.mv (.tmp 5)), none⟩]
def r_f309_2 : List SOp :=
   [.op ⟨(some 6), (.mv (.tmp 0)), none⟩,
    .op ⟨(some 7), (.call 336 [(.tmp 6)]), none⟩,
    .op ⟨(some 2), (.mv (.tmp 7)), none⟩]
def c_f309 : LFun := ⟨8, (.seq (.sreg r_f309_0 [])
  (.seq (.cond (.av (.bool false)) (.seq (.sreg r_f309_1 [true, false, false, false])
  .ret)
  .skip)
  (.seq (.sreg r_f309_2 [true, false, false])
  .ret))), [(.tmp 2)]⟩
def o_f309 : Nat → Nat → Nat := fun _ _ => 1
theorem c_f309_eq : lowF Tryz.prog o_f309 309 = some c_f309.raw := by kernel_rfl
theorem c_f309_ok : c_f309.code.okc = true := by kernel_rfl

end Go.Proofs.YtkmfnbhdjijlnaaGreatDoor.Av
