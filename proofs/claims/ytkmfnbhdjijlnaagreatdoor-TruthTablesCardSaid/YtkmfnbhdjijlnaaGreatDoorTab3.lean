/- Bodies of functions, lowered: printed by a program (wip/tools/lowx.py); each is held against the program by the kernel. -/
import Derived.Test.YtkmfnbhdjijlnaaGreatDoorExE
import Derived.Test.YtkmfnbhdjijlnaaGreatDoorRows
import Derived.KernelRfl
set_option maxRecDepth 100000
set_option linter.unusedSimpArgs false
set_option linter.unusedVariables false
namespace Go.Proofs.YtkmfnbhdjijlnaaGreatDoor.Av
open Go

/-! slices.IndexFunc[castellan/api.RDN,castellan/api.AVA] -/
def r_f310_0 : List SOp :=
   [.op ⟨(some 4), (.mv (.av (.int .i64 0))), none⟩]
def r_f310_1 : List SOp :=
   [.op ⟨(some 6), (.mv (.tmp 0)), none⟩,
    .op ⟨(some 7), (.len false (.tmp 6)), none⟩,
    .op ⟨(some 8), (.mv (.av (.int .i64 0))), none⟩]
def r_f310_2 : List SOp :=
   [.op ⟨(some 9), (.bin .lss (.tmp 8) (.tmp 7)), none⟩]
def r_f310_3 : List SOp :=
   [.op ⟨(some 10), (.mv (.tmp 8)), none⟩,
    .op ⟨(some 5), (.mv (.tmp 10)), none⟩]
def r_f310_4 : List SOp :=
   [.op ⟨(some 11), (.mv (.tmp 1)), none⟩,
    .op ⟨(some 12), (.mv (.tmp 0)), none⟩,
    .op ⟨(some 13), (.mv (.tmp 5)), none⟩,
    .op ⟨(some 14), (.iaddr 2 (.tmp 12) (.tmp 13)), none⟩,
    .op ⟨(some 15), (.load true 2 (.tmp 14)), none⟩,
    .op ⟨(some 16), (.callv (.tmp 11) [(.tmp 15)]), none⟩]
def r_f310_5 : List SOp :=
   [.op ⟨(some 17), (.mv (.tmp 5)), none⟩,
    .op ⟨(some 4), (.mv (.tmp 17)), none⟩]
def r_f310_6 : List SOp :=
   [.op ⟨(some 18), (.bin .add (.tmp 8) (.av (.int .i64 1))), none⟩,
    .op ⟨(some 8), (.mv (.tmp 18)), none⟩]
def r_f310_7 : List SOp :=
   [.op ⟨(some 4), (.mv (.av (.int .i64 (-1)))), none⟩]
def c_f310 : LFun := ⟨19, (.seq (.sreg r_f310_0 [])
  (.seq (.seq (.sreg r_f310_1 [true, true, false])
  (.block 0 (.loop (.seq (.sreg r_f310_2 [])
  (.seq (.cond (.tmp 9) .skip
  (.exit 0))
  (.seq (.block 1 (.seq (.sreg r_f310_3 [true, false])
  (.seq (.sreg r_f310_4 [true, false, false, false, false, false])
  (.cond (.tmp 16) (.seq (.sreg r_f310_5 [true, false])
  .ret)
  .skip))))
  (.sreg r_f310_6 [true, false])))))))
  (.seq (.sreg r_f310_7 [])
  .ret))), [(.tmp 4)]⟩
def o_f310 : Nat → Nat → Nat := fun _ _ => 1
theorem c_f310_eq : lowF Tryz.prog o_f310 310 = some c_f310.raw := by kernel_rfl
theorem c_f310_ok : c_f310.code.okc = true := by kernel_rfl
/-! castellan/octet.half -/
def r_f312_0 : List SOp :=
   [.op ⟨(some 2), (.mv (.av (.int .u8 0))), none⟩,
    .op ⟨(some 3), (.mv (.av (.bool false))), none⟩]
def r_f312_1 : List SOp :=
   [.op ⟨(some 5), (.mv (.tmp 0)), none⟩,
    .op ⟨(some 6), (.bin .geq (.tmp 5) (.av (.int .u8 48))), none⟩,
    .op ⟨(some 7), (.mv (.tmp 6)), none⟩,
    .grp none 7 true
      [.op ⟨(some 8), (.mv (.tmp 0)), (some (7, true))⟩,
      .op ⟨(some 9), (.bin .leq (.tmp 8) (.av (.int .u8 57))), (some (7, true))⟩]
      10 (.tmp 9),
    .op ⟨(some 4), (.mv (.tmp 10)), none⟩]
def r_f312_2 : List SOp :=
   [.op ⟨(some 11), (.mv (.tmp 0)), none⟩,
    .op ⟨(some 12), (.bin .sub (.tmp 11) (.av (.int .u8 48))), none⟩,
    .op ⟨(some 2), (.mv (.tmp 12)), none⟩,
    .op ⟨(some 3), (.mv (.av (.bool true))), none⟩]
def r_f312_3 : List SOp :=
   [.op ⟨(some 14), (.mv (.tmp 0)), none⟩,
    .op ⟨(some 15), (.bin .geq (.tmp 14) (.av (.int .u8 97))), none⟩,
    .op ⟨(some 16), (.mv (.tmp 15)), none⟩,
    .grp none 16 true
      [.op ⟨(some 17), (.mv (.tmp 0)), (some (16, true))⟩,
      .op ⟨(some 18), (.bin .leq (.tmp 17) (.av (.int .u8 102))), (some (16, true))⟩]
      19 (.tmp 18),
    .op ⟨(some 13), (.mv (.tmp 19)), none⟩]
def r_f312_4 : List SOp :=
   [.op ⟨(some 20), (.mv (.tmp 0)), none⟩,
    .op ⟨(some 21), (.bin .sub (.tmp 20) (.av (.int .u8 97))), none⟩,
    .op ⟨(some 22), (.bin .add (.tmp 21) (.av (.int .u8 10))), none⟩,
    .op ⟨(some 2), (.mv (.tmp 22)), none⟩,
    .op ⟨(some 3), (.mv (.av (.bool true))), none⟩]
def r_f312_5 : List SOp :=
   [.op ⟨(some 24), (.mv (.tmp 0)), none⟩,
    .op ⟨(some 25), (.bin .geq (.tmp 24) (.av (.int .u8 65))), none⟩,
    .op ⟨(some 26), (.mv (.tmp 25)), none⟩,
    .grp none 26 true
      [.op ⟨(some 27), (.mv (.tmp 0)), (some (26, true))⟩,
      .op ⟨(some 28), (.bin .leq (.tmp 27) (.av (.int .u8 70))), (some (26, true))⟩]
      29 (.tmp 28),
    .op ⟨(some 23), (.mv (.tmp 29)), none⟩]
def r_f312_6 : List SOp :=
   [.op ⟨(some 30), (.mv (.tmp 0)), none⟩,
    .op ⟨(some 31), (.bin .sub (.tmp 30) (.av (.int .u8 65))), none⟩,
    .op ⟨(some 32), (.bin .add (.tmp 31) (.av (.int .u8 10))), none⟩,
    .op ⟨(some 2), (.mv (.tmp 32)), none⟩,
    .op ⟨(some 3), (.mv (.av (.bool true))), none⟩]
def r_f312_7 : List SOp :=
   [.op ⟨(some 2), (.mv (.av (.int .u8 0))), none⟩,
    .op ⟨(some 3), (.mv (.av (.bool false))), none⟩]
def c_f312 : LFun := ⟨33, (.seq (.sreg r_f312_0 [])
  (.seq (.block 0 (.seq (.sreg r_f312_1 [true, false, false, false, false])
  (.cond (.tmp 4) (.seq (.sreg r_f312_2 [true, true, false, false])
  .ret)
  (.seq (.sreg r_f312_3 [true, false, false, false, false])
  (.cond (.tmp 13) (.seq (.sreg r_f312_4 [true, true, false, false, false])
  .ret)
  (.seq (.sreg r_f312_5 [true, false, false, false, false])
  (.cond (.tmp 23) (.seq (.sreg r_f312_6 [true, true, false, false, false])
  .ret)
  .skip)))))))
  (.seq (.sreg r_f312_7 [])
  .ret))), [(.tmp 2), (.tmp 3)]⟩
def o_f312 : Nat → Nat → Nat := fun _ _ => 1
theorem c_f312_eq : lowF Tryz.prog o_f312 312 = some c_f312.raw := by kernel_rfl
theorem c_f312_ok : c_f312.code.okc = true := by kernel_rfl
/-! math/bits.Len -/
def r_f145_0 : List SOp :=
   [.op ⟨(some 2), (.mv (.av (.int .i64 0))), none⟩]
def r_f145_1 : List SOp :=
   [.op ⟨(some 3), (.mv (.tmp 0)), none⟩,
    .op ⟨(some 4), (.conv .u32 (.tmp 3)), none⟩,
    .op ⟨(some 5), (.call 203 [(.tmp 4)]), none⟩,
    .op ⟨(some 2), (.mv (.tmp 5)), none⟩]
def r_f145_2 : List SOp :=
   [.op ⟨(some 6), (.mv (.tmp 0)), none⟩,
    .op ⟨(some 7), (.call 204 [(.tmp 6)]), none⟩,
    .op ⟨(some 2), (.mv (.tmp 7)), none⟩]
def c_f145 : LFun := ⟨8, (.seq (.sreg r_f145_0 [])
  (.seq (.cond (.av (.bool false)) (.seq (.sreg r_f145_1 [true, false, false, false])
  .ret)
  .skip)
  (.seq (.sreg r_f145_2 [true, false, false])
  .ret))), [(.tmp 2)]⟩
def o_f145 : Nat → Nat → Nat := fun _ _ => 1
theorem c_f145_eq : lowF Tryz.prog o_f145 145 = some c_f145.raw := by kernel_rfl
theorem c_f145_ok : c_f145.code.okc = true := by kernel_rfl
/-! slices.pdqsortOrdered[string] -/
def r_f279_0 : List SOp :=
   [.op ⟨(some 8), (.mv (.av (.bool true))), none⟩]
def r_f279_1 : List SOp :=
   [.op ⟨(some 9), (.mv (.av (.bool true))), none⟩]
def r_f279_2 : List SOp :=
   [.op ⟨(some 19), (.mv (.tmp 2)), none⟩,
    .op ⟨(some 20), (.mv (.tmp 1)), none⟩,
    .op ⟨(some 21), (.bin .sub (.tmp 19) (.tmp 20)), none⟩,
    .op ⟨(some 10), (.mv (.tmp 21)), none⟩]
def r_f279_3 : List SOp :=
   [.op ⟨(some 22), (.mv (.tmp 10)), none⟩,
    .op ⟨(some 23), (.bin .leq (.tmp 22) (.av (.int .i64 12))), none⟩]
def r_f279_4 : List SOp :=
   [.op ⟨(some 24), (.mv (.tmp 0)), none⟩,
    .op ⟨(some 25), (.mv (.tmp 1)), none⟩,
    .op ⟨(some 26), (.mv (.tmp 2)), none⟩,
    .op ⟨(some 27), (.call 316 [(.tmp 24), (.tmp 25), (.tmp 26)]), none⟩]
def r_f279_5 : List SOp :=
   [.op ⟨(some 28), (.mv (.tmp 3)), none⟩,
    .op ⟨(some 29), (.bin .eql (.tmp 28) (.av (.int .i64 0))), none⟩]
def r_f279_6 : List SOp :=
   [.op ⟨(some 30), (.mv (.tmp 0)), none⟩,
    .op ⟨(some 31), (.mv (.tmp 1)), none⟩,
    .op ⟨(some 32), (.mv (.tmp 2)), none⟩,
    .op ⟨(some 33), (.call 317 [(.tmp 30), (.tmp 31), (.tmp 32)]), none⟩]
def r_f279_7 : List SOp :=
   [.op ⟨(some 34), (.mv (.tmp 8)), none⟩,
    .op ⟨(some 35), (.un .not (.tmp 34)), none⟩]
def r_f279_8 : List SOp :=
   [.op ⟨(some 36), (.mv (.tmp 0)), none⟩,
    .op ⟨(some 37), (.mv (.tmp 1)), none⟩,
    .op ⟨(some 38), (.mv (.tmp 2)), none⟩,
    .op ⟨(some 39), (.call 318 [(.tmp 36), (.tmp 37), (.tmp 38)]), none⟩]
def r_f279_9 : List SOp :=
   [.op ⟨(some 40), (.mv (.tmp 3)), none⟩,
    .op ⟨(some 41), (.bin .sub (.tmp 40) (.av (.int .i64 1))), none⟩,
    .op ⟨(some 3), (.mv (.tmp 41)), none⟩]
def r_f279_10 : List SOp :=
   [.op ⟨(some 43), (.mv (.tmp 0)), none⟩,
    .op ⟨(some 44), (.mv (.tmp 1)), none⟩,
    .op ⟨(some 45), (.mv (.tmp 2)), none⟩,
    .op ⟨(some 46), (.call 319 [(.tmp 43), (.tmp 44), (.tmp 45)]), none⟩,
    .op ⟨(some 42), (.mv (.tmp 46)), none⟩,
    .op ⟨(some 47), (.extract (.tmp 42) 0), none⟩,
    .op ⟨(some 48), (.extract (.tmp 42) 1), none⟩,
    .op ⟨(some 11), (.mv (.tmp 47)), none⟩,
    .op ⟨(some 12), (.mv (.tmp 48)), none⟩]
def r_f279_11 : List SOp :=
   [.op ⟨(some 49), (.mv (.tmp 12)), none⟩,
    .op ⟨(some 50), (.bin .eql (.tmp 49) (.av (.int .i64 2))), none⟩]
def r_f279_12 : List SOp :=
   [.op ⟨(some 51), (.mv (.tmp 0)), none⟩,
    .op ⟨(some 52), (.mv (.tmp 1)), none⟩,
    .op ⟨(some 53), (.mv (.tmp 2)), none⟩,
    .op ⟨(some 54), (.call 320 [(.tmp 51), (.tmp 52), (.tmp 53)]), none⟩]
def r_f279_13 : List SOp :=
   [.op ⟨(some 55), (.mv (.tmp 2)), none⟩,
    .op ⟨(some 56), (.bin .sub (.tmp 55) (.av (.int .i64 1))), none⟩,
    .op ⟨(some 57), (.mv (.tmp 11)), none⟩,
    .op ⟨(some 58), (.mv (.tmp 1)), none⟩,
    .op ⟨(some 59), (.bin .sub (.tmp 57) (.tmp 58)), none⟩,
    .op ⟨(some 60), (.bin .sub (.tmp 56) (.tmp 59)), none⟩,
    .op ⟨(some 11), (.mv (.tmp 60)), none⟩]
def r_f279_14 : List SOp :=
   [.op ⟨(some 12), (.mv (.av (.int .i64 1))), none⟩]
def r_f279_15 : List SOp :=
   [.op ⟨(some 61), (.mv (.tmp 8)), none⟩,
    .op ⟨(some 62), (.mv (.tmp 61)), none⟩,
    .grp none 62 true
      [.op ⟨(some 63), (.mv (.tmp 9)), (some (62, true))⟩]
      64 (.tmp 63),
    .op ⟨(some 65), (.mv (.tmp 64)), none⟩,
    .grp none 65 true
      [.op ⟨(some 66), (.mv (.tmp 12)), (some (65, true))⟩,
      .op ⟨(some 67), (.bin .eql (.tmp 66) (.av (.int .i64 1))), (some (65, true))⟩]
      68 (.tmp 67)]
def r_f279_16 : List SOp :=
   [.op ⟨(some 69), (.mv (.tmp 0)), none⟩,
    .op ⟨(some 70), (.mv (.tmp 1)), none⟩,
    .op ⟨(some 71), (.mv (.tmp 2)), none⟩,
    .op ⟨(some 72), (.call 321 [(.tmp 69), (.tmp 70), (.tmp 71)]), none⟩]
def r_f279_17 : List (LOper × Kd) :=
   [(⟨(some 73), (.mv (.tmp 1)), none⟩, .pure),
    (⟨(some 74), (.bin .gtr (.tmp 73) (.av (.int .i64 0))), none⟩, .pure),
    (⟨(some 75), (.mv (.tmp 74)), none⟩, .pure),
    (⟨(some 76), (.mv (.tmp 0)), (some (75, true))⟩, .pure),
    (⟨(some 77), (.mv (.tmp 1)), (some (75, true))⟩, .pure),
    (⟨(some 78), (.bin .sub (.tmp 77) (.av (.int .i64 1))), (some (75, true))⟩, .pure),
    (⟨(some 79), (.iaddr 1 (.tmp 76) (.tmp 78)), (some (75, true))⟩, (.read 0 0)),
    (⟨(some 80), (.load false 1 (.tmp 79)), (some (75, true))⟩, (.read 0 0)),
    (⟨(some 81), (.mv (.tmp 0)), (some (75, true))⟩, .pure),
    (⟨(some 82), (.mv (.tmp 11)), (some (75, true))⟩, .pure),
    (⟨(some 83), (.iaddr 1 (.tmp 81) (.tmp 82)), (some (75, true))⟩, (.read 0 0)),
    (⟨(some 84), (.load false 1 (.tmp 83)), (some (75, true))⟩, (.read 0 0))]
def r_f279_17t : List LOper :=
   [⟨(some 85), (.call 322 [(.tmp 80), (.tmp 84)]), (some (75, true))⟩,
    ⟨(some 86), (.un .not (.tmp 85)), (some (75, true))⟩,
    ⟨(some 87), (.pick (.tmp 75) (.tmp 86) (.av (.bool false))), none⟩]
def r_f279_18 : List SOp :=
   [.op ⟨(some 88), (.mv (.tmp 0)), none⟩,
    .op ⟨(some 89), (.mv (.tmp 1)), none⟩,
    .op ⟨(some 90), (.mv (.tmp 2)), none⟩,
    .op ⟨(some 91), (.mv (.tmp 11)), none⟩,
    .op ⟨(some 92), (.call 323 [(.tmp 88), (.tmp 89), (.tmp 90), (.tmp 91)]), none⟩,
    .op ⟨(some 13), (.mv (.tmp 92)), none⟩]
def r_f279_19 : List SOp :=
   [.op ⟨(some 93), (.mv (.tmp 13)), none⟩,
    .op ⟨(some 1), (.mv (.tmp 93)), none⟩]
def r_f279_20 : List SOp :=
   [.op ⟨(some 95), (.mv (.tmp 0)), none⟩,
    .op ⟨(some 96), (.mv (.tmp 1)), none⟩,
    .op ⟨(some 97), (.mv (.tmp 2)), none⟩,
    .op ⟨(some 98), (.mv (.tmp 11)), none⟩,
    .op ⟨(some 99), (.call 324 [(.tmp 95), (.tmp 96), (.tmp 97), (.tmp 98)]), none⟩,
    .op ⟨(some 94), (.mv (.tmp 99)), none⟩,
    .op ⟨(some 100), (.extract (.tmp 94) 0), none⟩,
    .op ⟨(some 101), (.extract (.tmp 94) 1), none⟩,
    .op ⟨(some 14), (.mv (.tmp 100)), none⟩,
    .op ⟨(some 15), (.mv (.tmp 101)), none⟩]
def r_f279_21 : List SOp :=
   [.op ⟨(some 102), (.mv (.tmp 15)), none⟩,
    .op ⟨(some 9), (.mv (.tmp 102)), none⟩]
def r_f279_22 : List SOp :=
   [.op ⟨(some 103), (.mv (.tmp 14)), none⟩,
    .op ⟨(some 104), (.mv (.tmp 1)), none⟩,
    .op ⟨(some 105), (.bin .sub (.tmp 103) (.tmp 104)), none⟩,
    .op ⟨(some 106), (.mv (.tmp 2)), none⟩,
    .op ⟨(some 107), (.mv (.tmp 14)), none⟩,
    .op ⟨(some 108), (.bin .sub (.tmp 106) (.tmp 107)), none⟩,
    .op ⟨(some 16), (.mv (.tmp 105)), none⟩,
    .op ⟨(some 17), (.mv (.tmp 108)), none⟩]
def r_f279_23 : List SOp :=
   [.op ⟨(some 109), (.mv (.tmp 10)), none⟩,
    .op ⟨(some 110), (.bin .quo (.tmp 109) (.av (.int .i64 8))), none⟩,
    .op ⟨(some 18), (.mv (.tmp 110)), none⟩]
def r_f279_24 : List SOp :=
   [.op ⟨(some 111), (.mv (.tmp 16)), none⟩,
    .op ⟨(some 112), (.mv (.tmp 17)), none⟩,
    .op ⟨(some 113), (.bin .lss (.tmp 111) (.tmp 112)), none⟩]
def r_f279_25 : List SOp :=
   [.op ⟨(some 114), (.mv (.tmp 16)), none⟩,
    .op ⟨(some 115), (.mv (.tmp 18)), none⟩,
    .op ⟨(some 116), (.bin .geq (.tmp 114) (.tmp 115)), none⟩,
    .op ⟨(some 8), (.mv (.tmp 116)), none⟩]
def r_f279_26 : List SOp :=
   [.op ⟨(some 117), (.mv (.tmp 0)), none⟩,
    .op ⟨(some 118), (.mv (.tmp 1)), none⟩,
    .op ⟨(some 119), (.mv (.tmp 14)), none⟩,
    .op ⟨(some 120), (.mv (.tmp 3)), none⟩,
    .op ⟨(some 121), (.call 279 [(.tmp 117), (.tmp 118), (.tmp 119), (.tmp 120)]), none⟩]
def r_f279_27 : List SOp :=
   [.op ⟨(some 122), (.mv (.tmp 14)), none⟩,
    .op ⟨(some 123), (.bin .add (.tmp 122) (.av (.int .i64 1))), none⟩,
    .op ⟨(some 1), (.mv (.tmp 123)), none⟩]
def r_f279_28 : List SOp :=
   [.op ⟨(some 124), (.mv (.tmp 17)), none⟩,
    .op ⟨(some 125), (.mv (.tmp 18)), none⟩,
    .op ⟨(some 126), (.bin .geq (.tmp 124) (.tmp 125)), none⟩,
    .op ⟨(some 8), (.mv (.tmp 126)), none⟩]
def r_f279_29 : List SOp :=
   [.op ⟨(some 127), (.mv (.tmp 0)), none⟩,
    .op ⟨(some 128), (.mv (.tmp 14)), none⟩,
    .op ⟨(some 129), (.bin .add (.tmp 128) (.av (.int .i64 1))), none⟩,
    .op ⟨(some 130), (.mv (.tmp 2)), none⟩,
    .op ⟨(some 131), (.mv (.tmp 3)), none⟩,
    .op ⟨(some 132), (.call 279 [(.tmp 127), (.tmp 129), (.tmp 130), (.tmp 131)]), none⟩]
def r_f279_30 : List SOp :=
   [.op ⟨(some 133), (.mv (.tmp 14)), none⟩,
    .op ⟨(some 2), (.mv (.tmp 133)), none⟩]
def c_f279 : LFun := ⟨134, (.seq (.sreg r_f279_0 [])
  (.seq (.sreg r_f279_1 [])
  (.block 0 (.loop (.block 1 (.seq (.sreg r_f279_2 [true, false, false, false])
  (.seq (.seq (.sreg r_f279_3 [true, false])
  (.cond (.tmp 23) (.seq (.sreg r_f279_4 [false, false, false, false])
  .ret)
  .skip))
  (.seq (.seq (.sreg r_f279_5 [true, false])
  (.cond (.tmp 29) (.seq (.sreg r_f279_6 [false, false, false, false])
  .ret)
  .skip))
  (.seq (.seq (.sreg r_f279_7 [true, false])
  (.cond (.tmp 35) (.seq (.sreg r_f279_8 [false, false, false, false])
  (.sreg r_f279_9 [true, false, false]))
  .skip))
  (.seq (.sreg r_f279_10 [true, true, false, false, false, false, false, false, false])
  (.seq (.seq (.sreg r_f279_11 [true, false])
  (.cond (.tmp 50) (.seq (.sreg r_f279_12 [false, false, false, false])
  (.seq (.sreg r_f279_13 [true, false, false, false, false, false, false])
  (.sreg r_f279_14 [])))
  .skip))
  (.seq (.seq (.sreg r_f279_15 [true, false, false, false, false])
  (.cond (.tmp 68) (.seq (.sreg r_f279_16 [true, false, false, false])
  (.cond (.tmp 72) .ret
  .skip))
  .skip))
  (.seq (.seq (.dregM r_f279_17 r_f279_17t [true, false, false, false, false, false, false, false, false, false, false, false, false, false, false])
  (.cond (.tmp 87) (.seq (.sreg r_f279_18 [true, false, false, false, false, false])
  (.seq (.sreg r_f279_19 [true, false])
  (.exit 1)))
  .skip))
  (.seq (.sreg r_f279_20 [true, true, false, false, false, false, false, false, false, false])
  (.seq (.sreg r_f279_21 [true, false])
  (.seq (.sreg r_f279_22 [true, true, false, false, false, false, false, false])
  (.seq (.sreg r_f279_23 [true, false, false])
  (.seq (.sreg r_f279_24 [true, false, false])
  (.cond (.tmp 113) (.seq (.sreg r_f279_25 [true, false, false, false])
  (.seq (.sreg r_f279_26 [false, false, false, false, false])
  (.sreg r_f279_27 [true, false, false])))
  (.seq (.sreg r_f279_28 [true, false, false, false])
  (.seq (.sreg r_f279_29 [false, false, false, false, false, false])
  (.sreg r_f279_30 [true, false])))))))))))))))))))))), []⟩
def o_f279 : Nat → Nat → Nat := fun r i => if r = 17 ∧ i = 12 then 3 else 1
theorem c_f279_eq : lowF Tryz.prog o_f279 279 = some c_f279.raw := by kernel_rfl
theorem c_f279_ok : c_f279.code.okc = true := by kernel_rfl
/-! (*strings.Builder).Grow -/
def r_f227_0 : List SOp :=
   [.op ⟨(some 4), (.mv (.tmp 0)), none⟩,
    .op ⟨(some 5), (.call 282 [(.tmp 4)]), none⟩]
def r_f227_1 : List SOp :=
   [.op ⟨(some 6), (.mv (.tmp 1)), none⟩,
    .op ⟨(some 7), (.bin .lss (.tmp 6) (.av (.int .i64 0))), none⟩]
def r_f227_2 : List SOp :=
   [.op ⟨(some 8), (.mkif 9 (.av (.str [115, 116, 114, 105, 110, 103, 115, 46, 66, 117, 105, 108, 100, 101, 114, 46, 71, 114, 111, 119, 58, 32, 110, 101, 103, 97, 116, 105, 118, 101, 32, 99, 111, 117, 110, 116]))), none⟩,
    .op ⟨none, .bad, none⟩]
def r_f227_3 : List SOp :=
   [.op ⟨(some 9), (.mv (.tmp 0)), none⟩,
    .op ⟨(some 10), (.nilchk (.tmp 9)), none⟩,
    .op ⟨(some 11), (.faddr 1 (.tmp 10)), none⟩,
    .op ⟨(some 12), (.load false 1 (.tmp 11)), none⟩,
    .op ⟨(some 13), (.cap (.tmp 12)), none⟩,
    .op ⟨(some 14), (.mv (.tmp 0)), none⟩,
    .op ⟨(some 15), (.nilchk (.tmp 14)), none⟩,
    .op ⟨(some 16), (.faddr 1 (.tmp 15)), none⟩,
    .op ⟨(some 17), (.load false 1 (.tmp 16)), none⟩,
    .op ⟨(some 18), (.len false (.tmp 17)), none⟩,
    .op ⟨(some 19), (.bin .sub (.tmp 13) (.tmp 18)), none⟩,
    .op ⟨(some 20), (.mv (.tmp 1)), none⟩,
    .op ⟨(some 21), (.bin .lss (.tmp 19) (.tmp 20)), none⟩]
def r_f227_4 : List SOp :=
   [.op ⟨(some 22), (.mv (.tmp 0)), none⟩,
    .op ⟨(some 23), (.mv (.tmp 1)), none⟩,
    .op ⟨(some 24), (.call 283 [(.tmp 22), (.tmp 23)]), none⟩]
def c_f227 : LFun := ⟨25, (.seq (.sreg r_f227_0 [false, false])
  (.seq (.seq (.sreg r_f227_1 [true, false])
  (.cond (.tmp 7) (.sreg r_f227_2 [false])
  .skip))
  (.seq (.sdreg r_f227_3 [.pure, (.read 0 0), .pure, (.read 0 0), (.read 0 0), .pure, (.read 0 0), .pure, (.read 0 0), (.read 0 0), .pure, .pure] [true, false, false, false, false, false, false, false, false, false, false, false, false])
  (.cond (.tmp 21) (.sreg r_f227_4 [false, false, false])
  .skip)))), []⟩
def o_f227 : Nat → Nat → Nat := fun _ _ => 1
theorem c_f227_eq : lowF Tryz.prog o_f227 227 = some c_f227.raw := by kernel_rfl
theorem c_f227_ok : c_f227.code.okc = true := by kernel_rfl
/-! (*strings.Builder).WriteString -/
def r_f228_0 : List SOp :=
   [.op ⟨(some 4), (.mv (.av (.int .i64 0))), none⟩,
    .op ⟨(some 5), (.mv (.av .nilif)), none⟩]
def r_f228_1 : List SOp :=
   [.op ⟨(some 6), (.mv (.tmp 0)), none⟩,
    .op ⟨(some 7), (.call 282 [(.tmp 6)]), none⟩]
def r_f228_2 : List SOp :=
   [.op ⟨(some 8), (.mv (.tmp 0)), none⟩,
    .op ⟨(some 9), (.mv (.tmp 0)), none⟩,
    .op ⟨(some 10), (.nilchk (.tmp 9)), none⟩,
    .op ⟨(some 11), (.faddr 1 (.tmp 10)), none⟩,
    .op ⟨(some 12), (.load false 1 (.tmp 11)), none⟩,
    .op ⟨(some 13), (.mv (.tmp 1)), none⟩,
    .op ⟨(some 14), (.app 1 1 1 [(.int .u8 0)] (.tmp 12) (.tmp 13)), none⟩,
    .op ⟨(some 15), (.nilchk (.tmp 8)), none⟩,
    .op ⟨(some 16), (.faddr 1 (.tmp 15)), none⟩,
    .op ⟨none, (.store 1 (.tmp 16) (.tmp 14)), none⟩]
def r_f228_3 : List SOp :=
   [.op ⟨(some 17), (.mv (.tmp 1)), none⟩,
    .op ⟨(some 18), (.len true (.tmp 17)), none⟩,
    .op ⟨(some 4), (.mv (.tmp 18)), none⟩,
    .op ⟨(some 5), (.mv (.av .nilif)), none⟩]
def c_f228 : LFun := ⟨19, (.seq (.sreg r_f228_0 [])
  (.seq (.sreg r_f228_1 [false, false])
  (.seq (.sreg r_f228_2 [false, false, false, false, false, false, false, false, false])
  (.seq (.sreg r_f228_3 [true, true, false, false])
  .ret)))), [(.tmp 4), (.tmp 5)]⟩
def o_f228 : Nat → Nat → Nat := fun _ _ => 1
theorem c_f228_eq : lowF Tryz.prog o_f228 228 = some c_f228.raw := by kernel_rfl
theorem c_f228_ok : c_f228.code.okc = true := by kernel_rfl
/-! (*strings.Builder).String -/
def r_f230_0 : List SOp :=
   [.op ⟨(some 2), (.mv (.av (.str []))), none⟩]
def r_f230_1 : List SOp :=
   [.op ⟨(some 3), (.mv (.tmp 0)), none⟩,
    .op ⟨(some 4), (.nilchk (.tmp 3)), none⟩,
    .op ⟨(some 5), (.faddr 1 (.tmp 4)), none⟩,
    .op ⟨(some 6), (.load false 1 (.tmp 5)), none⟩,
    .op ⟨(some 7), .bad, none⟩,
    .op ⟨(some 8), (.mv (.tmp 0)), none⟩,
    .op ⟨(some 9), (.nilchk (.tmp 8)), none⟩,
    .op ⟨(some 10), (.faddr 1 (.tmp 9)), none⟩,
    .op ⟨(some 11), (.load false 1 (.tmp 10)), none⟩,
    .op ⟨(some 12), (.len false (.tmp 11)), none⟩,
    .op ⟨(some 13), .bad, none⟩,
    .op ⟨(some 2), (.mv (.tmp 13)), none⟩]
def c_f230 : LFun := ⟨14, (.seq (.sreg r_f230_0 [])
  (.seq (.sdreg r_f230_1 [.pure, (.read 0 0), .pure, (.read 0 0), (.read 0 0), .pure, (.read 0 0), .pure, (.read 0 0), (.read 0 0)] [true, false, false, false, false, false, false, false, false, false, false, false])
  .ret)), [(.tmp 2)]⟩
def o_f230 : Nat → Nat → Nat := fun _ _ => 1
theorem c_f230_eq : lowF Tryz.prog o_f230 230 = some c_f230.raw := by kernel_rfl
theorem c_f230_ok : c_f230.code.okc = true := by kernel_rfl
/-! internal/bytealg.hashStr[string] -/
def r_f338_0 : List SOp :=
   [.op ⟨(some 2), (.mv (.av (.int .u32 0))), none⟩,
    .op ⟨(some 3), (.mv (.av (.int .u32 0))), none⟩]
def r_f338_1 : List SOp :=
   [.op ⟨(some 4), (.mv (.av (.int .u32 0))), none⟩]
def r_f338_2 : List SOp :=
   [.op ⟨(some 5), (.mv (.av (.int .i64 0))), none⟩]
def r_f338_3 : List SOp :=
   [.op ⟨(some 9), (.mv (.tmp 5)), none⟩,
    .op ⟨(some 10), (.mv (.tmp 0)), none⟩,
    .op ⟨(some 11), (.len true (.tmp 10)), none⟩,
    .op ⟨(some 12), (.bin .lss (.tmp 9) (.tmp 11)), none⟩]
def r_f338_4 : List SOp :=
   [.op ⟨(some 15), (.mv (.tmp 4)), none⟩,
    .op ⟨(some 16), (.bin .mul (.tmp 15) (.av (.int .u32 16777619))), none⟩,
    .op ⟨(some 17), (.mv (.tmp 0)), none⟩,
    .op ⟨(some 18), (.mv (.tmp 5)), none⟩,
    .op ⟨(some 19), (.idxS (.tmp 17) (.tmp 18)), none⟩,
    .op ⟨(some 20), (.conv .u32 (.tmp 19)), none⟩,
    .op ⟨(some 21), (.bin .add (.tmp 16) (.tmp 20)), none⟩,
    .op ⟨(some 4), (.mv (.tmp 21)), none⟩]
def r_f338_5 : List SOp :=
   [.op ⟨(some 13), (.mv (.tmp 5)), none⟩,
    .op ⟨(some 14), (.bin .add (.tmp 13) (.av (.int .i64 1))), none⟩,
    .op ⟨(some 5), (.mv (.tmp 14)), none⟩]
def r_f338_6 : List SOp :=
   [.op ⟨(some 6), (.mv (.av (.int .u32 1))), none⟩,
    .op ⟨(some 7), (.mv (.av (.int .u32 16777619))), none⟩]
def r_f338_7 : List SOp :=
   [.op ⟨(some 22), (.mv (.tmp 0)), none⟩,
    .op ⟨(some 23), (.len true (.tmp 22)), none⟩,
    .op ⟨(some 8), (.mv (.tmp 23)), none⟩]
def r_f338_8 : List SOp :=
   [.op ⟨(some 24), (.mv (.tmp 8)), none⟩,
    .op ⟨(some 25), (.bin .gtr (.tmp 24) (.av (.int .i64 0))), none⟩]
def r_f338_9 : List SOp :=
   [.op ⟨(some 28), (.mv (.tmp 8)), none⟩,
    .op ⟨(some 29), (.bin .and (.tmp 28) (.av (.int .i64 1))), none⟩,
    .op ⟨(some 30), (.bin .neq (.tmp 29) (.av (.int .i64 0))), none⟩]
def r_f338_10 : List SOp :=
   [.op ⟨(some 31), (.mv (.tmp 6)), none⟩,
    .op ⟨(some 32), (.mv (.tmp 7)), none⟩,
    .op ⟨(some 33), (.bin .mul (.tmp 31) (.tmp 32)), none⟩,
    .op ⟨(some 6), (.mv (.tmp 33)), none⟩]
def r_f338_11 : List SOp :=
   [.op ⟨(some 34), (.mv (.tmp 7)), none⟩,
    .op ⟨(some 35), (.mv (.tmp 7)), none⟩,
    .op ⟨(some 36), (.bin .mul (.tmp 34) (.tmp 35)), none⟩,
    .op ⟨(some 7), (.mv (.tmp 36)), none⟩]
def r_f338_12 : List SOp :=
   [.op ⟨(some 26), (.mv (.tmp 8)), none⟩,
    .op ⟨(some 27), (.bin .shr (.tmp 26) (.av (.int .u64 1))), none⟩,
    .op ⟨(some 8), (.mv (.tmp 27)), none⟩]
def r_f338_13 : List SOp :=
   [.op ⟨(some 37), (.mv (.tmp 4)), none⟩,
    .op ⟨(some 38), (.mv (.tmp 6)), none⟩,
    .op ⟨(some 2), (.mv (.tmp 37)), none⟩,
    .op ⟨(some 3), (.mv (.tmp 38)), none⟩]
def c_f338 : LFun := ⟨39, (.seq (.sreg r_f338_0 [])
  (.seq (.sreg r_f338_1 [])
  (.seq (.seq (.sreg r_f338_2 [])
  (.block 0 (.loop (.seq (.seq (.sreg r_f338_3 [true, false, false, false])
  (.cond (.tmp 12) .skip
  (.exit 0)))
  (.seq (.block 1 (.sreg r_f338_4 [true, false, false, false, false, false, false, false]))
  (.sreg r_f338_5 [true, false, false]))))))
  (.seq (.sreg r_f338_6 [])
  (.seq (.seq (.sreg r_f338_7 [true, false, false])
  (.block 2 (.loop (.seq (.seq (.sreg r_f338_8 [true, false])
  (.cond (.tmp 25) .skip
  (.exit 2)))
  (.seq (.block 3 (.seq (.seq (.sreg r_f338_9 [true, false, false])
  (.cond (.tmp 30) (.sreg r_f338_10 [true, false, false, false])
  .skip))
  (.sreg r_f338_11 [true, false, false, false])))
  (.sreg r_f338_12 [true, false, false]))))))
  (.seq (.sreg r_f338_13 [true, true, false, false])
  .ret)))))), [(.tmp 2), (.tmp 3)]⟩
def o_f338 : Nat → Nat → Nat := fun _ _ => 1
theorem c_f338_eq : lowF Tryz.prog o_f338 338 = some c_f338.raw := by kernel_rfl
theorem c_f338_ok : c_f338.code.okc = true := by kernel_rfl
/-! internal/strconv.Itoa -/
def r_f334_0 : List SOp :=
   [.op ⟨(some 2), (.mv (.av (.str []))), none⟩]
def r_f334_1 : List SOp :=
   [.op ⟨(some 3), (.mv (.tmp 0)), none⟩,
    .op ⟨(some 4), (.call 207 [(.tmp 3), (.av (.int .i64 10))]), none⟩,
    .op ⟨(some 2), (.mv (.tmp 4)), none⟩]
def c_f334 : LFun := ⟨5, (.seq (.sreg r_f334_0 [])
  (.seq (.sreg r_f334_1 [true, false, false])
  .ret)), [(.tmp 2)]⟩
def o_f334 : Nat → Nat → Nat := fun _ _ => 1
theorem c_f334_eq : lowF Tryz.prog o_f334 334 = some c_f334.raw := by kernel_rfl
theorem c_f334_ok : c_f334.code.okc = true := by kernel_rfl
/-! math/bits.TrailingZeros32 -/
def r_f335_0 : List SOp :=
   [.op ⟨(some 2), (.mv (.av (.int .i64 0))), none⟩]
def r_f335_1 : List SOp :=
   [.op ⟨(some 3), (.mv (.tmp 0)), none⟩,
    .op ⟨(some 4), (.bin .eql (.tmp 3) (.av (.int .u32 0))), none⟩]
def r_f335_2 : List SOp :=
   [.op ⟨(some 2), (.mv (.av (.int .i64 32))), none⟩]
def r_f335_3 : List SOp :=
   [.op ⟨(some 5), (.mv (.tmp 0)), none⟩,
    .op ⟨(some 6), (.mv (.tmp 0)), none⟩,
    .op ⟨(some 7), (.un .neg (.tmp 6)), none⟩,
    .op ⟨(some 8), (.bin .and (.tmp 5) (.tmp 7)), none⟩,
    .op ⟨(some 9), (.bin .mul (.tmp 8) (.av (.int .u32 125613361))), none⟩,
    .op ⟨(some 10), (.bin .shr (.tmp 9) (.av (.int .u64 27))), none⟩,
    .op ⟨(some 11), (.iaddrA 32 1 (.av (.gptr 7 0)) (.tmp 10)), none⟩,
    .op ⟨(some 12), (.load false 1 (.tmp 11)), none⟩,
    .op ⟨(some 13), (.conv .i64 (.tmp 12)), none⟩,
    .op ⟨(some 2), (.mv (.tmp 13)), none⟩]
def c_f335 : LFun := ⟨14, (.seq (.sreg r_f335_0 [])
  (.seq (.seq (.sreg r_f335_1 [true, false])
  (.cond (.tmp 4) (.seq (.sreg r_f335_2 [])
  .ret)
  .skip))
  (.seq (.sreg r_f335_3 [true, false, false, false, false, false, false, false, false, false])
  .ret))), [(.tmp 2)]⟩
def o_f335 : Nat → Nat → Nat := fun _ _ => 1
theorem c_f335_eq : lowF Tryz.prog o_f335 335 = some c_f335.raw := by kernel_rfl
theorem c_f335_ok : c_f335.code.okc = true := by kernel_rfl
/-! math/bits.TrailingZeros64 -/
def r_f336_0 : List SOp :=
   [.op ⟨(some 2), (.mv (.av (.int .i64 0))), none⟩]
def r_f336_1 : List SOp :=
   [.op ⟨(some 3), (.mv (.tmp 0)), none⟩,
    .op ⟨(some 4), (.bin .eql (.tmp 3) (.av (.int .u64 0))), none⟩]
def r_f336_2 : List SOp :=
   [.op ⟨(some 2), (.mv (.av (.int .i64 64))), none⟩]
def r_f336_3 : List SOp :=
   [.op ⟨(some 5), (.mv (.tmp 0)), none⟩,
    .op ⟨(some 6), (.mv (.tmp 0)), none⟩,
    .op ⟨(some 7), (.un .neg (.tmp 6)), none⟩,
    .op ⟨(some 8), (.bin .and (.tmp 5) (.tmp 7)), none⟩,
    .op ⟨(some 9), (.bin .mul (.tmp 8) (.av (.int .u64 285870213051353865))), none⟩,
    .op ⟨(some 10), (.bin .shr (.tmp 9) (.av (.int .u64 58))), none⟩,
    .op ⟨(some 11), (.iaddrA 64 1 (.av (.gptr 8 0)) (.tmp 10)), none⟩,
    .op ⟨(some 12), (.load false 1 (.tmp 11)), none⟩,
    .op ⟨(some 13), (.conv .i64 (.tmp 12)), none⟩,
    .op ⟨(some 2), (.mv (.tmp 13)), none⟩]
def c_f336 : LFun := ⟨14, (.seq (.sreg r_f336_0 [])
  (.seq (.seq (.sreg r_f336_1 [true, false])
  (.cond (.tmp 4) (.seq (.sreg r_f336_2 [])
  .ret)
  .skip))
  (.seq (.sreg r_f336_3 [true, false, false, false, false, false, false, false, false, false])
  .ret))), [(.tmp 2)]⟩
def o_f336 : Nat → Nat → Nat := fun _ _ => 1
theorem c_f336_eq : lowF Tryz.prog o_f336 336 = some c_f336.raw := by kernel_rfl
theorem c_f336_ok : c_f336.code.okc = true := by kernel_rfl
/-! math/bits.Len32 -/
def r_f203_0 : List SOp :=
   [.op ⟨(some 2), (.mv (.av (.int .i64 0))), none⟩]
def r_f203_1 : List SOp :=
   [.op ⟨(some 3), (.mv (.tmp 0)), none⟩,
    .op ⟨(some 4), (.bin .geq (.tmp 3) (.av (.int .u32 65536))), none⟩]
def r_f203_2 : List SOp :=
   [.op ⟨(some 5), (.mv (.tmp 0)), none⟩,
    .op ⟨(some 6), (.bin .shr (.tmp 5) (.av (.int .u64 16))), none⟩,
    .op ⟨(some 0), (.mv (.tmp 6)), none⟩]
def r_f203_3 : List SOp :=
   [.op ⟨(some 2), (.mv (.av (.int .i64 16))), none⟩]
def r_f203_4 : List SOp :=
   [.op ⟨(some 7), (.mv (.tmp 0)), none⟩,
    .op ⟨(some 8), (.bin .geq (.tmp 7) (.av (.int .u32 256))), none⟩]
def r_f203_5 : List SOp :=
   [.op ⟨(some 9), (.mv (.tmp 0)), none⟩,
    .op ⟨(some 10), (.bin .shr (.tmp 9) (.av (.int .u64 8))), none⟩,
    .op ⟨(some 0), (.mv (.tmp 10)), none⟩]
def r_f203_6 : List SOp :=
   [.op ⟨(some 11), (.mv (.tmp 2)), none⟩,
    .op ⟨(some 12), (.bin .add (.tmp 11) (.av (.int .i64 8))), none⟩,
    .op ⟨(some 2), (.mv (.tmp 12)), none⟩]
def r_f203_7 : List SOp :=
   [.op ⟨(some 13), (.mv (.tmp 2)), none⟩,
    .op ⟨(some 14), (.mv (.tmp 0)), none⟩,
    .op ⟨(some 15), (.conv .u8 (.tmp 14)), none⟩,
    .op ⟨(some 16), (.idxS (.av (.str [0, 1, 2, 2, 3, 3, 3, 3, 4, 4, 4, 4, 4, 4, 4, 4, 5, 5, 5, 5, 5, 5, 5, 5, 5, 5, 5, 5, 5, 5, 5, 5, 6, 6, 6, 6, 6, 6, 6, 6, 6, 6, 6, 6, 6, 6, 6, 6, 6, 6, 6, 6, 6, 6, 6, 6, 6, 6, 6, 6, 6, 6, 6, 6, 7, 7, 7, 7, 7, 7, 7, 7, 7, 7, 7, 7, 7, 7, 7, 7, 7, 7, 7, 7, 7, 7, 7, 7, 7, 7, 7, 7, 7, 7, 7, 7, 7, 7, 7, 7, 7, 7, 7, 7, 7, 7, 7, 7, 7, 7, 7, 7, 7, 7, 7, 7, 7, 7, 7, 7, 7, 7, 7, 7, 7, 7, 7, 7, 8, 8, 8, 8, 8, 8, 8, 8, 8, 8, 8, 8, 8, 8, 8, 8, 8, 8, 8, 8, 8, 8, 8, 8, 8, 8, 8, 8, 8, 8, 8, 8, 8, 8, 8, 8, 8, 8, 8, 8, 8, 8, 8, 8, 8, 8, 8, 8, 8, 8, 8, 8, 8, 8, 8, 8, 8, 8, 8, 8, 8, 8, 8, 8, 8, 8, 8, 8, 8, 8, 8, 8, 8, 8, 8, 8, 8, 8, 8, 8, 8, 8, 8, 8, 8, 8, 8, 8, 8, 8, 8, 8, 8, 8, 8, 8, 8, 8, 8, 8, 8, 8, 8, 8, 8, 8, 8, 8, 8, 8, 8, 8, 8, 8, 8, 8, 8, 8, 8, 8, 8, 8, 8, 8, 8, 8, 8, 8])) (.tmp 15)), none⟩,
    .op ⟨(some 17), (.conv .i64 (.tmp 16)), none⟩,
    .op ⟨(some 18), (.bin .add (.tmp 13) (.tmp 17)), none⟩,
    .op ⟨(some 2), (.mv (.tmp 18)), none⟩]
def c_f203 : LFun := ⟨19, (.seq (.sreg r_f203_0 [])
  (.seq (.seq (.sreg r_f203_1 [true, false])
  (.cond (.tmp 4) (.seq (.sreg r_f203_2 [true, false, false])
  (.sreg r_f203_3 []))
  .skip))
  (.seq (.seq (.sreg r_f203_4 [true, false])
  (.cond (.tmp 8) (.seq (.sreg r_f203_5 [true, false, false])
  (.sreg r_f203_6 [true, false, false]))
  .skip))
  (.seq (.sreg r_f203_7 [true, false, false, false, false, false, false])
  .ret)))), [(.tmp 2)]⟩
def o_f203 : Nat → Nat → Nat := fun _ _ => 1
theorem c_f203_eq : lowF Tryz.prog o_f203 203 = some c_f203.raw := by kernel_rfl
theorem c_f203_ok : c_f203.code.okc = true := by kernel_rfl
/-! slices.insertionSortOrdered[string] -/
def r_f316_0 : List SOp :=
   [.op ⟨(some 8), (.mv (.tmp 1)), none⟩,
    .op ⟨(some 9), (.bin .add (.tmp 8) (.av (.int .i64 1))), none⟩,
    .op ⟨(some 6), (.mv (.tmp 9)), none⟩]
def r_f316_1 : List SOp :=
   [.op ⟨(some 10), (.mv (.tmp 6)), none⟩,
    .op ⟨(some 11), (.mv (.tmp 2)), none⟩,
    .op ⟨(some 12), (.bin .lss (.tmp 10) (.tmp 11)), none⟩]
def r_f316_2 : List SOp :=
   [.op ⟨(some 15), (.mv (.tmp 6)), none⟩,
    .op ⟨(some 7), (.mv (.tmp 15)), none⟩]
def r_f316_3 : List (LOper × Kd) :=
   [(⟨(some 16), (.mv (.tmp 7)), none⟩, .pure),
    (⟨(some 17), (.mv (.tmp 1)), none⟩, .pure),
    (⟨(some 18), (.bin .gtr (.tmp 16) (.tmp 17)), none⟩, .pure),
    (⟨(some 19), (.mv (.tmp 18)), none⟩, .pure),
    (⟨(some 20), (.mv (.tmp 0)), (some (19, true))⟩, .pure),
    (⟨(some 21), (.mv (.tmp 7)), (some (19, true))⟩, .pure),
    (⟨(some 22), (.iaddr 1 (.tmp 20) (.tmp 21)), (some (19, true))⟩, (.read 0 0)),
    (⟨(some 23), (.load false 1 (.tmp 22)), (some (19, true))⟩, (.read 0 0)),
    (⟨(some 24), (.mv (.tmp 0)), (some (19, true))⟩, .pure),
    (⟨(some 25), (.mv (.tmp 7)), (some (19, true))⟩, .pure),
    (⟨(some 26), (.bin .sub (.tmp 25) (.av (.int .i64 1))), (some (19, true))⟩, .pure),
    (⟨(some 27), (.iaddr 1 (.tmp 24) (.tmp 26)), (some (19, true))⟩, (.read 0 0)),
    (⟨(some 28), (.load false 1 (.tmp 27)), (some (19, true))⟩, (.read 0 0))]
def r_f316_3t : List LOper :=
   [⟨(some 29), (.call 322 [(.tmp 23), (.tmp 28)]), (some (19, true))⟩,
    ⟨(some 30), (.pick (.tmp 19) (.tmp 29) (.av (.bool false))), none⟩]
def r_f316_4 : List (LOper × Kd) :=
   [(⟨(some 33), (.mv (.tmp 0)), none⟩, .pure),
    (⟨(some 34), (.mv (.tmp 7)), none⟩, .pure),
    (⟨(some 35), (.mv (.tmp 0)), none⟩, .pure),
    (⟨(some 36), (.mv (.tmp 7)), none⟩, .pure),
    (⟨(some 37), (.bin .sub (.tmp 36) (.av (.int .i64 1))), none⟩, .pure),
    (⟨(some 38), (.mv (.tmp 0)), none⟩, .pure),
    (⟨(some 39), (.mv (.tmp 7)), none⟩, .pure),
    (⟨(some 40), (.bin .sub (.tmp 39) (.av (.int .i64 1))), none⟩, .pure),
    (⟨(some 41), (.iaddr 1 (.tmp 38) (.tmp 40)), none⟩, (.read 0 0)),
    (⟨(some 42), (.load false 1 (.tmp 41)), none⟩, (.read 0 0)),
    (⟨(some 43), (.mv (.tmp 0)), none⟩, .pure),
    (⟨(some 44), (.mv (.tmp 7)), none⟩, .pure),
    (⟨(some 45), (.iaddr 1 (.tmp 43) (.tmp 44)), none⟩, (.read 0 0)),
    (⟨(some 46), (.load false 1 (.tmp 45)), none⟩, (.read 0 0)),
    (⟨(some 47), (.iaddr 1 (.tmp 33) (.tmp 34)), none⟩, (.read 0 0)),
    (⟨none, (.store 1 (.tmp 47) (.tmp 42)), none⟩, .eff)]
def r_f316_4t : List LOper :=
   [⟨(some 48), (.iaddr 1 (.tmp 35) (.tmp 37)), none⟩,
    ⟨none, (.store 1 (.tmp 48) (.tmp 46)), none⟩]
def r_f316_5 : List SOp :=
   [.op ⟨(some 31), (.mv (.tmp 7)), none⟩,
    .op ⟨(some 32), (.bin .sub (.tmp 31) (.av (.int .i64 1))), none⟩,
    .op ⟨(some 7), (.mv (.tmp 32)), none⟩]
def r_f316_6 : List SOp :=
   [.op ⟨(some 13), (.mv (.tmp 6)), none⟩,
    .op ⟨(some 14), (.bin .add (.tmp 13) (.av (.int .i64 1))), none⟩,
    .op ⟨(some 6), (.mv (.tmp 14)), none⟩]
def c_f316 : LFun := ⟨49, (.seq (.sreg r_f316_0 [true, false, false])
  (.block 0 (.loop (.seq (.seq (.sreg r_f316_1 [true, false, false])
  (.cond (.tmp 12) .skip
  (.exit 0)))
  (.seq (.block 1 (.seq (.sreg r_f316_2 [true, false])
  (.block 2 (.loop (.seq (.seq (.dregM r_f316_3 r_f316_3t [true, false, false, false, false, false, false, false, false, false, false, false, false, false, false])
  (.cond (.tmp 30) .skip
  (.exit 2)))
  (.seq (.block 3 (.dregM r_f316_4 r_f316_4t [false, false, false, false, false, false, false, false, false, false, false, false, false, false, false, false]))
  (.sreg r_f316_5 [true, false, false])))))))
  (.sreg r_f316_6 [true, false, false])))))), []⟩
def o_f316 : Nat → Nat → Nat := fun r i => if r = 4 ∧ i = 13 then 3 else 1
theorem c_f316_eq : lowF Tryz.prog o_f316 316 = some c_f316.raw := by kernel_rfl
theorem c_f316_ok : c_f316.code.okc = true := by kernel_rfl
/-! slices.heapSortOrdered[string] -/
def r_f317_0 : List SOp :=
   [.op ⟨(some 11), (.mv (.tmp 1)), none⟩,
    .op ⟨(some 6), (.mv (.tmp 11)), none⟩]
def r_f317_1 : List SOp :=
   [.op ⟨(some 7), (.mv (.av (.int .i64 0))), none⟩]
def r_f317_2 : List SOp :=
   [.op ⟨(some 12), (.mv (.tmp 2)), none⟩,
    .op ⟨(some 13), (.mv (.tmp 1)), none⟩,
    .op ⟨(some 14), (.bin .sub (.tmp 12) (.tmp 13)), none⟩,
    .op ⟨(some 8), (.mv (.tmp 14)), none⟩]
def r_f317_3 : List SOp :=
   [.op ⟨(some 15), (.mv (.tmp 8)), none⟩,
    .op ⟨(some 16), (.bin .sub (.tmp 15) (.av (.int .i64 1))), none⟩,
    .op ⟨(some 17), (.bin .quo (.tmp 16) (.av (.int .i64 2))), none⟩,
    .op ⟨(some 9), (.mv (.tmp 17)), none⟩]
def r_f317_4 : List SOp :=
   [.op ⟨(some 18), (.mv (.tmp 9)), none⟩,
    .op ⟨(some 19), (.bin .geq (.tmp 18) (.av (.int .i64 0))), none⟩]
def r_f317_5 : List SOp :=
   [.op ⟨(some 22), (.mv (.tmp 0)), none⟩,
    .op ⟨(some 23), (.mv (.tmp 9)), none⟩,
    .op ⟨(some 24), (.mv (.tmp 8)), none⟩,
    .op ⟨(some 25), (.mv (.tmp 6)), none⟩,
    .op ⟨(some 26), (.call 339 [(.tmp 22), (.tmp 23), (.tmp 24), (.tmp 25)]), none⟩]
def r_f317_6 : List SOp :=
   [.op ⟨(some 20), (.mv (.tmp 9)), none⟩,
    .op ⟨(some 21), (.bin .sub (.tmp 20) (.av (.int .i64 1))), none⟩,
    .op ⟨(some 9), (.mv (.tmp 21)), none⟩]
def r_f317_7 : List SOp :=
   [.op ⟨(some 27), (.mv (.tmp 8)), none⟩,
    .op ⟨(some 28), (.bin .sub (.tmp 27) (.av (.int .i64 1))), none⟩,
    .op ⟨(some 10), (.mv (.tmp 28)), none⟩]
def r_f317_8 : List SOp :=
   [.op ⟨(some 29), (.mv (.tmp 10)), none⟩,
    .op ⟨(some 30), (.bin .geq (.tmp 29) (.av (.int .i64 0))), none⟩]
def r_f317_9 : List (LOper × Kd) :=
   [(⟨(some 33), (.mv (.tmp 0)), none⟩, .pure),
    (⟨(some 34), (.mv (.tmp 6)), none⟩, .pure),
    (⟨(some 35), (.mv (.tmp 0)), none⟩, .pure),
    (⟨(some 36), (.mv (.tmp 6)), none⟩, .pure),
    (⟨(some 37), (.mv (.tmp 10)), none⟩, .pure),
    (⟨(some 38), (.bin .add (.tmp 36) (.tmp 37)), none⟩, .pure),
    (⟨(some 39), (.mv (.tmp 0)), none⟩, .pure),
    (⟨(some 40), (.mv (.tmp 6)), none⟩, .pure),
    (⟨(some 41), (.mv (.tmp 10)), none⟩, .pure),
    (⟨(some 42), (.bin .add (.tmp 40) (.tmp 41)), none⟩, .pure),
    (⟨(some 43), (.iaddr 1 (.tmp 39) (.tmp 42)), none⟩, (.read 0 0)),
    (⟨(some 44), (.load false 1 (.tmp 43)), none⟩, (.read 0 0)),
    (⟨(some 45), (.mv (.tmp 0)), none⟩, .pure),
    (⟨(some 46), (.mv (.tmp 6)), none⟩, .pure),
    (⟨(some 47), (.iaddr 1 (.tmp 45) (.tmp 46)), none⟩, (.read 0 0)),
    (⟨(some 48), (.load false 1 (.tmp 47)), none⟩, (.read 0 0)),
    (⟨(some 49), (.iaddr 1 (.tmp 33) (.tmp 34)), none⟩, (.read 0 0)),
    (⟨none, (.store 1 (.tmp 49) (.tmp 44)), none⟩, .eff)]
def r_f317_9t : List LOper :=
   [⟨(some 50), (.iaddr 1 (.tmp 35) (.tmp 38)), none⟩,
    ⟨none, (.store 1 (.tmp 50) (.tmp 48)), none⟩]
def r_f317_10 : List SOp :=
   [.op ⟨(some 51), (.mv (.tmp 0)), none⟩,
    .op ⟨(some 52), (.mv (.tmp 7)), none⟩,
    .op ⟨(some 53), (.mv (.tmp 10)), none⟩,
    .op ⟨(some 54), (.mv (.tmp 6)), none⟩,
    .op ⟨(some 55), (.call 339 [(.tmp 51), (.tmp 52), (.tmp 53), (.tmp 54)]), none⟩]
def r_f317_11 : List SOp :=
   [.op ⟨(some 31), (.mv (.tmp 10)), none⟩,
    .op ⟨(some 32), (.bin .sub (.tmp 31) (.av (.int .i64 1))), none⟩,
    .op ⟨(some 10), (.mv (.tmp 32)), none⟩]
def c_f317 : LFun := ⟨56, (.seq (.sreg r_f317_0 [true, false])
  (.seq (.sreg r_f317_1 [])
  (.seq (.sreg r_f317_2 [true, false, false, false])
  (.seq (.seq (.sreg r_f317_3 [true, false, false, false])
  (.block 0 (.loop (.seq (.seq (.sreg r_f317_4 [true, false])
  (.cond (.tmp 19) .skip
  (.exit 0)))
  (.seq (.block 1 (.sreg r_f317_5 [false, false, false, false, false]))
  (.sreg r_f317_6 [true, false, false]))))))
  (.seq (.sreg r_f317_7 [true, false, false])
  (.block 2 (.loop (.seq (.seq (.sreg r_f317_8 [true, false])
  (.cond (.tmp 30) .skip
  (.exit 2)))
  (.seq (.block 3 (.seq (.dregM r_f317_9 r_f317_9t [false, false, false, false, false, false, false, false, false, false, false, false, false, false, false, false, false, false])
  (.sreg r_f317_10 [false, false, false, false, false])))
  (.sreg r_f317_11 [true, false, false])))))))))), []⟩
def o_f317 : Nat → Nat → Nat := fun _ _ => 1
theorem c_f317_eq : lowF Tryz.prog o_f317 317 = some c_f317.raw := by kernel_rfl
theorem c_f317_ok : c_f317.code.okc = true := by kernel_rfl
/-! slices.breakPatternsOrdered[string] -/
def r_f318_0 : List SOp :=
   [.op ⟨(some 11), (.mv (.tmp 2)), none⟩,
    .op ⟨(some 12), (.mv (.tmp 1)), none⟩,
    .op ⟨(some 13), (.bin .sub (.tmp 11) (.tmp 12)), none⟩,
    .op ⟨(some 6), (.mv (.tmp 13)), none⟩]
def r_f318_1 : List SOp :=
   [.op ⟨(some 14), (.mv (.tmp 6)), none⟩,
    .op ⟨(some 15), (.bin .geq (.tmp 14) (.av (.int .i64 8))), none⟩]
def r_f318_2 : List SOp :=
   [.op ⟨(some 16), (.mv (.tmp 6)), none⟩,
    .op ⟨(some 17), (.conv .u64 (.tmp 16)), none⟩,
    .op ⟨(some 7), (.alloc [(.int .u64 0)]), none⟩,
    .op ⟨none, (.store 1 (.tmp 7) (.tmp 17)), none⟩]
def r_f318_3 : List SOp :=
   [.op ⟨(some 18), (.mv (.tmp 6)), none⟩,
    .op ⟨(some 19), (.call 250 [(.tmp 18)]), none⟩,
    .op ⟨(some 8), (.mv (.tmp 19)), none⟩]
def r_f318_4 : List SOp :=
   [.op ⟨(some 20), (.mv (.tmp 1)), none⟩,
    .op ⟨(some 21), (.mv (.tmp 6)), none⟩,
    .op ⟨(some 22), (.bin .quo (.tmp 21) (.av (.int .i64 4))), none⟩,
    .op ⟨(some 23), (.bin .mul (.tmp 22) (.av (.int .i64 2))), none⟩,
    .op ⟨(some 24), (.bin .add (.tmp 20) (.tmp 23)), none⟩,
    .op ⟨(some 25), (.bin .sub (.tmp 24) (.av (.int .i64 1))), none⟩,
    .op ⟨(some 9), (.mv (.tmp 25)), none⟩]
def r_f318_5 : List SOp :=
   [.op ⟨(some 26), (.mv (.tmp 9)), none⟩,
    .op ⟨(some 27), (.mv (.tmp 1)), none⟩,
    .op ⟨(some 28), (.mv (.tmp 6)), none⟩,
    .op ⟨(some 29), (.bin .quo (.tmp 28) (.av (.int .i64 4))), none⟩,
    .op ⟨(some 30), (.bin .mul (.tmp 29) (.av (.int .i64 2))), none⟩,
    .op ⟨(some 31), (.bin .add (.tmp 27) (.tmp 30)), none⟩,
    .op ⟨(some 32), (.bin .add (.tmp 31) (.av (.int .i64 1))), none⟩,
    .op ⟨(some 33), (.bin .leq (.tmp 26) (.tmp 32)), none⟩]
def r_f318_6 : List SOp :=
   [.op ⟨(some 36), (.call 251 [(.tmp 7)]), none⟩,
    .op ⟨(some 37), (.mv (.tmp 8)), none⟩,
    .op ⟨(some 38), (.bin .sub (.tmp 37) (.av (.int .u64 1))), none⟩,
    .op ⟨(some 39), (.bin .and (.tmp 36) (.tmp 38)), none⟩,
    .op ⟨(some 40), (.conv .i64 (.tmp 39)), none⟩,
    .op ⟨(some 10), (.mv (.tmp 40)), none⟩]
def r_f318_7 : List SOp :=
   [.op ⟨(some 41), (.mv (.tmp 10)), none⟩,
    .op ⟨(some 42), (.mv (.tmp 6)), none⟩,
    .op ⟨(some 43), (.bin .geq (.tmp 41) (.tmp 42)), none⟩]
def r_f318_8 : List SOp :=
   [.op ⟨(some 44), (.mv (.tmp 10)), none⟩,
    .op ⟨(some 45), (.mv (.tmp 6)), none⟩,
    .op ⟨(some 46), (.bin .sub (.tmp 44) (.tmp 45)), none⟩,
    .op ⟨(some 10), (.mv (.tmp 46)), none⟩]
def r_f318_9 : List (LOper × Kd) :=
   [(⟨(some 47), (.mv (.tmp 0)), none⟩, .pure),
    (⟨(some 48), (.mv (.tmp 9)), none⟩, .pure),
    (⟨(some 49), (.mv (.tmp 0)), none⟩, .pure),
    (⟨(some 50), (.mv (.tmp 1)), none⟩, .pure),
    (⟨(some 51), (.mv (.tmp 10)), none⟩, .pure),
    (⟨(some 52), (.bin .add (.tmp 50) (.tmp 51)), none⟩, .pure),
    (⟨(some 53), (.mv (.tmp 0)), none⟩, .pure),
    (⟨(some 54), (.mv (.tmp 1)), none⟩, .pure),
    (⟨(some 55), (.mv (.tmp 10)), none⟩, .pure),
    (⟨(some 56), (.bin .add (.tmp 54) (.tmp 55)), none⟩, .pure),
    (⟨(some 57), (.iaddr 1 (.tmp 53) (.tmp 56)), none⟩, (.read 0 0)),
    (⟨(some 58), (.load false 1 (.tmp 57)), none⟩, (.read 0 0)),
    (⟨(some 59), (.mv (.tmp 0)), none⟩, .pure),
    (⟨(some 60), (.mv (.tmp 9)), none⟩, .pure),
    (⟨(some 61), (.iaddr 1 (.tmp 59) (.tmp 60)), none⟩, (.read 0 0)),
    (⟨(some 62), (.load false 1 (.tmp 61)), none⟩, (.read 0 0)),
    (⟨(some 63), (.iaddr 1 (.tmp 47) (.tmp 48)), none⟩, (.read 0 0)),
    (⟨none, (.store 1 (.tmp 63) (.tmp 58)), none⟩, .eff)]
def r_f318_9t : List LOper :=
   [⟨(some 64), (.iaddr 1 (.tmp 49) (.tmp 52)), none⟩,
    ⟨none, (.store 1 (.tmp 64) (.tmp 62)), none⟩]
def r_f318_10 : List SOp :=
   [.op ⟨(some 34), (.mv (.tmp 9)), none⟩,
    .op ⟨(some 35), (.bin .add (.tmp 34) (.av (.int .i64 1))), none⟩,
    .op ⟨(some 9), (.mv (.tmp 35)), none⟩]
def c_f318 : LFun := ⟨65, (.seq (.sreg r_f318_0 [true, false, false, false])
  (.seq (.sreg r_f318_1 [true, false])
  (.cond (.tmp 15) (.seq (.sreg r_f318_2 [true, false, false])
  (.seq (.sreg r_f318_3 [true, false, false])
  (.seq (.sreg r_f318_4 [true, false, false, false, false, false, false])
  (.block 0 (.loop (.seq (.seq (.sreg r_f318_5 [true, false, false, false, false, false, false, false])
  (.cond (.tmp 33) .skip
  (.exit 0)))
  (.seq (.block 1 (.seq (.sreg r_f318_6 [true, false, false, false, false, false])
  (.seq (.seq (.sreg r_f318_7 [true, false, false])
  (.cond (.tmp 43) (.sreg r_f318_8 [true, false, false, false])
  .skip))
  (.dregM r_f318_9 r_f318_9t [false, false, false, false, false, false, false, false, false, false, false, false, false, false, false, false, false, false]))))
  (.sreg r_f318_10 [true, false, false]))))))))
  .skip))), []⟩
def o_f318 : Nat → Nat → Nat := fun _ _ => 1
theorem c_f318_eq : lowF Tryz.prog o_f318 318 = some c_f318.raw := by kernel_rfl
theorem c_f318_ok : c_f318.code.okc = true := by kernel_rfl
/-! slices.choosePivotOrdered[string] -/
def r_f319_0 : List SOp :=
   [.op ⟨(some 6), (.mv (.av (.int .i64 0))), none⟩,
    .op ⟨(some 7), (.mv (.av (.int .i64 0))), none⟩]
def r_f319_1 : List SOp :=
   [.op ⟨(some 13), (.mv (.tmp 2)), none⟩,
    .op ⟨(some 14), (.mv (.tmp 1)), none⟩,
    .op ⟨(some 15), (.bin .sub (.tmp 13) (.tmp 14)), none⟩,
    .op ⟨(some 8), (.mv (.tmp 15)), none⟩]
def r_f319_2 : List SOp :=
   [.op ⟨(some 9), (.alloc [(.int .i64 0)]), none⟩]
def r_f319_3 : List SOp :=
   [.op ⟨(some 16), (.mv (.tmp 1)), none⟩,
    .op ⟨(some 17), (.mv (.tmp 8)), none⟩,
    .op ⟨(some 18), (.bin .quo (.tmp 17) (.av (.int .i64 4))), none⟩,
    .op ⟨(some 19), (.bin .mul (.tmp 18) (.av (.int .i64 1))), none⟩,
    .op ⟨(some 20), (.bin .add (.tmp 16) (.tmp 19)), none⟩,
    .op ⟨(some 10), (.mv (.tmp 20)), none⟩]
def r_f319_4 : List SOp :=
   [.op ⟨(some 21), (.mv (.tmp 1)), none⟩,
    .op ⟨(some 22), (.mv (.tmp 8)), none⟩,
    .op ⟨(some 23), (.bin .quo (.tmp 22) (.av (.int .i64 4))), none⟩,
    .op ⟨(some 24), (.bin .mul (.tmp 23) (.av (.int .i64 2))), none⟩,
    .op ⟨(some 25), (.bin .add (.tmp 21) (.tmp 24)), none⟩,
    .op ⟨(some 11), (.mv (.tmp 25)), none⟩]
def r_f319_5 : List SOp :=
   [.op ⟨(some 26), (.mv (.tmp 1)), none⟩,
    .op ⟨(some 27), (.mv (.tmp 8)), none⟩,
    .op ⟨(some 28), (.bin .quo (.tmp 27) (.av (.int .i64 4))), none⟩,
    .op ⟨(some 29), (.bin .mul (.tmp 28) (.av (.int .i64 3))), none⟩,
    .op ⟨(some 30), (.bin .add (.tmp 26) (.tmp 29)), none⟩,
    .op ⟨(some 12), (.mv (.tmp 30)), none⟩]
def r_f319_6 : List SOp :=
   [.op ⟨(some 31), (.mv (.tmp 8)), none⟩,
    .op ⟨(some 32), (.bin .geq (.tmp 31) (.av (.int .i64 8))), none⟩]
def r_f319_7 : List SOp :=
   [.op ⟨(some 33), (.mv (.tmp 8)), none⟩,
    .op ⟨(some 34), (.bin .geq (.tmp 33) (.av (.int .i64 50))), none⟩]
def r_f319_8 : List SOp :=
   [.op ⟨(some 35), (.mv (.tmp 0)), none⟩,
    .op ⟨(some 36), (.mv (.tmp 10)), none⟩,
    .op ⟨(some 37), (.call 340 [(.tmp 35), (.tmp 36), (.tmp 9)]), none⟩,
    .op ⟨(some 10), (.mv (.tmp 37)), none⟩]
def r_f319_9 : List SOp :=
   [.op ⟨(some 38), (.mv (.tmp 0)), none⟩,
    .op ⟨(some 39), (.mv (.tmp 11)), none⟩,
    .op ⟨(some 40), (.call 340 [(.tmp 38), (.tmp 39), (.tmp 9)]), none⟩,
    .op ⟨(some 11), (.mv (.tmp 40)), none⟩]
def r_f319_10 : List SOp :=
   [.op ⟨(some 41), (.mv (.tmp 0)), none⟩,
    .op ⟨(some 42), (.mv (.tmp 12)), none⟩,
    .op ⟨(some 43), (.call 340 [(.tmp 41), (.tmp 42), (.tmp 9)]), none⟩,
    .op ⟨(some 12), (.mv (.tmp 43)), none⟩]
def r_f319_11 : List SOp :=
   [.op ⟨(some 44), (.mv (.tmp 0)), none⟩,
    .op ⟨(some 45), (.mv (.tmp 10)), none⟩,
    .op ⟨(some 46), (.mv (.tmp 11)), none⟩,
    .op ⟨(some 47), (.mv (.tmp 12)), none⟩,
    .op ⟨(some 48), (.call 341 [(.tmp 44), (.tmp 45), (.tmp 46), (.tmp 47), (.tmp 9)]), none⟩,
    .op ⟨(some 11), (.mv (.tmp 48)), none⟩]
def r_f319_12 : List SOp :=
   [.op ⟨(some 49), (.load false 1 (.tmp 9)), none⟩]
def r_f319_13 : List SOp :=
   [.op ⟨(some 52), (.bin .eql (.tmp 49) (.av (.int .i64 0))), none⟩,
    .op ⟨(some 51), (.mv (.tmp 52)), none⟩]
def r_f319_14 : List SOp :=
   [.op ⟨(some 53), (.mv (.tmp 11)), none⟩,
    .op ⟨(some 6), (.mv (.tmp 53)), none⟩,
    .op ⟨(some 7), (.mv (.av (.int .i64 1))), none⟩]
def r_f319_15 : List SOp :=
   [.op ⟨(some 55), (.bin .eql (.tmp 49) (.av (.int .i64 12))), none⟩,
    .op ⟨(some 54), (.mv (.tmp 55)), none⟩]
def r_f319_16 : List SOp :=
   [.op ⟨(some 56), (.mv (.tmp 11)), none⟩,
    .op ⟨(some 6), (.mv (.tmp 56)), none⟩,
    .op ⟨(some 7), (.mv (.av (.int .i64 2))), none⟩]
def r_f319_17 : List SOp :=
   [.op ⟨(some 50), (.mv (.tmp 11)), none⟩,
    .op ⟨(some 6), (.mv (.tmp 50)), none⟩,
    .op ⟨(some 7), (.mv (.av (.int .i64 0))), none⟩]
def c_f319 : LFun := ⟨57, (.seq (.sreg r_f319_0 [])
  (.seq (.sreg r_f319_1 [true, false, false, false])
  (.seq (.sreg r_f319_2 [])
  (.seq (.sreg r_f319_3 [true, false, false, false, false, false])
  (.seq (.sreg r_f319_4 [true, false, false, false, false, false])
  (.seq (.sreg r_f319_5 [true, false, false, false, false, false])
  (.seq (.seq (.sreg r_f319_6 [true, false])
  (.cond (.tmp 32) (.seq (.seq (.sreg r_f319_7 [true, false])
  (.cond (.tmp 34) (.seq (.sreg r_f319_8 [true, false, false, false])
  (.seq (.sreg r_f319_9 [true, false, false, false])
  (.sreg r_f319_10 [true, false, false, false])))
  .skip))
  (.sreg r_f319_11 [true, false, false, false, false, false]))
  .skip))
  (.seq (.sreg r_f319_12 [])
  (.block 0 (.seq (.sreg r_f319_13 [true, false])
  (.cond (.tmp 51) (.seq (.sreg r_f319_14 [true, true, false])
  .ret)
  (.seq (.sreg r_f319_15 [true, false])
  (.cond (.tmp 54) (.seq (.sreg r_f319_16 [true, true, false])
  .ret)
  (.seq (.sreg r_f319_17 [true, true, false])
  .ret)))))))))))))), [(.tmp 6), (.tmp 7)]⟩
def o_f319 : Nat → Nat → Nat := fun _ _ => 1
theorem c_f319_eq : lowF Tryz.prog o_f319 319 = some c_f319.raw := by kernel_rfl
theorem c_f319_ok : c_f319.code.okc = true := by kernel_rfl
/-! slices.reverseRangeOrdered[string] -/
def r_f320_0 : List SOp :=
   [.op ⟨(some 8), (.mv (.tmp 1)), none⟩,
    .op ⟨(some 6), (.mv (.tmp 8)), none⟩]
def r_f320_1 : List SOp :=
   [.op ⟨(some 9), (.mv (.tmp 2)), none⟩,
    .op ⟨(some 10), (.bin .sub (.tmp 9) (.av (.int .i64 1))), none⟩,
    .op ⟨(some 7), (.mv (.tmp 10)), none⟩]
def r_f320_2 : List SOp :=
   [.op ⟨(some 11), (.mv (.tmp 6)), none⟩,
    .op ⟨(some 12), (.mv (.tmp 7)), none⟩,
    .op ⟨(some 13), (.bin .lss (.tmp 11) (.tmp 12)), none⟩]
def r_f320_3 : List (LOper × Kd) :=
   [(⟨(some 14), (.mv (.tmp 0)), none⟩, .pure),
    (⟨(some 15), (.mv (.tmp 6)), none⟩, .pure),
    (⟨(some 16), (.mv (.tmp 0)), none⟩, .pure),
    (⟨(some 17), (.mv (.tmp 7)), none⟩, .pure),
    (⟨(some 18), (.mv (.tmp 0)), none⟩, .pure),
    (⟨(some 19), (.mv (.tmp 7)), none⟩, .pure),
    (⟨(some 20), (.iaddr 1 (.tmp 18) (.tmp 19)), none⟩, (.read 0 0)),
    (⟨(some 21), (.load false 1 (.tmp 20)), none⟩, (.read 0 0)),
    (⟨(some 22), (.mv (.tmp 0)), none⟩, .pure),
    (⟨(some 23), (.mv (.tmp 6)), none⟩, .pure),
    (⟨(some 24), (.iaddr 1 (.tmp 22) (.tmp 23)), none⟩, (.read 0 0)),
    (⟨(some 25), (.load false 1 (.tmp 24)), none⟩, (.read 0 0)),
    (⟨(some 26), (.iaddr 1 (.tmp 14) (.tmp 15)), none⟩, (.read 0 0)),
    (⟨none, (.store 1 (.tmp 26) (.tmp 21)), none⟩, .eff)]
def r_f320_3t : List LOper :=
   [⟨(some 27), (.iaddr 1 (.tmp 16) (.tmp 17)), none⟩,
    ⟨none, (.store 1 (.tmp 27) (.tmp 25)), none⟩]
def r_f320_4 : List SOp :=
   [.op ⟨(some 28), (.mv (.tmp 6)), none⟩,
    .op ⟨(some 29), (.bin .add (.tmp 28) (.av (.int .i64 1))), none⟩,
    .op ⟨(some 6), (.mv (.tmp 29)), none⟩]
def r_f320_5 : List SOp :=
   [.op ⟨(some 30), (.mv (.tmp 7)), none⟩,
    .op ⟨(some 31), (.bin .sub (.tmp 30) (.av (.int .i64 1))), none⟩,
    .op ⟨(some 7), (.mv (.tmp 31)), none⟩]
def c_f320 : LFun := ⟨32, (.seq (.sreg r_f320_0 [true, false])
  (.seq (.sreg r_f320_1 [true, false, false])
  (.block 0 (.loop (.seq (.seq (.sreg r_f320_2 [true, false, false])
  (.cond (.tmp 13) .skip
  (.exit 0)))
  (.block 1 (.seq (.dregM r_f320_3 r_f320_3t [false, false, false, false, false, false, false, false, false, false, false, false, false, false])
  (.seq (.sreg r_f320_4 [true, false, false])
  (.sreg r_f320_5 [true, false, false]))))))))), []⟩
def o_f320 : Nat → Nat → Nat := fun _ _ => 1
theorem c_f320_eq : lowF Tryz.prog o_f320 320 = some c_f320.raw := by kernel_rfl
theorem c_f320_ok : c_f320.code.okc = true := by kernel_rfl
/-! slices.partialInsertionSortOrdered[string] -/
def r_f321_0 : List SOp :=
   [.op ⟨(some 6), (.mv (.av (.bool false))), none⟩]
def r_f321_1 : List SOp :=
   [.op ⟨(some 11), (.mv (.tmp 1)), none⟩,
    .op ⟨(some 12), (.bin .add (.tmp 11) (.av (.int .i64 1))), none⟩,
    .op ⟨(some 7), (.mv (.tmp 12)), none⟩]
def r_f321_2 : List SOp :=
   [.op ⟨(some 8), (.mv (.av (.int .i64 0))), none⟩]
def r_f321_3 : List SOp :=
   [.op ⟨(some 13), (.mv (.tmp 8)), none⟩,
    .op ⟨(some 14), (.bin .lss (.tmp 13) (.av (.int .i64 5))), none⟩]
def r_f321_4 : List (LOper × Kd) :=
   [(⟨(some 17), (.mv (.tmp 7)), none⟩, .pure),
    (⟨(some 18), (.mv (.tmp 2)), none⟩, .pure),
    (⟨(some 19), (.bin .lss (.tmp 17) (.tmp 18)), none⟩, .pure),
    (⟨(some 20), (.mv (.tmp 19)), none⟩, .pure),
    (⟨(some 21), (.mv (.tmp 0)), (some (20, true))⟩, .pure),
    (⟨(some 22), (.mv (.tmp 7)), (some (20, true))⟩, .pure),
    (⟨(some 23), (.iaddr 1 (.tmp 21) (.tmp 22)), (some (20, true))⟩, (.read 0 0)),
    (⟨(some 24), (.load false 1 (.tmp 23)), (some (20, true))⟩, (.read 0 0)),
    (⟨(some 25), (.mv (.tmp 0)), (some (20, true))⟩, .pure),
    (⟨(some 26), (.mv (.tmp 7)), (some (20, true))⟩, .pure),
    (⟨(some 27), (.bin .sub (.tmp 26) (.av (.int .i64 1))), (some (20, true))⟩, .pure),
    (⟨(some 28), (.iaddr 1 (.tmp 25) (.tmp 27)), (some (20, true))⟩, (.read 0 0)),
    (⟨(some 29), (.load false 1 (.tmp 28)), (some (20, true))⟩, (.read 0 0))]
def r_f321_4t : List LOper :=
   [⟨(some 30), (.call 322 [(.tmp 24), (.tmp 29)]), (some (20, true))⟩,
    ⟨(some 31), (.un .not (.tmp 30)), (some (20, true))⟩,
    ⟨(some 32), (.pick (.tmp 20) (.tmp 31) (.av (.bool false))), none⟩]
def r_f321_5 : List SOp :=
   [.op ⟨(some 33), (.mv (.tmp 7)), none⟩,
    .op ⟨(some 34), (.bin .add (.tmp 33) (.av (.int .i64 1))), none⟩,
    .op ⟨(some 7), (.mv (.tmp 34)), none⟩]
def r_f321_6 : List SOp :=
   [.op ⟨(some 35), (.mv (.tmp 7)), none⟩,
    .op ⟨(some 36), (.mv (.tmp 2)), none⟩,
    .op ⟨(some 37), (.bin .eql (.tmp 35) (.tmp 36)), none⟩]
def r_f321_7 : List SOp :=
   [.op ⟨(some 6), (.mv (.av (.bool true))), none⟩]
def r_f321_8 : List SOp :=
   [.op ⟨(some 38), (.mv (.tmp 2)), none⟩,
    .op ⟨(some 39), (.mv (.tmp 1)), none⟩,
    .op ⟨(some 40), (.bin .sub (.tmp 38) (.tmp 39)), none⟩,
    .op ⟨(some 41), (.bin .lss (.tmp 40) (.av (.int .i64 50))), none⟩]
def r_f321_9 : List SOp :=
   [.op ⟨(some 6), (.mv (.av (.bool false))), none⟩]
def r_f321_10 : List (LOper × Kd) :=
   [(⟨(some 42), (.mv (.tmp 0)), none⟩, .pure),
    (⟨(some 43), (.mv (.tmp 7)), none⟩, .pure),
    (⟨(some 44), (.mv (.tmp 0)), none⟩, .pure),
    (⟨(some 45), (.mv (.tmp 7)), none⟩, .pure),
    (⟨(some 46), (.bin .sub (.tmp 45) (.av (.int .i64 1))), none⟩, .pure),
    (⟨(some 47), (.mv (.tmp 0)), none⟩, .pure),
    (⟨(some 48), (.mv (.tmp 7)), none⟩, .pure),
    (⟨(some 49), (.bin .sub (.tmp 48) (.av (.int .i64 1))), none⟩, .pure),
    (⟨(some 50), (.iaddr 1 (.tmp 47) (.tmp 49)), none⟩, (.read 0 0)),
    (⟨(some 51), (.load false 1 (.tmp 50)), none⟩, (.read 0 0)),
    (⟨(some 52), (.mv (.tmp 0)), none⟩, .pure),
    (⟨(some 53), (.mv (.tmp 7)), none⟩, .pure),
    (⟨(some 54), (.iaddr 1 (.tmp 52) (.tmp 53)), none⟩, (.read 0 0)),
    (⟨(some 55), (.load false 1 (.tmp 54)), none⟩, (.read 0 0)),
    (⟨(some 56), (.iaddr 1 (.tmp 42) (.tmp 43)), none⟩, (.read 0 0)),
    (⟨none, (.store 1 (.tmp 56) (.tmp 51)), none⟩, .eff)]
def r_f321_10t : List LOper :=
   [⟨(some 57), (.iaddr 1 (.tmp 44) (.tmp 46)), none⟩,
    ⟨none, (.store 1 (.tmp 57) (.tmp 55)), none⟩]
def r_f321_11 : List SOp :=
   [.op ⟨(some 58), (.mv (.tmp 7)), none⟩,
    .op ⟨(some 59), (.mv (.tmp 1)), none⟩,
    .op ⟨(some 60), (.bin .sub (.tmp 58) (.tmp 59)), none⟩,
    .op ⟨(some 61), (.bin .geq (.tmp 60) (.av (.int .i64 2))), none⟩]
def r_f321_12 : List SOp :=
   [.op ⟨(some 62), (.mv (.tmp 7)), none⟩,
    .op ⟨(some 63), (.bin .sub (.tmp 62) (.av (.int .i64 1))), none⟩,
    .op ⟨(some 9), (.mv (.tmp 63)), none⟩]
def r_f321_13 : List SOp :=
   [.op ⟨(some 64), (.mv (.tmp 9)), none⟩,
    .op ⟨(some 65), (.bin .geq (.tmp 64) (.av (.int .i64 1))), none⟩]
def r_f321_14 : List SOp :=
   [.op ⟨(some 68), (.mv (.tmp 0)), none⟩,
    .op ⟨(some 69), (.mv (.tmp 9)), none⟩,
    .op ⟨(some 70), (.iaddr 1 (.tmp 68) (.tmp 69)), none⟩,
    .op ⟨(some 71), (.load false 1 (.tmp 70)), none⟩,
    .op ⟨(some 72), (.mv (.tmp 0)), none⟩,
    .op ⟨(some 73), (.mv (.tmp 9)), none⟩,
    .op ⟨(some 74), (.bin .sub (.tmp 73) (.av (.int .i64 1))), none⟩,
    .op ⟨(some 75), (.iaddr 1 (.tmp 72) (.tmp 74)), none⟩,
    .op ⟨(some 76), (.load false 1 (.tmp 75)), none⟩,
    .op ⟨(some 77), (.call 322 [(.tmp 71), (.tmp 76)]), none⟩,
    .op ⟨(some 78), (.un .not (.tmp 77)), none⟩]
def r_f321_15 : List (LOper × Kd) :=
   [(⟨(some 79), (.mv (.tmp 0)), none⟩, .pure),
    (⟨(some 80), (.mv (.tmp 9)), none⟩, .pure),
    (⟨(some 81), (.mv (.tmp 0)), none⟩, .pure),
    (⟨(some 82), (.mv (.tmp 9)), none⟩, .pure),
    (⟨(some 83), (.bin .sub (.tmp 82) (.av (.int .i64 1))), none⟩, .pure),
    (⟨(some 84), (.mv (.tmp 0)), none⟩, .pure),
    (⟨(some 85), (.mv (.tmp 9)), none⟩, .pure),
    (⟨(some 86), (.bin .sub (.tmp 85) (.av (.int .i64 1))), none⟩, .pure),
    (⟨(some 87), (.iaddr 1 (.tmp 84) (.tmp 86)), none⟩, (.read 0 0)),
    (⟨(some 88), (.load false 1 (.tmp 87)), none⟩, (.read 0 0)),
    (⟨(some 89), (.mv (.tmp 0)), none⟩, .pure),
    (⟨(some 90), (.mv (.tmp 9)), none⟩, .pure),
    (⟨(some 91), (.iaddr 1 (.tmp 89) (.tmp 90)), none⟩, (.read 0 0)),
    (⟨(some 92), (.load false 1 (.tmp 91)), none⟩, (.read 0 0)),
    (⟨(some 93), (.iaddr 1 (.tmp 79) (.tmp 80)), none⟩, (.read 0 0)),
    (⟨none, (.store 1 (.tmp 93) (.tmp 88)), none⟩, .eff)]
def r_f321_15t : List LOper :=
   [⟨(some 94), (.iaddr 1 (.tmp 81) (.tmp 83)), none⟩,
    ⟨none, (.store 1 (.tmp 94) (.tmp 92)), none⟩]
def r_f321_16 : List SOp :=
   [.op ⟨(some 66), (.mv (.tmp 9)), none⟩,
    .op ⟨(some 67), (.bin .sub (.tmp 66) (.av (.int .i64 1))), none⟩,
    .op ⟨(some 9), (.mv (.tmp 67)), none⟩]
def r_f321_17 : List SOp :=
   [.op ⟨(some 95), (.mv (.tmp 2)), none⟩,
    .op ⟨(some 96), (.mv (.tmp 7)), none⟩,
    .op ⟨(some 97), (.bin .sub (.tmp 95) (.tmp 96)), none⟩,
    .op ⟨(some 98), (.bin .geq (.tmp 97) (.av (.int .i64 2))), none⟩]
def r_f321_18 : List SOp :=
   [.op ⟨(some 99), (.mv (.tmp 7)), none⟩,
    .op ⟨(some 100), (.bin .add (.tmp 99) (.av (.int .i64 1))), none⟩,
    .op ⟨(some 10), (.mv (.tmp 100)), none⟩]
def r_f321_19 : List SOp :=
   [.op ⟨(some 101), (.mv (.tmp 10)), none⟩,
    .op ⟨(some 102), (.mv (.tmp 2)), none⟩,
    .op ⟨(some 103), (.bin .lss (.tmp 101) (.tmp 102)), none⟩]
def r_f321_20 : List SOp :=
   [.op ⟨(some 106), (.mv (.tmp 0)), none⟩,
    .op ⟨(some 107), (.mv (.tmp 10)), none⟩,
    .op ⟨(some 108), (.iaddr 1 (.tmp 106) (.tmp 107)), none⟩,
    .op ⟨(some 109), (.load false 1 (.tmp 108)), none⟩,
    .op ⟨(some 110), (.mv (.tmp 0)), none⟩,
    .op ⟨(some 111), (.mv (.tmp 10)), none⟩,
    .op ⟨(some 112), (.bin .sub (.tmp 111) (.av (.int .i64 1))), none⟩,
    .op ⟨(some 113), (.iaddr 1 (.tmp 110) (.tmp 112)), none⟩,
    .op ⟨(some 114), (.load false 1 (.tmp 113)), none⟩,
    .op ⟨(some 115), (.call 322 [(.tmp 109), (.tmp 114)]), none⟩,
    .op ⟨(some 116), (.un .not (.tmp 115)), none⟩]
def r_f321_21 : List (LOper × Kd) :=
   [(⟨(some 117), (.mv (.tmp 0)), none⟩, .pure),
    (⟨(some 118), (.mv (.tmp 10)), none⟩, .pure),
    (⟨(some 119), (.mv (.tmp 0)), none⟩, .pure),
    (⟨(some 120), (.mv (.tmp 10)), none⟩, .pure),
    (⟨(some 121), (.bin .sub (.tmp 120) (.av (.int .i64 1))), none⟩, .pure),
    (⟨(some 122), (.mv (.tmp 0)), none⟩, .pure),
    (⟨(some 123), (.mv (.tmp 10)), none⟩, .pure),
    (⟨(some 124), (.bin .sub (.tmp 123) (.av (.int .i64 1))), none⟩, .pure),
    (⟨(some 125), (.iaddr 1 (.tmp 122) (.tmp 124)), none⟩, (.read 0 0)),
    (⟨(some 126), (.load false 1 (.tmp 125)), none⟩, (.read 0 0)),
    (⟨(some 127), (.mv (.tmp 0)), none⟩, .pure),
    (⟨(some 128), (.mv (.tmp 10)), none⟩, .pure),
    (⟨(some 129), (.iaddr 1 (.tmp 127) (.tmp 128)), none⟩, (.read 0 0)),
    (⟨(some 130), (.load false 1 (.tmp 129)), none⟩, (.read 0 0)),
    (⟨(some 131), (.iaddr 1 (.tmp 117) (.tmp 118)), none⟩, (.read 0 0)),
    (⟨none, (.store 1 (.tmp 131) (.tmp 126)), none⟩, .eff)]
def r_f321_21t : List LOper :=
   [⟨(some 132), (.iaddr 1 (.tmp 119) (.tmp 121)), none⟩,
    ⟨none, (.store 1 (.tmp 132) (.tmp 130)), none⟩]
def r_f321_22 : List SOp :=
   [.op ⟨(some 104), (.mv (.tmp 10)), none⟩,
    .op ⟨(some 105), (.bin .add (.tmp 104) (.av (.int .i64 1))), none⟩,
    .op ⟨(some 10), (.mv (.tmp 105)), none⟩]
def r_f321_23 : List SOp :=
   [.op ⟨(some 15), (.mv (.tmp 8)), none⟩,
    .op ⟨(some 16), (.bin .add (.tmp 15) (.av (.int .i64 1))), none⟩,
    .op ⟨(some 8), (.mv (.tmp 16)), none⟩]
def r_f321_24 : List SOp :=
   [.op ⟨(some 6), (.mv (.av (.bool false))), none⟩]
def c_f321 : LFun := ⟨133, (.seq (.sreg r_f321_0 [])
  (.seq (.sreg r_f321_1 [true, false, false])
  (.seq (.seq (.sreg r_f321_2 [])
  (.block 0 (.loop (.seq (.seq (.sreg r_f321_3 [true, false])
  (.cond (.tmp 14) .skip
  (.exit 0)))
  (.seq (.block 1 (.seq (.block 2 (.loop (.seq (.seq (.dregM r_f321_4 r_f321_4t [true, false, false, false, false, false, false, false, false, false, false, false, false, false, false, false])
  (.cond (.tmp 32) .skip
  (.exit 2)))
  (.block 3 (.sreg r_f321_5 [true, false, false])))))
  (.seq (.seq (.sreg r_f321_6 [true, false, false])
  (.cond (.tmp 37) (.seq (.sreg r_f321_7 [])
  .ret)
  .skip))
  (.seq (.seq (.sreg r_f321_8 [true, false, false, false])
  (.cond (.tmp 41) (.seq (.sreg r_f321_9 [])
  .ret)
  .skip))
  (.seq (.dregM r_f321_10 r_f321_10t [false, false, false, false, false, false, false, false, false, false, false, false, false, false, false, false])
  (.seq (.seq (.sreg r_f321_11 [true, false, false, false])
  (.cond (.tmp 61) (.seq (.sreg r_f321_12 [true, false, false])
  (.block 4 (.loop (.seq (.seq (.sreg r_f321_13 [true, false])
  (.cond (.tmp 65) .skip
  (.exit 4)))
  (.seq (.block 5 (.seq (.seq (.sdreg r_f321_14 [.pure, .pure, (.read 0 0), (.read 0 0), .pure, .pure, .pure, (.read 0 0), (.read 0 0)] [true, false, false, false, false, false, false, false, false, false, false])
  (.cond (.tmp 78) (.exit 4)
  .skip))
  (.dregM r_f321_15 r_f321_15t [false, false, false, false, false, false, false, false, false, false, false, false, false, false, false, false])))
  (.sreg r_f321_16 [true, false, false]))))))
  .skip))
  (.seq (.sreg r_f321_17 [true, false, false, false])
  (.cond (.tmp 98) (.seq (.sreg r_f321_18 [true, false, false])
  (.block 6 (.loop (.seq (.seq (.sreg r_f321_19 [true, false, false])
  (.cond (.tmp 103) .skip
  (.exit 6)))
  (.seq (.block 7 (.seq (.seq (.sdreg r_f321_20 [.pure, .pure, (.read 0 0), (.read 0 0), .pure, .pure, .pure, (.read 0 0), (.read 0 0)] [true, false, false, false, false, false, false, false, false, false, false])
  (.cond (.tmp 116) (.exit 6)
  .skip))
  (.dregM r_f321_21 r_f321_21t [false, false, false, false, false, false, false, false, false, false, false, false, false, false, false, false])))
  (.sreg r_f321_22 [true, false, false]))))))
  .skip))))))))
  (.sreg r_f321_23 [true, false, false]))))))
  (.seq (.sreg r_f321_24 [])
  .ret)))), [(.tmp 6)]⟩
def o_f321 : Nat → Nat → Nat := fun r i => if r = 5 ∧ i = 13 then 3 else if r = 16 ∧ i = 9 then 3 else if r = 22 ∧ i = 9 then 3 else 1
theorem c_f321_eq : lowF Tryz.prog o_f321 321 = some c_f321.raw := by kernel_rfl
theorem c_f321_ok : c_f321.code.okc = true := by kernel_rfl
/-! cmp.Less[string] -/
def r_f322_0 : List SOp :=
   [.op ⟨(some 4), (.mv (.av (.bool false))), none⟩]
def r_f322_1 : List SOp :=
   [.op ⟨(some 5), (.mv (.tmp 0)), none⟩,
    .op ⟨(some 6), (.call 292 [(.tmp 5)]), none⟩,
    .op ⟨(some 7), (.mv (.tmp 6)), none⟩,
    .op ⟨(some 8), (.mv (.tmp 1)), (some (7, true))⟩,
    .op ⟨(some 9), (.call 292 [(.tmp 8)]), (some (7, true))⟩,
    .op ⟨(some 10), (.un .not (.tmp 9)), (some (7, true))⟩,
    .op ⟨(some 11), (.pick (.tmp 7) (.tmp 10) (.av (.bool false))), none⟩,
    .op ⟨(some 12), (.mv (.tmp 11)), none⟩,
    .op ⟨(some 13), (.mv (.tmp 0)), (some (12, false))⟩,
    .op ⟨(some 14), (.mv (.tmp 1)), (some (12, false))⟩,
    .op ⟨(some 15), (.bin .lss (.tmp 13) (.tmp 14)), (some (12, false))⟩,
    .op ⟨(some 16), (.pick (.tmp 12) (.av (.bool true)) (.tmp 15)), none⟩,
    .op ⟨(some 4), (.mv (.tmp 16)), none⟩]
def c_f322 : LFun := ⟨17, (.seq (.sreg r_f322_0 [])
  (.seq (.sreg r_f322_1 [true, false, false, false, false, false, false, false, false, false, false, false, false])
  .ret)), [(.tmp 4)]⟩
def o_f322 : Nat → Nat → Nat := fun _ _ => 1
theorem c_f322_eq : lowF Tryz.prog o_f322 322 = some c_f322.raw := by kernel_rfl
theorem c_f322_ok : c_f322.code.okc = true := by kernel_rfl
/-! slices.partitionEqualOrdered[string] -/
def r_f323_0 : List SOp :=
   [.op ⟨(some 8), (.mv (.av (.int .i64 0))), none⟩]
def r_f323_1 : List (LOper × Kd) :=
   [(⟨(some 11), (.mv (.tmp 0)), none⟩, .pure),
    (⟨(some 12), (.mv (.tmp 1)), none⟩, .pure),
    (⟨(some 13), (.mv (.tmp 0)), none⟩, .pure),
    (⟨(some 14), (.mv (.tmp 3)), none⟩, .pure),
    (⟨(some 15), (.mv (.tmp 0)), none⟩, .pure),
    (⟨(some 16), (.mv (.tmp 3)), none⟩, .pure),
    (⟨(some 17), (.iaddr 1 (.tmp 15) (.tmp 16)), none⟩, (.read 0 0)),
    (⟨(some 18), (.load false 1 (.tmp 17)), none⟩, (.read 0 0)),
    (⟨(some 19), (.mv (.tmp 0)), none⟩, .pure),
    (⟨(some 20), (.mv (.tmp 1)), none⟩, .pure),
    (⟨(some 21), (.iaddr 1 (.tmp 19) (.tmp 20)), none⟩, (.read 0 0)),
    (⟨(some 22), (.load false 1 (.tmp 21)), none⟩, (.read 0 0)),
    (⟨(some 23), (.iaddr 1 (.tmp 11) (.tmp 12)), none⟩, (.read 0 0)),
    (⟨none, (.store 1 (.tmp 23) (.tmp 18)), none⟩, .eff)]
def r_f323_1t : List LOper :=
   [⟨(some 24), (.iaddr 1 (.tmp 13) (.tmp 14)), none⟩,
    ⟨none, (.store 1 (.tmp 24) (.tmp 22)), none⟩]
def r_f323_2 : List SOp :=
   [.op ⟨(some 25), (.mv (.tmp 1)), none⟩,
    .op ⟨(some 26), (.bin .add (.tmp 25) (.av (.int .i64 1))), none⟩,
    .op ⟨(some 27), (.mv (.tmp 2)), none⟩,
    .op ⟨(some 28), (.bin .sub (.tmp 27) (.av (.int .i64 1))), none⟩,
    .op ⟨(some 9), (.mv (.tmp 26)), none⟩,
    .op ⟨(some 10), (.mv (.tmp 28)), none⟩]
def r_f323_3 : List (LOper × Kd) :=
   [(⟨(some 29), (.mv (.tmp 9)), none⟩, .pure),
    (⟨(some 30), (.mv (.tmp 10)), none⟩, .pure),
    (⟨(some 31), (.bin .leq (.tmp 29) (.tmp 30)), none⟩, .pure),
    (⟨(some 32), (.mv (.tmp 31)), none⟩, .pure),
    (⟨(some 33), (.mv (.tmp 0)), (some (32, true))⟩, .pure),
    (⟨(some 34), (.mv (.tmp 1)), (some (32, true))⟩, .pure),
    (⟨(some 35), (.iaddr 1 (.tmp 33) (.tmp 34)), (some (32, true))⟩, (.read 0 0)),
    (⟨(some 36), (.load false 1 (.tmp 35)), (some (32, true))⟩, (.read 0 0)),
    (⟨(some 37), (.mv (.tmp 0)), (some (32, true))⟩, .pure),
    (⟨(some 38), (.mv (.tmp 9)), (some (32, true))⟩, .pure),
    (⟨(some 39), (.iaddr 1 (.tmp 37) (.tmp 38)), (some (32, true))⟩, (.read 0 0)),
    (⟨(some 40), (.load false 1 (.tmp 39)), (some (32, true))⟩, (.read 0 0))]
def r_f323_3t : List LOper :=
   [⟨(some 41), (.call 322 [(.tmp 36), (.tmp 40)]), (some (32, true))⟩,
    ⟨(some 42), (.un .not (.tmp 41)), (some (32, true))⟩,
    ⟨(some 43), (.pick (.tmp 32) (.tmp 42) (.av (.bool false))), none⟩]
def r_f323_4 : List SOp :=
   [.op ⟨(some 44), (.mv (.tmp 9)), none⟩,
    .op ⟨(some 45), (.bin .add (.tmp 44) (.av (.int .i64 1))), none⟩,
    .op ⟨(some 9), (.mv (.tmp 45)), none⟩]
def r_f323_5 : List (LOper × Kd) :=
   [(⟨(some 46), (.mv (.tmp 9)), none⟩, .pure),
    (⟨(some 47), (.mv (.tmp 10)), none⟩, .pure),
    (⟨(some 48), (.bin .leq (.tmp 46) (.tmp 47)), none⟩, .pure),
    (⟨(some 49), (.mv (.tmp 48)), none⟩, .pure),
    (⟨(some 50), (.mv (.tmp 0)), (some (49, true))⟩, .pure),
    (⟨(some 51), (.mv (.tmp 1)), (some (49, true))⟩, .pure),
    (⟨(some 52), (.iaddr 1 (.tmp 50) (.tmp 51)), (some (49, true))⟩, (.read 0 0)),
    (⟨(some 53), (.load false 1 (.tmp 52)), (some (49, true))⟩, (.read 0 0)),
    (⟨(some 54), (.mv (.tmp 0)), (some (49, true))⟩, .pure),
    (⟨(some 55), (.mv (.tmp 10)), (some (49, true))⟩, .pure),
    (⟨(some 56), (.iaddr 1 (.tmp 54) (.tmp 55)), (some (49, true))⟩, (.read 0 0)),
    (⟨(some 57), (.load false 1 (.tmp 56)), (some (49, true))⟩, (.read 0 0))]
def r_f323_5t : List LOper :=
   [⟨(some 58), (.call 322 [(.tmp 53), (.tmp 57)]), (some (49, true))⟩,
    ⟨(some 59), (.pick (.tmp 49) (.tmp 58) (.av (.bool false))), none⟩]
def r_f323_6 : List SOp :=
   [.op ⟨(some 60), (.mv (.tmp 10)), none⟩,
    .op ⟨(some 61), (.bin .sub (.tmp 60) (.av (.int .i64 1))), none⟩,
    .op ⟨(some 10), (.mv (.tmp 61)), none⟩]
def r_f323_7 : List SOp :=
   [.op ⟨(some 62), (.mv (.tmp 9)), none⟩,
    .op ⟨(some 63), (.mv (.tmp 10)), none⟩,
    .op ⟨(some 64), (.bin .gtr (.tmp 62) (.tmp 63)), none⟩]
def r_f323_8 : List (LOper × Kd) :=
   [(⟨(some 65), (.mv (.tmp 0)), none⟩, .pure),
    (⟨(some 66), (.mv (.tmp 9)), none⟩, .pure),
    (⟨(some 67), (.mv (.tmp 0)), none⟩, .pure),
    (⟨(some 68), (.mv (.tmp 10)), none⟩, .pure),
    (⟨(some 69), (.mv (.tmp 0)), none⟩, .pure),
    (⟨(some 70), (.mv (.tmp 10)), none⟩, .pure),
    (⟨(some 71), (.iaddr 1 (.tmp 69) (.tmp 70)), none⟩, (.read 0 0)),
    (⟨(some 72), (.load false 1 (.tmp 71)), none⟩, (.read 0 0)),
    (⟨(some 73), (.mv (.tmp 0)), none⟩, .pure),
    (⟨(some 74), (.mv (.tmp 9)), none⟩, .pure),
    (⟨(some 75), (.iaddr 1 (.tmp 73) (.tmp 74)), none⟩, (.read 0 0)),
    (⟨(some 76), (.load false 1 (.tmp 75)), none⟩, (.read 0 0)),
    (⟨(some 77), (.iaddr 1 (.tmp 65) (.tmp 66)), none⟩, (.read 0 0)),
    (⟨none, (.store 1 (.tmp 77) (.tmp 72)), none⟩, .eff)]
def r_f323_8t : List LOper :=
   [⟨(some 78), (.iaddr 1 (.tmp 67) (.tmp 68)), none⟩,
    ⟨none, (.store 1 (.tmp 78) (.tmp 76)), none⟩]
def r_f323_9 : List SOp :=
   [.op ⟨(some 79), (.mv (.tmp 9)), none⟩,
    .op ⟨(some 80), (.bin .add (.tmp 79) (.av (.int .i64 1))), none⟩,
    .op ⟨(some 9), (.mv (.tmp 80)), none⟩]
def r_f323_10 : List SOp :=
   [.op ⟨(some 81), (.mv (.tmp 10)), none⟩,
    .op ⟨(some 82), (.bin .sub (.tmp 81) (.av (.int .i64 1))), none⟩,
    .op ⟨(some 10), (.mv (.tmp 82)), none⟩]
def r_f323_11 : List SOp :=
   [.op ⟨(some 83), (.mv (.tmp 9)), none⟩,
    .op ⟨(some 8), (.mv (.tmp 83)), none⟩]
def c_f323 : LFun := ⟨84, (.seq (.sreg r_f323_0 [])
  (.seq (.dregM r_f323_1 r_f323_1t [false, false, false, false, false, false, false, false, false, false, false, false, false, false])
  (.seq (.sreg r_f323_2 [true, true, false, false, false, false])
  (.seq (.block 0 (.loop (.block 1 (.seq (.block 2 (.loop (.seq (.seq (.dregM r_f323_3 r_f323_3t [true, false, false, false, false, false, false, false, false, false, false, false, false, false, false])
  (.cond (.tmp 43) .skip
  (.exit 2)))
  (.block 3 (.sreg r_f323_4 [true, false, false])))))
  (.seq (.block 4 (.loop (.seq (.seq (.dregM r_f323_5 r_f323_5t [true, false, false, false, false, false, false, false, false, false, false, false, false, false])
  (.cond (.tmp 59) .skip
  (.exit 4)))
  (.block 5 (.sreg r_f323_6 [true, false, false])))))
  (.seq (.seq (.sreg r_f323_7 [true, false, false])
  (.cond (.tmp 64) (.exit 0)
  .skip))
  (.seq (.dregM r_f323_8 r_f323_8t [false, false, false, false, false, false, false, false, false, false, false, false, false, false])
  (.seq (.sreg r_f323_9 [true, false, false])
  (.sreg r_f323_10 [true, false, false])))))))))
  (.seq (.sreg r_f323_11 [true, false])
  .ret))))), [(.tmp 8)]⟩
def o_f323 : Nat → Nat → Nat := fun r i => if r = 3 ∧ i = 12 then 3 else if r = 5 ∧ i = 12 then 3 else 1
theorem c_f323_eq : lowF Tryz.prog o_f323 323 = some c_f323.raw := by kernel_rfl
theorem c_f323_ok : c_f323.code.okc = true := by kernel_rfl
/-! slices.partitionOrdered[string] -/
def r_f324_0 : List SOp :=
   [.op ⟨(some 8), (.mv (.av (.int .i64 0))), none⟩,
    .op ⟨(some 9), (.mv (.av (.bool false))), none⟩]
def r_f324_1 : List (LOper × Kd) :=
   [(⟨(some 12), (.mv (.tmp 0)), none⟩, .pure),
    (⟨(some 13), (.mv (.tmp 1)), none⟩, .pure),
    (⟨(some 14), (.mv (.tmp 0)), none⟩, .pure),
    (⟨(some 15), (.mv (.tmp 3)), none⟩, .pure),
    (⟨(some 16), (.mv (.tmp 0)), none⟩, .pure),
    (⟨(some 17), (.mv (.tmp 3)), none⟩, .pure),
    (⟨(some 18), (.iaddr 1 (.tmp 16) (.tmp 17)), none⟩, (.read 0 0)),
    (⟨(some 19), (.load false 1 (.tmp 18)), none⟩, (.read 0 0)),
    (⟨(some 20), (.mv (.tmp 0)), none⟩, .pure),
    (⟨(some 21), (.mv (.tmp 1)), none⟩, .pure),
    (⟨(some 22), (.iaddr 1 (.tmp 20) (.tmp 21)), none⟩, (.read 0 0)),
    (⟨(some 23), (.load false 1 (.tmp 22)), none⟩, (.read 0 0)),
    (⟨(some 24), (.iaddr 1 (.tmp 12) (.tmp 13)), none⟩, (.read 0 0)),
    (⟨none, (.store 1 (.tmp 24) (.tmp 19)), none⟩, .eff)]
def r_f324_1t : List LOper :=
   [⟨(some 25), (.iaddr 1 (.tmp 14) (.tmp 15)), none⟩,
    ⟨none, (.store 1 (.tmp 25) (.tmp 23)), none⟩]
def r_f324_2 : List SOp :=
   [.op ⟨(some 26), (.mv (.tmp 1)), none⟩,
    .op ⟨(some 27), (.bin .add (.tmp 26) (.av (.int .i64 1))), none⟩,
    .op ⟨(some 28), (.mv (.tmp 2)), none⟩,
    .op ⟨(some 29), (.bin .sub (.tmp 28) (.av (.int .i64 1))), none⟩,
    .op ⟨(some 10), (.mv (.tmp 27)), none⟩,
    .op ⟨(some 11), (.mv (.tmp 29)), none⟩]
def r_f324_3 : List (LOper × Kd) :=
   [(⟨(some 30), (.mv (.tmp 10)), none⟩, .pure),
    (⟨(some 31), (.mv (.tmp 11)), none⟩, .pure),
    (⟨(some 32), (.bin .leq (.tmp 30) (.tmp 31)), none⟩, .pure),
    (⟨(some 33), (.mv (.tmp 32)), none⟩, .pure),
    (⟨(some 34), (.mv (.tmp 0)), (some (33, true))⟩, .pure),
    (⟨(some 35), (.mv (.tmp 10)), (some (33, true))⟩, .pure),
    (⟨(some 36), (.iaddr 1 (.tmp 34) (.tmp 35)), (some (33, true))⟩, (.read 0 0)),
    (⟨(some 37), (.load false 1 (.tmp 36)), (some (33, true))⟩, (.read 0 0)),
    (⟨(some 38), (.mv (.tmp 0)), (some (33, true))⟩, .pure),
    (⟨(some 39), (.mv (.tmp 1)), (some (33, true))⟩, .pure),
    (⟨(some 40), (.iaddr 1 (.tmp 38) (.tmp 39)), (some (33, true))⟩, (.read 0 0)),
    (⟨(some 41), (.load false 1 (.tmp 40)), (some (33, true))⟩, (.read 0 0))]
def r_f324_3t : List LOper :=
   [⟨(some 42), (.call 322 [(.tmp 37), (.tmp 41)]), (some (33, true))⟩,
    ⟨(some 43), (.pick (.tmp 33) (.tmp 42) (.av (.bool false))), none⟩]
def r_f324_4 : List SOp :=
   [.op ⟨(some 44), (.mv (.tmp 10)), none⟩,
    .op ⟨(some 45), (.bin .add (.tmp 44) (.av (.int .i64 1))), none⟩,
    .op ⟨(some 10), (.mv (.tmp 45)), none⟩]
def r_f324_5 : List (LOper × Kd) :=
   [(⟨(some 46), (.mv (.tmp 10)), none⟩, .pure),
    (⟨(some 47), (.mv (.tmp 11)), none⟩, .pure),
    (⟨(some 48), (.bin .leq (.tmp 46) (.tmp 47)), none⟩, .pure),
    (⟨(some 49), (.mv (.tmp 48)), none⟩, .pure),
    (⟨(some 50), (.mv (.tmp 0)), (some (49, true))⟩, .pure),
    (⟨(some 51), (.mv (.tmp 11)), (some (49, true))⟩, .pure),
    (⟨(some 52), (.iaddr 1 (.tmp 50) (.tmp 51)), (some (49, true))⟩, (.read 0 0)),
    (⟨(some 53), (.load false 1 (.tmp 52)), (some (49, true))⟩, (.read 0 0)),
    (⟨(some 54), (.mv (.tmp 0)), (some (49, true))⟩, .pure),
    (⟨(some 55), (.mv (.tmp 1)), (some (49, true))⟩, .pure),
    (⟨(some 56), (.iaddr 1 (.tmp 54) (.tmp 55)), (some (49, true))⟩, (.read 0 0)),
    (⟨(some 57), (.load false 1 (.tmp 56)), (some (49, true))⟩, (.read 0 0))]
def r_f324_5t : List LOper :=
   [⟨(some 58), (.call 322 [(.tmp 53), (.tmp 57)]), (some (49, true))⟩,
    ⟨(some 59), (.un .not (.tmp 58)), (some (49, true))⟩,
    ⟨(some 60), (.pick (.tmp 49) (.tmp 59) (.av (.bool false))), none⟩]
def r_f324_6 : List SOp :=
   [.op ⟨(some 61), (.mv (.tmp 11)), none⟩,
    .op ⟨(some 62), (.bin .sub (.tmp 61) (.av (.int .i64 1))), none⟩,
    .op ⟨(some 11), (.mv (.tmp 62)), none⟩]
def r_f324_7 : List SOp :=
   [.op ⟨(some 63), (.mv (.tmp 10)), none⟩,
    .op ⟨(some 64), (.mv (.tmp 11)), none⟩,
    .op ⟨(some 65), (.bin .gtr (.tmp 63) (.tmp 64)), none⟩]
def r_f324_8 : List (LOper × Kd) :=
   [(⟨(some 66), (.mv (.tmp 0)), none⟩, .pure),
    (⟨(some 67), (.mv (.tmp 11)), none⟩, .pure),
    (⟨(some 68), (.mv (.tmp 0)), none⟩, .pure),
    (⟨(some 69), (.mv (.tmp 1)), none⟩, .pure),
    (⟨(some 70), (.mv (.tmp 0)), none⟩, .pure),
    (⟨(some 71), (.mv (.tmp 1)), none⟩, .pure),
    (⟨(some 72), (.iaddr 1 (.tmp 70) (.tmp 71)), none⟩, (.read 0 0)),
    (⟨(some 73), (.load false 1 (.tmp 72)), none⟩, (.read 0 0)),
    (⟨(some 74), (.mv (.tmp 0)), none⟩, .pure),
    (⟨(some 75), (.mv (.tmp 11)), none⟩, .pure),
    (⟨(some 76), (.iaddr 1 (.tmp 74) (.tmp 75)), none⟩, (.read 0 0)),
    (⟨(some 77), (.load false 1 (.tmp 76)), none⟩, (.read 0 0)),
    (⟨(some 78), (.iaddr 1 (.tmp 66) (.tmp 67)), none⟩, (.read 0 0)),
    (⟨none, (.store 1 (.tmp 78) (.tmp 73)), none⟩, .eff)]
def r_f324_8t : List LOper :=
   [⟨(some 79), (.iaddr 1 (.tmp 68) (.tmp 69)), none⟩,
    ⟨none, (.store 1 (.tmp 79) (.tmp 77)), none⟩]
def r_f324_9 : List SOp :=
   [.op ⟨(some 80), (.mv (.tmp 11)), none⟩,
    .op ⟨(some 8), (.mv (.tmp 80)), none⟩,
    .op ⟨(some 9), (.mv (.av (.bool true))), none⟩]
def r_f324_10 : List (LOper × Kd) :=
   [(⟨(some 81), (.mv (.tmp 0)), none⟩, .pure),
    (⟨(some 82), (.mv (.tmp 10)), none⟩, .pure),
    (⟨(some 83), (.mv (.tmp 0)), none⟩, .pure),
    (⟨(some 84), (.mv (.tmp 11)), none⟩, .pure),
    (⟨(some 85), (.mv (.tmp 0)), none⟩, .pure),
    (⟨(some 86), (.mv (.tmp 11)), none⟩, .pure),
    (⟨(some 87), (.iaddr 1 (.tmp 85) (.tmp 86)), none⟩, (.read 0 0)),
    (⟨(some 88), (.load false 1 (.tmp 87)), none⟩, (.read 0 0)),
    (⟨(some 89), (.mv (.tmp 0)), none⟩, .pure),
    (⟨(some 90), (.mv (.tmp 10)), none⟩, .pure),
    (⟨(some 91), (.iaddr 1 (.tmp 89) (.tmp 90)), none⟩, (.read 0 0)),
    (⟨(some 92), (.load false 1 (.tmp 91)), none⟩, (.read 0 0)),
    (⟨(some 93), (.iaddr 1 (.tmp 81) (.tmp 82)), none⟩, (.read 0 0)),
    (⟨none, (.store 1 (.tmp 93) (.tmp 88)), none⟩, .eff)]
def r_f324_10t : List LOper :=
   [⟨(some 94), (.iaddr 1 (.tmp 83) (.tmp 84)), none⟩,
    ⟨none, (.store 1 (.tmp 94) (.tmp 92)), none⟩]
def r_f324_11 : List SOp :=
   [.op ⟨(some 95), (.mv (.tmp 10)), none⟩,
    .op ⟨(some 96), (.bin .add (.tmp 95) (.av (.int .i64 1))), none⟩,
    .op ⟨(some 10), (.mv (.tmp 96)), none⟩]
def r_f324_12 : List SOp :=
   [.op ⟨(some 97), (.mv (.tmp 11)), none⟩,
    .op ⟨(some 98), (.bin .sub (.tmp 97) (.av (.int .i64 1))), none⟩,
    .op ⟨(some 11), (.mv (.tmp 98)), none⟩]
def r_f324_13 : List (LOper × Kd) :=
   [(⟨(some 99), (.mv (.tmp 10)), none⟩, .pure),
    (⟨(some 100), (.mv (.tmp 11)), none⟩, .pure),
    (⟨(some 101), (.bin .leq (.tmp 99) (.tmp 100)), none⟩, .pure),
    (⟨(some 102), (.mv (.tmp 101)), none⟩, .pure),
    (⟨(some 103), (.mv (.tmp 0)), (some (102, true))⟩, .pure),
    (⟨(some 104), (.mv (.tmp 10)), (some (102, true))⟩, .pure),
    (⟨(some 105), (.iaddr 1 (.tmp 103) (.tmp 104)), (some (102, true))⟩, (.read 0 0)),
    (⟨(some 106), (.load false 1 (.tmp 105)), (some (102, true))⟩, (.read 0 0)),
    (⟨(some 107), (.mv (.tmp 0)), (some (102, true))⟩, .pure),
    (⟨(some 108), (.mv (.tmp 1)), (some (102, true))⟩, .pure),
    (⟨(some 109), (.iaddr 1 (.tmp 107) (.tmp 108)), (some (102, true))⟩, (.read 0 0)),
    (⟨(some 110), (.load false 1 (.tmp 109)), (some (102, true))⟩, (.read 0 0))]
def r_f324_13t : List LOper :=
   [⟨(some 111), (.call 322 [(.tmp 106), (.tmp 110)]), (some (102, true))⟩,
    ⟨(some 112), (.pick (.tmp 102) (.tmp 111) (.av (.bool false))), none⟩]
def r_f324_14 : List SOp :=
   [.op ⟨(some 113), (.mv (.tmp 10)), none⟩,
    .op ⟨(some 114), (.bin .add (.tmp 113) (.av (.int .i64 1))), none⟩,
    .op ⟨(some 10), (.mv (.tmp 114)), none⟩]
def r_f324_15 : List (LOper × Kd) :=
   [(⟨(some 115), (.mv (.tmp 10)), none⟩, .pure),
    (⟨(some 116), (.mv (.tmp 11)), none⟩, .pure),
    (⟨(some 117), (.bin .leq (.tmp 115) (.tmp 116)), none⟩, .pure),
    (⟨(some 118), (.mv (.tmp 117)), none⟩, .pure),
    (⟨(some 119), (.mv (.tmp 0)), (some (118, true))⟩, .pure),
    (⟨(some 120), (.mv (.tmp 11)), (some (118, true))⟩, .pure),
    (⟨(some 121), (.iaddr 1 (.tmp 119) (.tmp 120)), (some (118, true))⟩, (.read 0 0)),
    (⟨(some 122), (.load false 1 (.tmp 121)), (some (118, true))⟩, (.read 0 0)),
    (⟨(some 123), (.mv (.tmp 0)), (some (118, true))⟩, .pure),
    (⟨(some 124), (.mv (.tmp 1)), (some (118, true))⟩, .pure),
    (⟨(some 125), (.iaddr 1 (.tmp 123) (.tmp 124)), (some (118, true))⟩, (.read 0 0)),
    (⟨(some 126), (.load false 1 (.tmp 125)), (some (118, true))⟩, (.read 0 0))]
def r_f324_15t : List LOper :=
   [⟨(some 127), (.call 322 [(.tmp 122), (.tmp 126)]), (some (118, true))⟩,
    ⟨(some 128), (.un .not (.tmp 127)), (some (118, true))⟩,
    ⟨(some 129), (.pick (.tmp 118) (.tmp 128) (.av (.bool false))), none⟩]
def r_f324_16 : List SOp :=
   [.op ⟨(some 130), (.mv (.tmp 11)), none⟩,
    .op ⟨(some 131), (.bin .sub (.tmp 130) (.av (.int .i64 1))), none⟩,
    .op ⟨(some 11), (.mv (.tmp 131)), none⟩]
def r_f324_17 : List SOp :=
   [.op ⟨(some 132), (.mv (.tmp 10)), none⟩,
    .op ⟨(some 133), (.mv (.tmp 11)), none⟩,
    .op ⟨(some 134), (.bin .gtr (.tmp 132) (.tmp 133)), none⟩]
def r_f324_18 : List (LOper × Kd) :=
   [(⟨(some 135), (.mv (.tmp 0)), none⟩, .pure),
    (⟨(some 136), (.mv (.tmp 10)), none⟩, .pure),
    (⟨(some 137), (.mv (.tmp 0)), none⟩, .pure),
    (⟨(some 138), (.mv (.tmp 11)), none⟩, .pure),
    (⟨(some 139), (.mv (.tmp 0)), none⟩, .pure),
    (⟨(some 140), (.mv (.tmp 11)), none⟩, .pure),
    (⟨(some 141), (.iaddr 1 (.tmp 139) (.tmp 140)), none⟩, (.read 0 0)),
    (⟨(some 142), (.load false 1 (.tmp 141)), none⟩, (.read 0 0)),
    (⟨(some 143), (.mv (.tmp 0)), none⟩, .pure),
    (⟨(some 144), (.mv (.tmp 10)), none⟩, .pure),
    (⟨(some 145), (.iaddr 1 (.tmp 143) (.tmp 144)), none⟩, (.read 0 0)),
    (⟨(some 146), (.load false 1 (.tmp 145)), none⟩, (.read 0 0)),
    (⟨(some 147), (.iaddr 1 (.tmp 135) (.tmp 136)), none⟩, (.read 0 0)),
    (⟨none, (.store 1 (.tmp 147) (.tmp 142)), none⟩, .eff)]
def r_f324_18t : List LOper :=
   [⟨(some 148), (.iaddr 1 (.tmp 137) (.tmp 138)), none⟩,
    ⟨none, (.store 1 (.tmp 148) (.tmp 146)), none⟩]
def r_f324_19 : List SOp :=
   [.op ⟨(some 149), (.mv (.tmp 10)), none⟩,
    .op ⟨(some 150), (.bin .add (.tmp 149) (.av (.int .i64 1))), none⟩,
    .op ⟨(some 10), (.mv (.tmp 150)), none⟩]
def r_f324_20 : List SOp :=
   [.op ⟨(some 151), (.mv (.tmp 11)), none⟩,
    .op ⟨(some 152), (.bin .sub (.tmp 151) (.av (.int .i64 1))), none⟩,
    .op ⟨(some 11), (.mv (.tmp 152)), none⟩]
def r_f324_21 : List (LOper × Kd) :=
   [(⟨(some 153), (.mv (.tmp 0)), none⟩, .pure),
    (⟨(some 154), (.mv (.tmp 11)), none⟩, .pure),
    (⟨(some 155), (.mv (.tmp 0)), none⟩, .pure),
    (⟨(some 156), (.mv (.tmp 1)), none⟩, .pure),
    (⟨(some 157), (.mv (.tmp 0)), none⟩, .pure),
    (⟨(some 158), (.mv (.tmp 1)), none⟩, .pure),
    (⟨(some 159), (.iaddr 1 (.tmp 157) (.tmp 158)), none⟩, (.read 0 0)),
    (⟨(some 160), (.load false 1 (.tmp 159)), none⟩, (.read 0 0)),
    (⟨(some 161), (.mv (.tmp 0)), none⟩, .pure),
    (⟨(some 162), (.mv (.tmp 11)), none⟩, .pure),
    (⟨(some 163), (.iaddr 1 (.tmp 161) (.tmp 162)), none⟩, (.read 0 0)),
    (⟨(some 164), (.load false 1 (.tmp 163)), none⟩, (.read 0 0)),
    (⟨(some 165), (.iaddr 1 (.tmp 153) (.tmp 154)), none⟩, (.read 0 0)),
    (⟨none, (.store 1 (.tmp 165) (.tmp 160)), none⟩, .eff)]
def r_f324_21t : List LOper :=
   [⟨(some 166), (.iaddr 1 (.tmp 155) (.tmp 156)), none⟩,
    ⟨none, (.store 1 (.tmp 166) (.tmp 164)), none⟩]
def r_f324_22 : List SOp :=
   [.op ⟨(some 167), (.mv (.tmp 11)), none⟩,
    .op ⟨(some 8), (.mv (.tmp 167)), none⟩,
    .op ⟨(some 9), (.mv (.av (.bool false))), none⟩]
def c_f324 : LFun := ⟨168, (.seq (.sreg r_f324_0 [])
  (.seq (.dregM r_f324_1 r_f324_1t [false, false, false, false, false, false, false, false, false, false, false, false, false, false])
  (.seq (.sreg r_f324_2 [true, true, false, false, false, false])
  (.seq (.block 0 (.loop (.seq (.seq (.dregM r_f324_3 r_f324_3t [true, false, false, false, false, false, false, false, false, false, false, false, false, false])
  (.cond (.tmp 43) .skip
  (.exit 0)))
  (.block 1 (.sreg r_f324_4 [true, false, false])))))
  (.seq (.block 2 (.loop (.seq (.seq (.dregM r_f324_5 r_f324_5t [true, false, false, false, false, false, false, false, false, false, false, false, false, false, false])
  (.cond (.tmp 60) .skip
  (.exit 2)))
  (.block 3 (.sreg r_f324_6 [true, false, false])))))
  (.seq (.seq (.sreg r_f324_7 [true, false, false])
  (.cond (.tmp 65) (.seq (.dregM r_f324_8 r_f324_8t [false, false, false, false, false, false, false, false, false, false, false, false, false, false])
  (.seq (.sreg r_f324_9 [true, true, false])
  .ret))
  .skip))
  (.seq (.dregM r_f324_10 r_f324_10t [false, false, false, false, false, false, false, false, false, false, false, false, false, false])
  (.seq (.sreg r_f324_11 [true, false, false])
  (.seq (.sreg r_f324_12 [true, false, false])
  (.seq (.block 4 (.loop (.block 5 (.seq (.block 6 (.loop (.seq (.seq (.dregM r_f324_13 r_f324_13t [true, false, false, false, false, false, false, false, false, false, false, false, false, false])
  (.cond (.tmp 112) .skip
  (.exit 6)))
  (.block 7 (.sreg r_f324_14 [true, false, false])))))
  (.seq (.block 8 (.loop (.seq (.seq (.dregM r_f324_15 r_f324_15t [true, false, false, false, false, false, false, false, false, false, false, false, false, false, false])
  (.cond (.tmp 129) .skip
  (.exit 8)))
  (.block 9 (.sreg r_f324_16 [true, false, false])))))
  (.seq (.seq (.sreg r_f324_17 [true, false, false])
  (.cond (.tmp 134) (.exit 4)
  .skip))
  (.seq (.dregM r_f324_18 r_f324_18t [false, false, false, false, false, false, false, false, false, false, false, false, false, false])
  (.seq (.sreg r_f324_19 [true, false, false])
  (.sreg r_f324_20 [true, false, false])))))))))
  (.seq (.dregM r_f324_21 r_f324_21t [false, false, false, false, false, false, false, false, false, false, false, false, false, false])
  (.seq (.sreg r_f324_22 [true, true, false])
  .ret)))))))))))), [(.tmp 8), (.tmp 9)]⟩
def o_f324 : Nat → Nat → Nat := fun r i => if r = 3 ∧ i = 12 then 3 else if r = 5 ∧ i = 12 then 3 else if r = 13 ∧ i = 12 then 3 else if r = 15 ∧ i = 12 then 3 else 1
theorem c_f324_eq : lowF Tryz.prog o_f324 324 = some c_f324.raw := by kernel_rfl
theorem c_f324_ok : c_f324.code.okc = true := by kernel_rfl
/-! (*strings.Builder).grow -/
def r_f283_0 : List SOp :=
   [.op ⟨(some 5), (.mv (.tmp 0)), none⟩,
    .op ⟨(some 6), (.nilchk (.tmp 5)), none⟩,
    .op ⟨(some 7), (.faddr 1 (.tmp 6)), none⟩,
    .op ⟨(some 8), (.load false 1 (.tmp 7)), none⟩,
    .op ⟨(some 9), (.cap (.tmp 8)), none⟩,
    .op ⟨(some 10), (.bin .mul (.av (.int .i64 2)) (.tmp 9)), none⟩,
    .op ⟨(some 11), (.mv (.tmp 1)), none⟩,
    .op ⟨(some 12), (.bin .add (.tmp 10) (.tmp 11)), none⟩,
    .op ⟨(some 13), (.call 326 [(.tmp 12)]), none⟩,
    .op ⟨(some 14), (.mv (.tmp 0)), none⟩,
    .op ⟨(some 15), (.nilchk (.tmp 14)), none⟩,
    .op ⟨(some 16), (.faddr 1 (.tmp 15)), none⟩,
    .op ⟨(some 17), (.load false 1 (.tmp 16)), none⟩,
    .op ⟨(some 18), (.len false (.tmp 17)), none⟩,
    .op ⟨(some 19), (.slV 1 (.tmp 13) none (some (.tmp 18)) none), none⟩,
    .op ⟨(some 4), (.mv (.tmp 19)), none⟩]
def r_f283_1 : List SOp :=
   [.op ⟨(some 20), (.mv (.tmp 4)), none⟩,
    .op ⟨(some 21), (.mv (.tmp 0)), none⟩,
    .op ⟨(some 22), (.nilchk (.tmp 21)), none⟩,
    .op ⟨(some 23), (.faddr 1 (.tmp 22)), none⟩,
    .op ⟨(some 24), (.load false 1 (.tmp 23)), none⟩,
    .op ⟨(some 25), (.copy 1 (.tmp 20) (.tmp 24)), none⟩]
def r_f283_2 : List SOp :=
   [.op ⟨(some 26), (.mv (.tmp 0)), none⟩,
    .op ⟨(some 27), (.mv (.tmp 4)), none⟩,
    .op ⟨(some 28), (.nilchk (.tmp 26)), none⟩,
    .op ⟨(some 29), (.faddr 1 (.tmp 28)), none⟩,
    .op ⟨none, (.store 1 (.tmp 29) (.tmp 27)), none⟩]
def c_f283 : LFun := ⟨30, (.seq (.sdreg r_f283_0 [.pure, (.read 0 0), .pure, (.read 0 0), (.read 0 0), .pure, .pure, .pure, .eff, .pure, (.read 1 0), .pure, (.read 1 0), (.read 1 0)] [true, false, false, false, false, false, false, false, false, false, false, false, false, false, false, false])
  (.seq (.sreg r_f283_1 [false, false, false, false, false, false])
  (.sreg r_f283_2 [false, false, false, false]))), []⟩
def o_f283 : Nat → Nat → Nat := fun r i => if r = 0 ∧ i = 8 then 3 else 1
theorem c_f283_eq : lowF Tryz.prog o_f283 283 = some c_f283.raw := by kernel_rfl
theorem c_f283_ok : c_f283.code.okc = true := by kernel_rfl
/-! slices.siftDownOrdered[string] -/
def r_f339_0 : List SOp :=
   [.op ⟨(some 10), (.mv (.tmp 1)), none⟩,
    .op ⟨(some 8), (.mv (.tmp 10)), none⟩]
def r_f339_1 : List SOp :=
   [.op ⟨(some 11), (.mv (.tmp 8)), none⟩,
    .op ⟨(some 12), (.bin .mul (.av (.int .i64 2)) (.tmp 11)), none⟩,
    .op ⟨(some 13), (.bin .add (.tmp 12) (.av (.int .i64 1))), none⟩,
    .op ⟨(some 9), (.mv (.tmp 13)), none⟩]
def r_f339_2 : List SOp :=
   [.op ⟨(some 14), (.mv (.tmp 9)), none⟩,
    .op ⟨(some 15), (.mv (.tmp 2)), none⟩,
    .op ⟨(some 16), (.bin .geq (.tmp 14) (.tmp 15)), none⟩]
def r_f339_3 : List (LOper × Kd) :=
   [(⟨(some 17), (.mv (.tmp 9)), none⟩, .pure),
    (⟨(some 18), (.bin .add (.tmp 17) (.av (.int .i64 1))), none⟩, .pure),
    (⟨(some 19), (.mv (.tmp 2)), none⟩, .pure),
    (⟨(some 20), (.bin .lss (.tmp 18) (.tmp 19)), none⟩, .pure),
    (⟨(some 21), (.mv (.tmp 20)), none⟩, .pure),
    (⟨(some 22), (.mv (.tmp 0)), (some (21, true))⟩, .pure),
    (⟨(some 23), (.mv (.tmp 3)), (some (21, true))⟩, .pure),
    (⟨(some 24), (.mv (.tmp 9)), (some (21, true))⟩, .pure),
    (⟨(some 25), (.bin .add (.tmp 23) (.tmp 24)), (some (21, true))⟩, .pure),
    (⟨(some 26), (.iaddr 1 (.tmp 22) (.tmp 25)), (some (21, true))⟩, (.read 0 0)),
    (⟨(some 27), (.load false 1 (.tmp 26)), (some (21, true))⟩, (.read 0 0)),
    (⟨(some 28), (.mv (.tmp 0)), (some (21, true))⟩, .pure),
    (⟨(some 29), (.mv (.tmp 3)), (some (21, true))⟩, .pure),
    (⟨(some 30), (.mv (.tmp 9)), (some (21, true))⟩, .pure),
    (⟨(some 31), (.bin .add (.tmp 29) (.tmp 30)), (some (21, true))⟩, .pure),
    (⟨(some 32), (.bin .add (.tmp 31) (.av (.int .i64 1))), (some (21, true))⟩, .pure),
    (⟨(some 33), (.iaddr 1 (.tmp 28) (.tmp 32)), (some (21, true))⟩, (.read 0 0)),
    (⟨(some 34), (.load false 1 (.tmp 33)), (some (21, true))⟩, (.read 0 0))]
def r_f339_3t : List LOper :=
   [⟨(some 35), (.call 322 [(.tmp 27), (.tmp 34)]), (some (21, true))⟩,
    ⟨(some 36), (.pick (.tmp 21) (.tmp 35) (.av (.bool false))), none⟩]
def r_f339_4 : List SOp :=
   [.op ⟨(some 37), (.mv (.tmp 9)), none⟩,
    .op ⟨(some 38), (.bin .add (.tmp 37) (.av (.int .i64 1))), none⟩,
    .op ⟨(some 9), (.mv (.tmp 38)), none⟩]
def r_f339_5 : List SOp :=
   [.op ⟨(some 39), (.mv (.tmp 0)), none⟩,
    .op ⟨(some 40), (.mv (.tmp 3)), none⟩,
    .op ⟨(some 41), (.mv (.tmp 8)), none⟩,
    .op ⟨(some 42), (.bin .add (.tmp 40) (.tmp 41)), none⟩,
    .op ⟨(some 43), (.iaddr 1 (.tmp 39) (.tmp 42)), none⟩,
    .op ⟨(some 44), (.load false 1 (.tmp 43)), none⟩,
    .op ⟨(some 45), (.mv (.tmp 0)), none⟩,
    .op ⟨(some 46), (.mv (.tmp 3)), none⟩,
    .op ⟨(some 47), (.mv (.tmp 9)), none⟩,
    .op ⟨(some 48), (.bin .add (.tmp 46) (.tmp 47)), none⟩,
    .op ⟨(some 49), (.iaddr 1 (.tmp 45) (.tmp 48)), none⟩,
    .op ⟨(some 50), (.load false 1 (.tmp 49)), none⟩,
    .op ⟨(some 51), (.call 322 [(.tmp 44), (.tmp 50)]), none⟩,
    .op ⟨(some 52), (.un .not (.tmp 51)), none⟩]
def r_f339_6 : List (LOper × Kd) :=
   [(⟨(some 53), (.mv (.tmp 0)), none⟩, .pure),
    (⟨(some 54), (.mv (.tmp 3)), none⟩, .pure),
    (⟨(some 55), (.mv (.tmp 8)), none⟩, .pure),
    (⟨(some 56), (.bin .add (.tmp 54) (.tmp 55)), none⟩, .pure),
    (⟨(some 57), (.mv (.tmp 0)), none⟩, .pure),
    (⟨(some 58), (.mv (.tmp 3)), none⟩, .pure),
    (⟨(some 59), (.mv (.tmp 9)), none⟩, .pure),
    (⟨(some 60), (.bin .add (.tmp 58) (.tmp 59)), none⟩, .pure),
    (⟨(some 61), (.mv (.tmp 0)), none⟩, .pure),
    (⟨(some 62), (.mv (.tmp 3)), none⟩, .pure),
    (⟨(some 63), (.mv (.tmp 9)), none⟩, .pure),
    (⟨(some 64), (.bin .add (.tmp 62) (.tmp 63)), none⟩, .pure),
    (⟨(some 65), (.iaddr 1 (.tmp 61) (.tmp 64)), none⟩, (.read 0 0)),
    (⟨(some 66), (.load false 1 (.tmp 65)), none⟩, (.read 0 0)),
    (⟨(some 67), (.mv (.tmp 0)), none⟩, .pure),
    (⟨(some 68), (.mv (.tmp 3)), none⟩, .pure),
    (⟨(some 69), (.mv (.tmp 8)), none⟩, .pure),
    (⟨(some 70), (.bin .add (.tmp 68) (.tmp 69)), none⟩, .pure),
    (⟨(some 71), (.iaddr 1 (.tmp 67) (.tmp 70)), none⟩, (.read 0 0)),
    (⟨(some 72), (.load false 1 (.tmp 71)), none⟩, (.read 0 0)),
    (⟨(some 73), (.iaddr 1 (.tmp 53) (.tmp 56)), none⟩, (.read 0 0)),
    (⟨none, (.store 1 (.tmp 73) (.tmp 66)), none⟩, .eff)]
def r_f339_6t : List LOper :=
   [⟨(some 74), (.iaddr 1 (.tmp 57) (.tmp 60)), none⟩,
    ⟨none, (.store 1 (.tmp 74) (.tmp 72)), none⟩]
def r_f339_7 : List SOp :=
   [.op ⟨(some 75), (.mv (.tmp 9)), none⟩,
    .op ⟨(some 8), (.mv (.tmp 75)), none⟩]
def c_f339 : LFun := ⟨76, (.seq (.sreg r_f339_0 [true, false])
  (.block 0 (.loop (.block 1 (.seq (.sreg r_f339_1 [true, false, false, false])
  (.seq (.seq (.sreg r_f339_2 [true, false, false])
  (.cond (.tmp 16) (.exit 0)
  .skip))
  (.seq (.seq (.dregM r_f339_3 r_f339_3t [true, false, false, false, false, false, false, false, false, false, false, false, false, false, false, false, false, false, false, false])
  (.cond (.tmp 36) (.sreg r_f339_4 [true, false, false])
  .skip))
  (.seq (.seq (.sdreg r_f339_5 [.pure, .pure, .pure, .pure, (.read 0 0), (.read 0 0), .pure, .pure, .pure, .pure, (.read 0 0), (.read 0 0)] [true, false, false, false, false, false, false, false, false, false, false, false, false, false])
  (.cond (.tmp 52) .ret
  .skip))
  (.seq (.dregM r_f339_6 r_f339_6t [false, false, false, false, false, false, false, false, false, false, false, false, false, false, false, false, false, false, false, false, false, false])
  (.sreg r_f339_7 [true, false])))))))))), []⟩
def o_f339 : Nat → Nat → Nat := fun r i => if r = 3 ∧ i = 18 then 3 else if r = 5 ∧ i = 12 then 3 else 1
theorem c_f339_eq : lowF Tryz.prog o_f339 339 = some c_f339.raw := by kernel_rfl
theorem c_f339_ok : c_f339.code.okc = true := by kernel_rfl
/-! slices.nextPowerOfTwo -/
def r_f250_0 : List SOp :=
   [.op ⟨(some 2), (.mv (.av (.int .u64 0))), none⟩]
def r_f250_1 : List SOp :=
   [.op ⟨(some 3), (.mv (.tmp 0)), none⟩,
    .op ⟨(some 4), (.conv .u64 (.tmp 3)), none⟩,
    .op ⟨(some 5), (.call 145 [(.tmp 4)]), none⟩,
    .op ⟨(some 6), (.bin .shl (.av (.int .u64 1)) (.tmp 5)), none⟩,
    .op ⟨(some 2), (.mv (.tmp 6)), none⟩]
def c_f250 : LFun := ⟨7, (.seq (.sreg r_f250_0 [])
  (.seq (.sreg r_f250_1 [true, false, false, false, false])
  .ret)), [(.tmp 2)]⟩
def o_f250 : Nat → Nat → Nat := fun _ _ => 1
theorem c_f250_eq : lowF Tryz.prog o_f250 250 = some c_f250.raw := by kernel_rfl
theorem c_f250_ok : c_f250.code.okc = true := by kernel_rfl
/-! (*slices.xorshift).Next -/
def r_f251_0 : List SOp :=
   [.op ⟨(some 2), (.mv (.av (.int .u64 0))), none⟩]
def r_f251_1 : List (LOper × Kd) :=
   [(⟨(some 3), (.mv (.tmp 0)), none⟩, .pure),
    (⟨(some 4), (.nilchk (.tmp 3)), none⟩, (.read 0 0)),
    (⟨(some 5), (.load false 1 (.tmp 4)), none⟩, (.read 0 0)),
    (⟨(some 6), (.mv (.tmp 0)), none⟩, .pure),
    (⟨(some 7), (.nilchk (.tmp 6)), none⟩, (.read 0 0)),
    (⟨(some 8), (.load false 1 (.tmp 7)), none⟩, (.read 0 0)),
    (⟨(some 9), (.bin .shl (.tmp 8) (.av (.int .u64 13))), none⟩, .pure)]
def r_f251_1t : List LOper :=
   [⟨(some 10), (.bin .xor (.tmp 5) (.tmp 9)), none⟩,
    ⟨(some 11), (.nilchk (.tmp 3)), none⟩,
    ⟨none, (.store 1 (.tmp 11) (.tmp 10)), none⟩]
def r_f251_2 : List (LOper × Kd) :=
   [(⟨(some 12), (.mv (.tmp 0)), none⟩, .pure),
    (⟨(some 13), (.nilchk (.tmp 12)), none⟩, (.read 0 0)),
    (⟨(some 14), (.load false 1 (.tmp 13)), none⟩, (.read 0 0)),
    (⟨(some 15), (.mv (.tmp 0)), none⟩, .pure),
    (⟨(some 16), (.nilchk (.tmp 15)), none⟩, (.read 0 0)),
    (⟨(some 17), (.load false 1 (.tmp 16)), none⟩, (.read 0 0)),
    (⟨(some 18), (.bin .shr (.tmp 17) (.av (.int .u64 7))), none⟩, .pure)]
def r_f251_2t : List LOper :=
   [⟨(some 19), (.bin .xor (.tmp 14) (.tmp 18)), none⟩,
    ⟨(some 20), (.nilchk (.tmp 12)), none⟩,
    ⟨none, (.store 1 (.tmp 20) (.tmp 19)), none⟩]
def r_f251_3 : List (LOper × Kd) :=
   [(⟨(some 21), (.mv (.tmp 0)), none⟩, .pure),
    (⟨(some 22), (.nilchk (.tmp 21)), none⟩, (.read 0 0)),
    (⟨(some 23), (.load false 1 (.tmp 22)), none⟩, (.read 0 0)),
    (⟨(some 24), (.mv (.tmp 0)), none⟩, .pure),
    (⟨(some 25), (.nilchk (.tmp 24)), none⟩, (.read 0 0)),
    (⟨(some 26), (.load false 1 (.tmp 25)), none⟩, (.read 0 0)),
    (⟨(some 27), (.bin .shl (.tmp 26) (.av (.int .u64 17))), none⟩, .pure)]
def r_f251_3t : List LOper :=
   [⟨(some 28), (.bin .xor (.tmp 23) (.tmp 27)), none⟩,
    ⟨(some 29), (.nilchk (.tmp 21)), none⟩,
    ⟨none, (.store 1 (.tmp 29) (.tmp 28)), none⟩]
def r_f251_4 : List SOp :=
   [.op ⟨(some 30), (.mv (.tmp 0)), none⟩,
    .op ⟨(some 31), (.nilchk (.tmp 30)), none⟩,
    .op ⟨(some 32), (.load false 1 (.tmp 31)), none⟩,
    .op ⟨(some 2), (.mv (.tmp 32)), none⟩]
def c_f251 : LFun := ⟨33, (.seq (.sreg r_f251_0 [])
  (.seq (.dregM r_f251_1 r_f251_1t [false, false, false, false, false, false, false, false, false])
  (.seq (.dregM r_f251_2 r_f251_2t [false, false, false, false, false, false, false, false, false])
  (.seq (.dregM r_f251_3 r_f251_3t [false, false, false, false, false, false, false, false, false])
  (.seq (.sreg r_f251_4 [true, false, false, false])
  .ret))))), [(.tmp 2)]⟩
def o_f251 : Nat → Nat → Nat := fun _ _ => 1
theorem c_f251_eq : lowF Tryz.prog o_f251 251 = some c_f251.raw := by kernel_rfl
theorem c_f251_ok : c_f251.code.okc = true := by kernel_rfl
/-! slices.medianAdjacentOrdered[string] -/
def r_f340_0 : List SOp :=
   [.op ⟨(some 6), (.mv (.av (.int .i64 0))), none⟩]
def r_f340_1 : List SOp :=
   [.op ⟨(some 7), (.mv (.tmp 0)), none⟩,
    .op ⟨(some 8), (.mv (.tmp 1)), none⟩,
    .op ⟨(some 9), (.bin .sub (.tmp 8) (.av (.int .i64 1))), none⟩,
    .op ⟨(some 10), (.mv (.tmp 1)), none⟩,
    .op ⟨(some 11), (.mv (.tmp 1)), none⟩,
    .op ⟨(some 12), (.bin .add (.tmp 11) (.av (.int .i64 1))), none⟩,
    .op ⟨(some 13), (.mv (.tmp 2)), none⟩,
    .op ⟨(some 14), (.call 341 [(.tmp 7), (.tmp 9), (.tmp 10), (.tmp 12), (.tmp 13)]), none⟩,
    .op ⟨(some 6), (.mv (.tmp 14)), none⟩]
def c_f340 : LFun := ⟨15, (.seq (.sreg r_f340_0 [])
  (.seq (.sreg r_f340_1 [true, false, false, false, false, false, false, false, false])
  .ret)), [(.tmp 6)]⟩
def o_f340 : Nat → Nat → Nat := fun _ _ => 1
theorem c_f340_eq : lowF Tryz.prog o_f340 340 = some c_f340.raw := by kernel_rfl
theorem c_f340_ok : c_f340.code.okc = true := by kernel_rfl
/-! slices.medianOrdered[string] -/
def r_f341_0 : List SOp :=
   [.op ⟨(some 10), (.mv (.av (.int .i64 0))), none⟩]
def r_f341_1 : List SOp :=
   [.op ⟨(some 12), (.mv (.tmp 0)), none⟩,
    .op ⟨(some 13), (.mv (.tmp 1)), none⟩,
    .op ⟨(some 14), (.mv (.tmp 2)), none⟩,
    .op ⟨(some 15), (.mv (.tmp 4)), none⟩,
    .op ⟨(some 16), (.call 344 [(.tmp 12), (.tmp 13), (.tmp 14), (.tmp 15)]), none⟩,
    .op ⟨(some 11), (.mv (.tmp 16)), none⟩,
    .op ⟨(some 17), (.extract (.tmp 11) 0), none⟩,
    .op ⟨(some 18), (.extract (.tmp 11) 1), none⟩,
    .op ⟨(some 1), (.mv (.tmp 17)), none⟩,
    .op ⟨(some 2), (.mv (.tmp 18)), none⟩]
def r_f341_2 : List SOp :=
   [.op ⟨(some 20), (.mv (.tmp 0)), none⟩,
    .op ⟨(some 21), (.mv (.tmp 2)), none⟩,
    .op ⟨(some 22), (.mv (.tmp 3)), none⟩,
    .op ⟨(some 23), (.mv (.tmp 4)), none⟩,
    .op ⟨(some 24), (.call 344 [(.tmp 20), (.tmp 21), (.tmp 22), (.tmp 23)]), none⟩,
    .op ⟨(some 19), (.mv (.tmp 24)), none⟩,
    .op ⟨(some 25), (.extract (.tmp 19) 0), none⟩,
    .op ⟨(some 26), (.extract (.tmp 19) 1), none⟩,
    .op ⟨(some 2), (.mv (.tmp 25)), none⟩,
    .op ⟨(some 3), (.mv (.tmp 26)), none⟩]
def r_f341_3 : List SOp :=
   [.op ⟨(some 28), (.mv (.tmp 0)), none⟩,
    .op ⟨(some 29), (.mv (.tmp 1)), none⟩,
    .op ⟨(some 30), (.mv (.tmp 2)), none⟩,
    .op ⟨(some 31), (.mv (.tmp 4)), none⟩,
    .op ⟨(some 32), (.call 344 [(.tmp 28), (.tmp 29), (.tmp 30), (.tmp 31)]), none⟩,
    .op ⟨(some 27), (.mv (.tmp 32)), none⟩,
    .op ⟨(some 33), (.extract (.tmp 27) 0), none⟩,
    .op ⟨(some 34), (.extract (.tmp 27) 1), none⟩,
    .op ⟨(some 1), (.mv (.tmp 33)), none⟩,
    .op ⟨(some 2), (.mv (.tmp 34)), none⟩]
def r_f341_4 : List SOp :=
   [.op ⟨(some 35), (.mv (.tmp 2)), none⟩,
    .op ⟨(some 10), (.mv (.tmp 35)), none⟩]
def c_f341 : LFun := ⟨36, (.seq (.sreg r_f341_0 [])
  (.seq (.sreg r_f341_1 [true, true, false, false, false, false, false, false, false, false])
  (.seq (.sreg r_f341_2 [true, true, false, false, false, false, false, false, false, false])
  (.seq (.sreg r_f341_3 [true, true, false, false, false, false, false, false, false, false])
  (.seq (.sreg r_f341_4 [true, false])
  .ret))))), [(.tmp 10)]⟩
def o_f341 : Nat → Nat → Nat := fun _ _ => 1
theorem c_f341_eq : lowF Tryz.prog o_f341 341 = some c_f341.raw := by kernel_rfl
theorem c_f341_ok : c_f341.code.okc = true := by kernel_rfl
/-! cmp.isNaN[string] -/
def r_f292_0 : List SOp :=
   [.op ⟨(some 2), (.mv (.av (.bool false))), none⟩]
def r_f292_1 : List SOp :=
   [.op ⟨(some 3), (.mv (.tmp 0)), none⟩,
    .op ⟨(some 4), (.mv (.tmp 0)), none⟩,
    .op ⟨(some 5), (.bin .neq (.tmp 3) (.tmp 4)), none⟩,
    .op ⟨(some 2), (.mv (.tmp 5)), none⟩]
def c_f292 : LFun := ⟨6, (.seq (.sreg r_f292_0 [])
  (.seq (.sreg r_f292_1 [true, false, false, false])
  .ret)), [(.tmp 2)]⟩
def o_f292 : Nat → Nat → Nat := fun _ _ => 1
theorem c_f292_eq : lowF Tryz.prog o_f292 292 = some c_f292.raw := by kernel_rfl
theorem c_f292_ok : c_f292.code.okc = true := by kernel_rfl
/-! slices.order2Ordered[string] -/
def r_f344_0 : List SOp :=
   [.op ⟨(some 8), (.mv (.av (.int .i64 0))), none⟩,
    .op ⟨(some 9), (.mv (.av (.int .i64 0))), none⟩]
def r_f344_1 : List SOp :=
   [.op ⟨(some 10), (.mv (.tmp 0)), none⟩,
    .op ⟨(some 11), (.mv (.tmp 2)), none⟩,
    .op ⟨(some 12), (.iaddr 1 (.tmp 10) (.tmp 11)), none⟩,
    .op ⟨(some 13), (.load false 1 (.tmp 12)), none⟩,
    .op ⟨(some 14), (.mv (.tmp 0)), none⟩,
    .op ⟨(some 15), (.mv (.tmp 1)), none⟩,
    .op ⟨(some 16), (.iaddr 1 (.tmp 14) (.tmp 15)), none⟩,
    .op ⟨(some 17), (.load false 1 (.tmp 16)), none⟩,
    .op ⟨(some 18), (.call 322 [(.tmp 13), (.tmp 17)]), none⟩]
def r_f344_2 : List SOp :=
   [.op ⟨(some 19), (.mv (.tmp 3)), none⟩,
    .op ⟨(some 20), (.nilchk (.tmp 19)), none⟩,
    .op ⟨(some 21), (.load false 1 (.tmp 20)), none⟩,
    .op ⟨(some 22), (.bin .add (.tmp 21) (.av (.int .i64 1))), none⟩,
    .op ⟨(some 23), (.nilchk (.tmp 19)), none⟩,
    .op ⟨none, (.store 1 (.tmp 23) (.tmp 22)), none⟩]
def r_f344_3 : List SOp :=
   [.op ⟨(some 24), (.mv (.tmp 2)), none⟩,
    .op ⟨(some 25), (.mv (.tmp 1)), none⟩,
    .op ⟨(some 8), (.mv (.tmp 24)), none⟩,
    .op ⟨(some 9), (.mv (.tmp 25)), none⟩]
def r_f344_4 : List SOp :=
   [.op ⟨(some 26), (.mv (.tmp 1)), none⟩,
    .op ⟨(some 27), (.mv (.tmp 2)), none⟩,
    .op ⟨(some 8), (.mv (.tmp 26)), none⟩,
    .op ⟨(some 9), (.mv (.tmp 27)), none⟩]
def c_f344 : LFun := ⟨28, (.seq (.sreg r_f344_0 [])
  (.seq (.seq (.sdreg r_f344_1 [.pure, .pure, (.read 0 0), (.read 0 0), .pure, .pure, (.read 0 0), (.read 0 0)] [true, false, false, false, false, false, false, false, false])
  (.cond (.tmp 18) (.seq (.sreg r_f344_2 [false, false, false, false, false])
  (.seq (.sreg r_f344_3 [true, true, false, false])
  .ret))
  .skip))
  (.seq (.sreg r_f344_4 [true, true, false, false])
  .ret))), [(.tmp 8), (.tmp 9)]⟩
def o_f344 : Nat → Nat → Nat := fun r i => if r = 1 ∧ i = 8 then 3 else 1
theorem c_f344_eq : lowF Tryz.prog o_f344 344 = some c_f344.raw := by kernel_rfl
theorem c_f344_ok : c_f344.code.okc = true := by kernel_rfl

end Go.Proofs.YtkmfnbhdjijlnaaGreatDoor.Av
