/- Bodies of functions, lowered: printed by a program (wip/tools/lower.py); each is held against the program by the kernel. -/
import Derived.Test.YtffnflplocbpiaaGreatDoorQP4
import Derived.Test.YtffnflplocbpiaaGreatDoorRows
import Derived.KernelRfl
set_option maxRecDepth 100000
set_option linter.unusedSimpArgs false
set_option linter.unusedVariables false
namespace Go.Proofs.YtffnflplocbpiaaGreatDoor.Av
open Go

/-! castellan/castellanref10.Check -/
def r_ref10_Check_0 : List SOp :=
   [.op ⟨(some 1), (.box (.tmp 0)), none⟩,
    .op ⟨(some 2), (.mv (.av (.int .i64 0))), none⟩]
def r_ref10_Check_1 : List SOp :=
   [.op ⟨(some 6), (.load true 5 (.tmp 1)), none⟩,
    .op ⟨(some 7), (.call 55 [(.tmp 6), (.av (.int .i64 1)), (.av (.int .i64 0))]), none⟩,
    .op ⟨(some 5), (.mv (.tmp 7)), none⟩,
    .op ⟨(some 8), (.extract (.tmp 5) 0), none⟩,
    .op ⟨(some 9), (.extract (.tmp 5) 1), none⟩,
    .op ⟨(some 3), (.mv (.tmp 8)), none⟩,
    .op ⟨(some 4), (.mv (.tmp 9)), none⟩]
def r_ref10_Check_2 : List SOp :=
   [.op ⟨(some 10), (.mv (.tmp 3)), none⟩,
    .op ⟨(some 2), (.mv (.tmp 10)), none⟩]
def c_ref10_Check : LFun := ⟨11, (.seq (.sreg r_ref10_Check_0 [])
  (.seq (.sreg r_ref10_Check_1 [false, true, false, false, false, false, false])
  (.seq (.sreg r_ref10_Check_2 [true, false])
  .ret))), [(.tmp 2)]⟩
attribute [push_cast] r_ref10_Check_0 r_ref10_Check_1 r_ref10_Check_2
theorem c_ref10_Check_eq : lowF Tryz.prog (fun _ _ => 1) 35 = some c_ref10_Check.raw := by kernel_rfl

/-! castellan/castellanref10.check -/
def r_ref10_check_0 : List SOp :=
   [.op ⟨(some 3), (.box (.tmp 0)), none⟩,
    .op ⟨(some 6), (.mv (.av (.int .i64 0))), none⟩,
    .op ⟨(some 7), (.mv (.av (.int .i64 0))), none⟩]
def r_ref10_check_1 : List SOp :=
   [.op ⟨(some 16), (.mv (.tmp 2)), none⟩,
    .op ⟨(some 17), (.bin .add (.tmp 16) (.av (.int .i64 1))), none⟩,
    .op ⟨(some 2), (.mv (.tmp 17)), none⟩]
def r_ref10_check_2 : List SOp :=
   [.op ⟨(some 18), (.mv (.tmp 1)), none⟩,
    .op ⟨(some 19), (.bin .gtr (.tmp 18) (.av (.int .i64 64))), none⟩]
def r_ref10_check_3 : List SOp :=
   [.op ⟨(some 20), (.mv (.tmp 2)), none⟩,
    .op ⟨(some 6), (.mv (.av (.int .i64 6))), none⟩,
    .op ⟨(some 7), (.mv (.tmp 20)), none⟩]
def r_ref10_check_4 : List SOp :=
   [.op ⟨(some 21), (.mv (.tmp 2)), none⟩,
    .op ⟨(some 22), (.bin .gtr (.tmp 21) (.av (.int .i64 1000))), none⟩]
def r_ref10_check_5 : List SOp :=
   [.op ⟨(some 23), (.mv (.tmp 2)), none⟩,
    .op ⟨(some 6), (.mv (.av (.int .i64 9))), none⟩,
    .op ⟨(some 7), (.mv (.tmp 23)), none⟩]
def r_ref10_check_6 : List SOp :=
   [.op ⟨(some 24), (.faddr 0 (.tmp 3)), none⟩,
    .op ⟨(some 25), (.load false 1 (.tmp 24)), none⟩,
    .op ⟨(some 26), (.bin .lss (.tmp 25) (.av (.int .i64 0))), none⟩,
    .op ⟨(some 27), (.mv (.tmp 26)), none⟩,
    .grp none 27 false
      [.op ⟨(some 28), (.faddr 0 (.tmp 3)), (some (27, false))⟩,
      .op ⟨(some 29), (.load false 1 (.tmp 28)), (some (27, false))⟩,
      .op ⟨(some 30), (.bin .gtr (.tmp 29) (.av (.int .i64 8))), (some (27, false))⟩]
      31 (.tmp 30)]
def r_ref10_check_7 : List SOp :=
   [.op ⟨(some 32), (.mv (.tmp 2)), none⟩,
    .op ⟨(some 6), (.mv (.av (.int .i64 24))), none⟩,
    .op ⟨(some 7), (.mv (.tmp 32)), none⟩]
def r_ref10_check_8 : List SOp :=
   [.op ⟨(some 33), (.faddr 0 (.tmp 3)), none⟩,
    .op ⟨(some 34), (.load false 1 (.tmp 33)), none⟩,
    .op ⟨(some 35), (.bin .lss (.tmp 34) (.av (.int .i64 3))), none⟩]
def r_ref10_check_9 : List SOp :=
   [.op ⟨(some 36), (.faddr 0 (.tmp 3)), none⟩,
    .op ⟨(some 37), (.load false 1 (.tmp 36)), none⟩,
    .op ⟨(some 38), (.bin .eql (.tmp 37) (.av (.int .i64 2))), none⟩,
    .op ⟨(some 39), (.mv (.tmp 38)), none⟩,
    .grp none 39 true
      [.op ⟨(some 40), (.faddr 4 (.tmp 3)), (some (39, true))⟩,
      .op ⟨(some 41), (.load false 1 (.tmp 40)), (some (39, true))⟩,
      .op ⟨(some 42), (.len false (.tmp 41)), (some (39, true))⟩,
      .op ⟨(some 43), (.bin .neq (.tmp 42) (.av (.int .i64 1))), (some (39, true))⟩]
      44 (.tmp 43)]
def r_ref10_check_10 : List SOp :=
   [.op ⟨(some 45), (.mv (.tmp 2)), none⟩,
    .op ⟨(some 6), (.mv (.av (.int .i64 2))), none⟩,
    .op ⟨(some 7), (.mv (.tmp 45)), none⟩]
def r_ref10_check_11 : List SOp :=
   [.op ⟨(some 46), (.faddr 4 (.tmp 3)), none⟩,
    .op ⟨(some 47), (.load false 1 (.tmp 46)), none⟩,
    .op ⟨(some 48), (.len false (.tmp 47)), none⟩,
    .op ⟨(some 49), (.mv (.av (.int .i64 0))), none⟩]
def r_ref10_check_12 : List SOp :=
   [.op ⟨(some 50), (.bin .lss (.tmp 49) (.tmp 48)), none⟩]
def r_ref10_check_13 : List SOp :=
   [.op ⟨(some 51), (.mv (.tmp 49)), none⟩,
    .op ⟨(some 8), (.mv (.tmp 51)), none⟩]
def r_ref10_check_14 : List SOp :=
   [.op ⟨(some 53), (.faddr 4 (.tmp 3)), none⟩,
    .op ⟨(some 54), (.load false 1 (.tmp 53)), none⟩,
    .op ⟨(some 55), (.mv (.tmp 8)), none⟩,
    .op ⟨(some 56), (.iaddr 5 (.tmp 54) (.tmp 55)), none⟩,
    .op ⟨(some 57), (.load true 5 (.tmp 56)), none⟩,
    .op ⟨(some 58), (.mv (.tmp 1)), none⟩,
    .op ⟨(some 59), (.bin .add (.tmp 58) (.av (.int .i64 1))), none⟩,
    .op ⟨(some 60), (.mv (.tmp 2)), none⟩,
    .op ⟨(some 61), (.call 55 [(.tmp 57), (.tmp 59), (.tmp 60)]), none⟩,
    .op ⟨(some 52), (.mv (.tmp 61)), none⟩,
    .op ⟨(some 62), (.extract (.tmp 52) 0), none⟩,
    .op ⟨(some 63), (.extract (.tmp 52) 1), none⟩,
    .op ⟨(some 9), (.mv (.tmp 62)), none⟩,
    .op ⟨(some 10), (.mv (.tmp 63)), none⟩]
def r_ref10_check_15 : List SOp :=
   [.op ⟨(some 64), (.mv (.tmp 10)), none⟩,
    .op ⟨(some 2), (.mv (.tmp 64)), none⟩]
def r_ref10_check_16 : List SOp :=
   [.op ⟨(some 65), (.mv (.tmp 9)), none⟩,
    .op ⟨(some 66), (.bin .neq (.tmp 65) (.av (.int .i64 0))), none⟩]
def r_ref10_check_17 : List SOp :=
   [.op ⟨(some 67), (.mv (.tmp 9)), none⟩,
    .op ⟨(some 68), (.mv (.tmp 2)), none⟩,
    .op ⟨(some 6), (.mv (.tmp 67)), none⟩,
    .op ⟨(some 7), (.mv (.tmp 68)), none⟩]
def r_ref10_check_18 : List SOp :=
   [.op ⟨(some 69), (.bin .add (.tmp 49) (.av (.int .i64 1))), none⟩,
    .op ⟨(some 49), (.mv (.tmp 69)), none⟩]
def r_ref10_check_19 : List SOp :=
   [.op ⟨(some 70), (.mv (.tmp 2)), none⟩,
    .op ⟨(some 6), (.mv (.av (.int .i64 0))), none⟩,
    .op ⟨(some 7), (.mv (.tmp 70)), none⟩]
def r_ref10_check_20 : List SOp :=
   [.op ⟨(some 71), (.faddr 1 (.tmp 3)), none⟩,
    .op ⟨(some 72), (.load false 1 (.tmp 71)), none⟩,
    .op ⟨(some 73), (.call 65 [(.tmp 72)]), none⟩,
    .op ⟨(some 74), (.un .not (.tmp 73)), none⟩]
def r_ref10_check_21 : List SOp :=
   [.op ⟨(some 75), (.mv (.tmp 2)), none⟩,
    .op ⟨(some 6), (.mv (.av (.int .i64 20))), none⟩,
    .op ⟨(some 7), (.mv (.tmp 75)), none⟩]
def r_ref10_check_22 : List SOp :=
   [.op ⟨(some 76), (.faddr 0 (.tmp 3)), none⟩,
    .op ⟨(some 77), (.load false 1 (.tmp 76)), none⟩,
    .op ⟨(some 78), (.bin .eql (.tmp 77) (.av (.int .i64 4))), none⟩]
def r_ref10_check_23 : List SOp :=
   [.op ⟨(some 79), (.faddr 3 (.tmp 3)), none⟩,
    .op ⟨(some 80), (.load false 1 (.tmp 79)), none⟩,
    .op ⟨(some 81), (.len false (.tmp 80)), none⟩,
    .op ⟨(some 82), (.bin .gtr (.tmp 81) (.av (.int .i64 0))), none⟩,
    .op ⟨(some 11), (.mv (.tmp 82)), none⟩]
def r_ref10_check_24 : List SOp :=
   [.op ⟨(some 83), (.faddr 3 (.tmp 3)), none⟩,
    .op ⟨(some 84), (.load false 1 (.tmp 83)), none⟩,
    .op ⟨(some 85), (.len false (.tmp 84)), none⟩,
    .op ⟨(some 86), (.mv (.av (.int .i64 0))), none⟩]
def r_ref10_check_25 : List SOp :=
   [.op ⟨(some 87), (.bin .lss (.tmp 86) (.tmp 85)), none⟩]
def r_ref10_check_26 : List SOp :=
   [.op ⟨(some 88), (.mv (.tmp 86)), none⟩,
    .op ⟨(some 89), (.iaddr 2 (.tmp 84) (.tmp 86)), none⟩,
    .op ⟨(some 90), (.load true 2 (.tmp 89)), none⟩,
    .op ⟨(some 13), (.alloc [(.int .i64 0), (.str [])]), none⟩,
    .op ⟨(some 12), (.mv (.tmp 88)), none⟩,
    .op ⟨none, (.store 2 (.tmp 13) (.tmp 90)), none⟩]
def r_ref10_check_27 : List SOp :=
   [.op ⟨(some 91), (.mv (.tmp 12)), none⟩,
    .op ⟨(some 92), (.bin .eql (.tmp 91) (.av (.int .i64 0))), none⟩,
    .op ⟨(some 14), (.mv (.tmp 92)), none⟩]
def r_ref10_check_28 : List SOp :=
   [.op ⟨(some 93), (.mv (.tmp 12)), none⟩,
    .op ⟨(some 94), (.bin .add (.tmp 93) (.av (.int .i64 1))), none⟩,
    .op ⟨(some 95), (.faddr 3 (.tmp 3)), none⟩,
    .op ⟨(some 96), (.load false 1 (.tmp 95)), none⟩,
    .op ⟨(some 97), (.len false (.tmp 96)), none⟩,
    .op ⟨(some 98), (.bin .eql (.tmp 94) (.tmp 97)), none⟩,
    .op ⟨(some 15), (.mv (.tmp 98)), none⟩]
def r_ref10_check_29 : List SOp :=
   [.op ⟨(some 99), (.mv (.tmp 11)), none⟩,
    .op ⟨(some 100), (.mv (.tmp 99)), none⟩,
    .grp none 100 true
      [.op ⟨(some 101), (.faddr 1 (.tmp 13)), (some (100, true))⟩,
      .op ⟨(some 102), (.load false 1 (.tmp 101)), (some (100, true))⟩,
      .op ⟨(some 103), (.bin .neq (.tmp 102) (.av (.str []))), (some (100, true))⟩]
      104 (.tmp 103),
    .op ⟨(some 105), (.mv (.tmp 104)), none⟩,
    .grp none 105 true
      [.op ⟨(some 106), (.faddr 0 (.tmp 13)), (some (105, true))⟩,
      .op ⟨(some 107), (.load false 1 (.tmp 106)), (some (105, true))⟩,
      .op ⟨(some 108), (.bin .eql (.tmp 107) (.av (.int .i64 1))), (some (105, true))⟩,
      .op ⟨(some 109), (.mv (.tmp 108)), (some (105, true))⟩,
      .grp (some (105, true)) 109 false
        [.op ⟨(some 110), (.faddr 0 (.tmp 13)), (some (109, false))⟩,
        .op ⟨(some 111), (.load false 1 (.tmp 110)), (some (109, false))⟩,
        .op ⟨(some 112), (.bin .eql (.tmp 111) (.av (.int .i64 0))), (some (109, false))⟩,
        .op ⟨(some 113), (.mv (.tmp 112)), (some (109, false))⟩,
        .grp (some (109, false)) 113 true
          [.op ⟨(some 114), (.mv (.tmp 14)), (some (113, true))⟩]
          115 (.tmp 114)]
        116 (.tmp 115),
      .op ⟨(some 117), (.mv (.tmp 116)), (some (105, true))⟩,
      .grp (some (105, true)) 117 false
        [.op ⟨(some 118), (.faddr 0 (.tmp 13)), (some (117, false))⟩,
        .op ⟨(some 119), (.load false 1 (.tmp 118)), (some (117, false))⟩,
        .op ⟨(some 120), (.bin .eql (.tmp 119) (.av (.int .i64 2))), (some (117, false))⟩,
        .op ⟨(some 121), (.mv (.tmp 120)), (some (117, false))⟩,
        .grp (some (117, false)) 121 true
          [.op ⟨(some 122), (.mv (.tmp 15)), (some (121, true))⟩]
          123 (.tmp 122)]
        124 (.tmp 123)]
      125 (.tmp 124),
    .op ⟨(some 11), (.mv (.tmp 125)), none⟩]
def r_ref10_check_30 : List SOp :=
   [.op ⟨(some 126), (.bin .add (.tmp 86) (.av (.int .i64 1))), none⟩,
    .op ⟨(some 86), (.mv (.tmp 126)), none⟩]
def r_ref10_check_31 : List SOp :=
   [.op ⟨(some 127), (.mv (.tmp 11)), none⟩,
    .op ⟨(some 128), (.un .not (.tmp 127)), none⟩]
def r_ref10_check_32 : List SOp :=
   [.op ⟨(some 129), (.mv (.tmp 2)), none⟩,
    .op ⟨(some 6), (.mv (.av (.int .i64 4))), none⟩,
    .op ⟨(some 7), (.mv (.tmp 129)), none⟩]
def r_ref10_check_33 : List SOp :=
   [.op ⟨(some 130), (.mv (.tmp 2)), none⟩,
    .op ⟨(some 6), (.mv (.av (.int .i64 0))), none⟩,
    .op ⟨(some 7), (.mv (.tmp 130)), none⟩]
def c_ref10_check : LFun := ⟨131, (.seq (.sreg r_ref10_check_0 [])
  (.seq (.sreg r_ref10_check_1 [true, false, false])
  (.seq (.seq (.sreg r_ref10_check_2 [true, false])
  (.cond (.tmp 19) (.seq (.sreg r_ref10_check_3 [true, true, false])
  .ret)
  .skip))
  (.seq (.seq (.sreg r_ref10_check_4 [true, false])
  (.cond (.tmp 22) (.seq (.sreg r_ref10_check_5 [true, true, false])
  .ret)
  .skip))
  (.seq (.seq (.sreg r_ref10_check_6 [true, false, false, false, false])
  (.cond (.tmp 31) (.seq (.sreg r_ref10_check_7 [true, true, false])
  .ret)
  .skip))
  (.seq (.seq (.sreg r_ref10_check_8 [true, false, false])
  (.cond (.tmp 35) (.seq (.seq (.sreg r_ref10_check_9 [true, false, false, false, false])
  (.cond (.tmp 44) (.seq (.sreg r_ref10_check_10 [true, true, false])
  .ret)
  .skip))
  (.seq (.seq (.sreg r_ref10_check_11 [true, true, false, false])
  (.block 0 (.loop (.seq (.sreg r_ref10_check_12 [])
  (.seq (.cond (.tmp 50) .skip
  (.exit 0))
  (.seq (.block 1 (.seq (.sreg r_ref10_check_13 [true, false])
  (.seq (.sreg r_ref10_check_14 [true, true, false, false, false, false, false, false, false, false, false, false, false, false])
  (.seq (.sreg r_ref10_check_15 [true, false])
  (.seq (.sreg r_ref10_check_16 [true, false])
  (.cond (.tmp 66) (.seq (.sreg r_ref10_check_17 [true, true, false, false])
  .ret)
  .skip))))))
  (.sreg r_ref10_check_18 [true, false])))))))
  (.seq (.sreg r_ref10_check_19 [true, true, false])
  .ret)))
  .skip))
  (.seq (.seq (.sreg r_ref10_check_20 [true, false, false, false])
  (.cond (.tmp 74) (.seq (.sreg r_ref10_check_21 [true, true, false])
  .ret)
  .skip))
  (.seq (.seq (.sreg r_ref10_check_22 [true, false, false])
  (.cond (.tmp 78) (.seq (.sreg r_ref10_check_23 [true, false, false, false, false])
  (.seq (.seq (.sreg r_ref10_check_24 [true, true, true, false])
  (.block 2 (.loop (.seq (.sreg r_ref10_check_25 [])
  (.seq (.cond (.tmp 87) .skip
  (.exit 2))
  (.seq (.block 3 (.seq (.sreg r_ref10_check_26 [true, true, false, false, false])
  (.seq (.sreg r_ref10_check_27 [true, false, false])
  (.seq (.sreg r_ref10_check_28 [true, false, false, false, false, false, false])
  (.sreg r_ref10_check_29 [true, false, false, false, false, false])))))
  (.sreg r_ref10_check_30 [true, false])))))))
  (.seq (.sreg r_ref10_check_31 [true, false])
  (.cond (.tmp 128) (.seq (.sreg r_ref10_check_32 [true, true, false])
  .ret)
  .skip))))
  .skip))
  (.seq (.sreg r_ref10_check_33 [true, true, false])
  .ret))))))))), [(.tmp 6), (.tmp 7)]⟩
attribute [push_cast] r_ref10_check_0 r_ref10_check_1 r_ref10_check_2 r_ref10_check_3 r_ref10_check_4 r_ref10_check_5 r_ref10_check_6 r_ref10_check_7 r_ref10_check_8 r_ref10_check_9 r_ref10_check_10 r_ref10_check_11 r_ref10_check_12 r_ref10_check_13 r_ref10_check_14 r_ref10_check_15 r_ref10_check_16 r_ref10_check_17 r_ref10_check_18 r_ref10_check_19 r_ref10_check_20 r_ref10_check_21 r_ref10_check_22 r_ref10_check_23 r_ref10_check_24 r_ref10_check_25 r_ref10_check_26 r_ref10_check_27 r_ref10_check_28 r_ref10_check_29 r_ref10_check_30 r_ref10_check_31 r_ref10_check_32 r_ref10_check_33
theorem c_ref10_check_eq : lowF Tryz.prog (fun _ _ => 1) 55 = some c_ref10_check.raw := by kernel_rfl

/-! castellan/castellanref12.fits -/
def r_ref12_fits_0 : List SOp :=
   [.op ⟨(some 4), (.mv (.av (.bool false))), none⟩]
def r_ref12_fits_1 : List SOp :=
   [.op ⟨(some 7), (.mv (.tmp 1)), none⟩,
    .op ⟨(some 8), (.len false (.tmp 7)), none⟩,
    .op ⟨(some 9), (.bin .eql (.tmp 8) (.av (.int .i64 0))), none⟩]
def r_ref12_fits_2 : List SOp :=
   [.op ⟨(some 4), (.mv (.av (.bool true))), none⟩]
def r_ref12_fits_3 : List SOp :=
   [.op ⟨(some 10), (.mv (.tmp 1)), none⟩,
    .op ⟨(some 11), (.iaddr 2 (.tmp 10) (.av (.int .i64 0))), none⟩,
    .op ⟨(some 12), (.faddr 1 (.tmp 11)), none⟩,
    .op ⟨(some 13), (.load false 1 (.tmp 12)), none⟩,
    .op ⟨(some 5), (.mv (.tmp 13)), none⟩]
def r_ref12_fits_4 : List SOp :=
   [.op ⟨(some 6), (.mv (.av (.int .i64 0))), none⟩]
def r_ref12_fits_5 : List SOp :=
   [.op ⟨(some 14), (.mv (.tmp 6)), none⟩,
    .op ⟨(some 15), (.mv (.tmp 5)), none⟩,
    .op ⟨(some 16), (.len true (.tmp 15)), none⟩,
    .op ⟨(some 17), (.bin .add (.tmp 14) (.tmp 16)), none⟩,
    .op ⟨(some 18), (.mv (.tmp 0)), none⟩,
    .op ⟨(some 19), (.len true (.tmp 18)), none⟩,
    .op ⟨(some 20), (.bin .leq (.tmp 17) (.tmp 19)), none⟩]
def r_ref12_fits_6 : List SOp :=
   [.op ⟨(some 23), (.mv (.tmp 0)), none⟩,
    .op ⟨(some 24), (.mv (.tmp 6)), none⟩,
    .op ⟨(some 25), (.mv (.tmp 6)), none⟩,
    .op ⟨(some 26), (.mv (.tmp 5)), none⟩,
    .op ⟨(some 27), (.len true (.tmp 26)), none⟩,
    .op ⟨(some 28), (.bin .add (.tmp 25) (.tmp 27)), none⟩,
    .op ⟨(some 29), (.slS (.tmp 23) (some (.tmp 24)) (some (.tmp 28))), none⟩,
    .op ⟨(some 30), (.mv (.tmp 5)), none⟩,
    .op ⟨(some 31), (.bin .neq (.tmp 29) (.tmp 30)), none⟩,
    .op ⟨(some 32), (.mv (.tmp 31)), none⟩,
    .grp none 32 false
      [.op ⟨(some 33), (.mv (.tmp 1)), (some (32, false))⟩,
      .op ⟨(some 34), (.iaddr 2 (.tmp 33) (.av (.int .i64 0))), (some (32, false))⟩,
      .op ⟨(some 35), (.faddr 0 (.tmp 34)), (some (32, false))⟩,
      .op ⟨(some 36), (.load false 1 (.tmp 35)), (some (32, false))⟩,
      .op ⟨(some 37), (.bin .eql (.tmp 36) (.av (.int .i64 0))), (some (32, false))⟩,
      .op ⟨(some 38), (.mv (.tmp 37)), (some (32, false))⟩,
      .grp (some (32, false)) 38 true
        [.op ⟨(some 39), (.mv (.tmp 6)), (some (38, true))⟩,
        .op ⟨(some 40), (.bin .gtr (.tmp 39) (.av (.int .i64 0))), (some (38, true))⟩]
        41 (.tmp 40)]
      42 (.tmp 41),
    .op ⟨(some 43), (.mv (.tmp 42)), none⟩,
    .grp none 43 false
      [.op ⟨(some 44), (.mv (.tmp 1)), (some (43, false))⟩,
      .op ⟨(some 45), (.iaddr 2 (.tmp 44) (.av (.int .i64 0))), (some (43, false))⟩,
      .op ⟨(some 46), (.faddr 0 (.tmp 45)), (some (43, false))⟩,
      .op ⟨(some 47), (.load false 1 (.tmp 46)), (some (43, false))⟩,
      .op ⟨(some 48), (.bin .eql (.tmp 47) (.av (.int .i64 2))), (some (43, false))⟩,
      .op ⟨(some 49), (.mv (.tmp 48)), (some (43, false))⟩,
      .grp (some (43, false)) 49 true
        [.op ⟨(some 50), (.mv (.tmp 6)), (some (49, true))⟩,
        .op ⟨(some 51), (.mv (.tmp 5)), (some (49, true))⟩,
        .op ⟨(some 52), (.len true (.tmp 51)), (some (49, true))⟩,
        .op ⟨(some 53), (.bin .add (.tmp 50) (.tmp 52)), (some (49, true))⟩,
        .op ⟨(some 54), (.mv (.tmp 0)), (some (49, true))⟩,
        .op ⟨(some 55), (.len true (.tmp 54)), (some (49, true))⟩,
        .op ⟨(some 56), (.bin .lss (.tmp 53) (.tmp 55)), (some (49, true))⟩]
        57 (.tmp 56)]
      58 (.tmp 57)]
def r_ref12_fits_7 : List SOp :=
   [.op ⟨(some 59), (.mv (.tmp 0)), none⟩,
    .op ⟨(some 60), (.mv (.tmp 6)), none⟩,
    .op ⟨(some 61), (.mv (.tmp 5)), none⟩,
    .op ⟨(some 62), (.len true (.tmp 61)), none⟩,
    .op ⟨(some 63), (.bin .add (.tmp 60) (.tmp 62)), none⟩,
    .op ⟨(some 64), (.slS (.tmp 59) (some (.tmp 63)) none), none⟩,
    .op ⟨(some 65), (.mv (.tmp 1)), none⟩,
    .op ⟨(some 66), (.slV 2 (.tmp 65) (some (.av (.int .i64 1))) none none), none⟩,
    .op ⟨(some 67), (.call 37 [(.tmp 64), (.tmp 66)]), none⟩]
def r_ref12_fits_8 : List SOp :=
   [.op ⟨(some 4), (.mv (.av (.bool true))), none⟩]
def r_ref12_fits_9 : List SOp :=
   [.op ⟨(some 68), (.mv (.tmp 1)), none⟩,
    .op ⟨(some 69), (.iaddr 2 (.tmp 68) (.av (.int .i64 0))), none⟩,
    .op ⟨(some 70), (.faddr 0 (.tmp 69)), none⟩,
    .op ⟨(some 71), (.load false 1 (.tmp 70)), none⟩,
    .op ⟨(some 72), (.bin .eql (.tmp 71) (.av (.int .i64 1))), none⟩]
def r_ref12_fits_10 : List SOp :=
   [.op ⟨(some 4), (.mv (.av (.bool false))), none⟩]
def r_ref12_fits_11 : List SOp :=
   [.op ⟨(some 21), (.mv (.tmp 6)), none⟩,
    .op ⟨(some 22), (.bin .add (.tmp 21) (.av (.int .i64 1))), none⟩,
    .op ⟨(some 6), (.mv (.tmp 22)), none⟩]
def r_ref12_fits_12 : List SOp :=
   [.op ⟨(some 4), (.mv (.av (.bool false))), none⟩]
def c_ref12_fits : LFun := ⟨73, (.seq (.sreg r_ref12_fits_0 [])
  (.seq (.seq (.sreg r_ref12_fits_1 [true, false, false])
  (.cond (.tmp 9) (.seq (.sreg r_ref12_fits_2 [])
  .ret)
  .skip))
  (.seq (.sreg r_ref12_fits_3 [true, false, false, false, false])
  (.seq (.seq (.sreg r_ref12_fits_4 [])
  (.block 0 (.loop (.seq (.seq (.sreg r_ref12_fits_5 [true, false, false, false, false, false, false])
  (.cond (.tmp 20) .skip
  (.exit 0)))
  (.seq (.block 1 (.seq (.seq (.sreg r_ref12_fits_6 [true, false, false, false, false, false, false, false, false, false, false, false, false])
  (.cond (.tmp 58) (.exit 1)
  .skip))
  (.seq (.seq (.sdreg r_ref12_fits_7 [.pure, .pure, .pure, (.read 0 0), .pure, (.read 0 0), .pure, (.read 0 0)] [true, false, false, false, false, false, false, false, false])
  (.cond (.tmp 67) (.seq (.sreg r_ref12_fits_8 [])
  .ret)
  .skip))
  (.seq (.sreg r_ref12_fits_9 [true, false, false, false, false])
  (.cond (.tmp 72) (.seq (.sreg r_ref12_fits_10 [])
  .ret)
  .skip)))))
  (.sreg r_ref12_fits_11 [true, false, false]))))))
  (.seq (.sreg r_ref12_fits_12 [])
  .ret))))), [(.tmp 4)]⟩
attribute [push_cast] r_ref12_fits_0 r_ref12_fits_1 r_ref12_fits_2 r_ref12_fits_3 r_ref12_fits_4 r_ref12_fits_5 r_ref12_fits_6 r_ref12_fits_7 r_ref12_fits_8 r_ref12_fits_9 r_ref12_fits_10 r_ref12_fits_11 r_ref12_fits_12
theorem c_ref12_fits_eq : lowF Tryz.prog (fun _ _ => 1) 37 = some c_ref12_fits.raw := by kernel_rfl

/-! castellan/castellanref12.Like -/
def r_ref12_Like_0 : List SOp :=
   [.op ⟨(some 6), (.mv (.av (.bool false))), none⟩,
    .op ⟨(some 7), (.mv (.av (.bool false))), none⟩]
def r_ref12_Like_1 : List SOp :=
   [.op ⟨(some 14), (.mv (.tmp 0)), none⟩,
    .op ⟨(some 15), (.mv (.tmp 1)), none⟩,
    .op ⟨(some 16), (.call 10 [(.tmp 14), (.tmp 15)]), none⟩,
    .op ⟨(some 13), (.mv (.tmp 16)), none⟩,
    .op ⟨(some 17), (.extract (.tmp 13) 0), none⟩,
    .op ⟨(some 18), (.extract (.tmp 13) 1), none⟩,
    .op ⟨(some 8), (.mv (.tmp 17)), none⟩,
    .op ⟨(some 9), (.mv (.tmp 18)), none⟩]
def r_ref12_Like_2 : List SOp :=
   [.op ⟨(some 19), (.mv (.tmp 9)), none⟩,
    .op ⟨(some 20), (.un .not (.tmp 19)), none⟩,
    .op ⟨(some 21), (.mv (.tmp 20)), none⟩,
    .grp none 21 false
      [.op ⟨(some 22), (.mv (.tmp 0)), (some (21, false))⟩,
      .op ⟨(some 23), (.bin .lss (.tmp 22) (.av (.int .i64 1))), (some (21, false))⟩]
      24 (.tmp 23),
    .op ⟨(some 25), (.mv (.tmp 24)), none⟩,
    .grp none 25 false
      [.op ⟨(some 26), (.mv (.tmp 0)), (some (25, false))⟩,
      .op ⟨(some 27), (.bin .gtr (.tmp 26) (.av (.int .i64 3))), (some (25, false))⟩]
      28 (.tmp 27),
    .op ⟨(some 29), (.mv (.tmp 28)), none⟩,
    .grp none 29 false
      [.op ⟨(some 30), (.mv (.tmp 2)), (some (29, false))⟩,
      .op ⟨(some 31), (.build [(.int .i64 0), (.str []), (.str []), (.sl [] 0 (some 0)), (.sl [] 0 (some 0))] [(0, (1, (.av (.int .i64 4)))), (1, (1, (.av (.str [97])))), (3, (1, (.tmp 30)))]), (some (29, false))⟩,
      .op ⟨(some 32), (.call 35 [(.tmp 31)]), (some (29, false))⟩,
      .op ⟨(some 33), (.bin .neq (.tmp 32) (.av (.int .i64 0))), (some (29, false))⟩]
      34 (.tmp 33)]
def r_ref12_Like_3 : List SOp :=
   [.op ⟨(some 6), (.mv (.av (.bool false))), none⟩,
    .op ⟨(some 7), (.mv (.av (.bool false))), none⟩]
def r_ref12_Like_4 : List SOp :=
   [.op ⟨(some 10), (.mv (.av (.sl [] 0 (some 0)))), none⟩]
def r_ref12_Like_5 : List SOp :=
   [.op ⟨(some 35), (.mv (.tmp 2)), none⟩,
    .op ⟨(some 36), (.len false (.tmp 35)), none⟩,
    .op ⟨(some 37), (.mv (.av (.int .i64 0))), none⟩]
def r_ref12_Like_6 : List SOp :=
   [.op ⟨(some 38), (.bin .lss (.tmp 37) (.tmp 36)), none⟩]
def r_ref12_Like_7 : List SOp :=
   [.op ⟨(some 39), (.iaddr 2 (.tmp 35) (.tmp 37)), none⟩,
    .op ⟨(some 40), (.load true 2 (.tmp 39)), none⟩,
    .op ⟨(some 12), (.alloc [(.int .i64 0), (.str [])]), none⟩,
    .op ⟨none, (.store 2 (.tmp 12) (.tmp 40)), none⟩]
def r_ref12_Like_8 : List SOp :=
   [.op ⟨(some 41), (.mv (.tmp 0)), none⟩,
    .op ⟨(some 42), (.bin .neq (.tmp 41) (.av (.int .i64 2))), none⟩]
def r_ref12_Like_9 : List SOp :=
   [.op ⟨(some 43), (.faddr 1 (.tmp 12)), none⟩,
    .op ⟨(some 44), (.load false 1 (.tmp 43)), none⟩,
    .op ⟨(some 45), (.call 36 [(.tmp 44)]), none⟩,
    .op ⟨(some 46), (.faddr 1 (.tmp 12)), none⟩,
    .op ⟨none, (.store 1 (.tmp 46) (.tmp 45)), none⟩]
def r_ref12_Like_10 : List SOp :=
   [.op ⟨(some 47), (.mv (.tmp 10)), none⟩,
    .op ⟨(some 48), (.load true 2 (.tmp 12)), none⟩,
    .op ⟨(some 49), (.bslice false 2 1 [(.int .i64 0), (.str [])] [(0, (2, (.tmp 48)))]), none⟩,
    .op ⟨(some 50), (.app 1 2 24 [(.int .i64 0), (.str [])] (.tmp 47) (.tmp 49)), none⟩,
    .op ⟨(some 10), (.mv (.tmp 50)), none⟩]
def r_ref12_Like_11 : List SOp :=
   [.op ⟨(some 51), (.bin .add (.tmp 37) (.av (.int .i64 1))), none⟩,
    .op ⟨(some 37), (.mv (.tmp 51)), none⟩]
def r_ref12_Like_12 : List SOp :=
   [.op ⟨(some 52), (.mv (.tmp 8)), none⟩,
    .op ⟨(some 53), (.mv (.tmp 10)), none⟩,
    .op ⟨(some 54), (.call 37 [(.tmp 52), (.tmp 53)]), none⟩,
    .op ⟨(some 6), (.mv (.tmp 54)), none⟩,
    .op ⟨(some 7), (.mv (.av (.bool true))), none⟩]
def c_ref12_Like : LFun := ⟨55, (.seq (.sreg r_ref12_Like_0 [])
  (.seq (.sreg r_ref12_Like_1 [true, true, false, false, false, false, false, false])
  (.seq (.seq (.sreg r_ref12_Like_2 [true, false, false, false, false, false, false, false])
  (.cond (.tmp 34) (.seq (.sreg r_ref12_Like_3 [])
  .ret)
  .skip))
  (.seq (.sreg r_ref12_Like_4 [])
  (.seq (.seq (.sreg r_ref12_Like_5 [])
  (.block 0 (.loop (.seq (.sreg r_ref12_Like_6 [])
  (.seq (.cond (.tmp 38) .skip
  (.exit 0))
  (.seq (.block 1 (.seq (.sreg r_ref12_Like_7 [true, false, false])
  (.seq (.seq (.sreg r_ref12_Like_8 [true, false])
  (.cond (.tmp 42) (.sreg r_ref12_Like_9 [false, false, false, false])
  .skip))
  (.sreg r_ref12_Like_10 [true, false, false, false, false]))))
  (.sreg r_ref12_Like_11 [true, false])))))))
  (.seq (.sreg r_ref12_Like_12 [true, true, false, false, false])
  .ret)))))), [(.tmp 6), (.tmp 7)]⟩
attribute [push_cast] r_ref12_Like_0 r_ref12_Like_1 r_ref12_Like_2 r_ref12_Like_3 r_ref12_Like_4 r_ref12_Like_5 r_ref12_Like_6 r_ref12_Like_7 r_ref12_Like_8 r_ref12_Like_9 r_ref12_Like_10 r_ref12_Like_11 r_ref12_Like_12
theorem c_ref12_Like_eq : lowF Tryz.prog (fun _ _ => 1) 14 = some c_ref12_Like.raw := by kernel_rfl

/-! castellan/castellanlaw12.SyntaxLikes -/
def r_law12_SyntaxLikes_0 : List SOp :=
   [.op ⟨(some 6), (.mv (.av (.bool false))), none⟩]
def r_law12_SyntaxLikes_1 : List SOp :=
   [.op ⟨(some 11), (.mv (.tmp 1)), none⟩,
    .op ⟨(some 12), (.len true (.tmp 11)), none⟩,
    .op ⟨(some 13), (.bin .gtr (.tmp 12) (.av (.int .i64 300))), none⟩,
    .op ⟨(some 14), (.mv (.tmp 13)), none⟩,
    .grp none 14 false
      [.op ⟨(some 15), (.mv (.tmp 2)), (some (14, false))⟩,
      .op ⟨(some 16), (.len false (.tmp 15)), (some (14, false))⟩,
      .op ⟨(some 17), (.bin .gtr (.tmp 16) (.av (.int .i64 30))), (some (14, false))⟩]
      18 (.tmp 17)]
def r_law12_SyntaxLikes_2 : List SOp :=
   [.op ⟨(some 19), (.call 8 []), none⟩,
    .op ⟨(some 6), (.mv (.tmp 19)), none⟩]
def r_law12_SyntaxLikes_3 : List SOp :=
   [.op ⟨(some 21), (.mv (.tmp 0)), none⟩,
    .op ⟨(some 22), (.mv (.tmp 1)), none⟩,
    .op ⟨(some 23), (.mv (.tmp 2)), none⟩,
    .op ⟨(some 24), (.call 13 [(.tmp 21), (.tmp 22), (.tmp 23)]), none⟩,
    .op ⟨(some 20), (.mv (.tmp 24)), none⟩,
    .op ⟨(some 25), (.extract (.tmp 20) 0), none⟩,
    .op ⟨(some 26), (.extract (.tmp 20) 1), none⟩,
    .op ⟨(some 7), (.mv (.tmp 25)), none⟩,
    .op ⟨(some 8), (.mv (.tmp 26)), none⟩]
def r_law12_SyntaxLikes_4 : List SOp :=
   [.op ⟨(some 28), (.mv (.tmp 0)), none⟩,
    .op ⟨(some 29), (.mv (.tmp 1)), none⟩,
    .op ⟨(some 30), (.mv (.tmp 2)), none⟩,
    .op ⟨(some 31), (.call 14 [(.tmp 28), (.tmp 29), (.tmp 30)]), none⟩,
    .op ⟨(some 27), (.mv (.tmp 31)), none⟩,
    .op ⟨(some 32), (.extract (.tmp 27) 0), none⟩,
    .op ⟨(some 33), (.extract (.tmp 27) 1), none⟩,
    .op ⟨(some 9), (.mv (.tmp 32)), none⟩,
    .op ⟨(some 10), (.mv (.tmp 33)), none⟩]
def r_law12_SyntaxLikes_5 : List SOp :=
   [.op ⟨(some 34), (.call 8 []), none⟩,
    .op ⟨(some 35), (.mv (.tmp 34)), none⟩,
    .grp none 35 true
      [.op ⟨(some 36), (.mv (.tmp 7)), (some (35, true))⟩,
      .op ⟨(some 37), (.mv (.tmp 9)), (some (35, true))⟩,
      .op ⟨(some 38), (.eqk false .bool (.tmp 36) (.tmp 37)), (some (35, true))⟩]
      39 (.tmp 38),
    .op ⟨(some 40), (.mv (.tmp 39)), none⟩,
    .grp none 40 true
      [.op ⟨(some 41), (.mv (.tmp 8)), (some (40, true))⟩,
      .op ⟨(some 42), (.mv (.tmp 10)), (some (40, true))⟩,
      .op ⟨(some 43), (.eqk false .bool (.tmp 41) (.tmp 42)), (some (40, true))⟩]
      44 (.tmp 43),
    .op ⟨(some 6), (.mv (.tmp 44)), none⟩]
def c_law12_SyntaxLikes : LFun := ⟨45, (.seq (.sreg r_law12_SyntaxLikes_0 [])
  (.seq (.seq (.sreg r_law12_SyntaxLikes_1 [true, false, false, false, false])
  (.cond (.tmp 18) (.seq (.sreg r_law12_SyntaxLikes_2 [true, false])
  .ret)
  .skip))
  (.seq (.sreg r_law12_SyntaxLikes_3 [true, true, false, false, false, false, false, false, false])
  (.seq (.sreg r_law12_SyntaxLikes_4 [true, true, false, false, false, false, false, false, false])
  (.seq (.sreg r_law12_SyntaxLikes_5 [true, false, false, false, false, false])
  .ret))))), [(.tmp 6)]⟩
attribute [push_cast] r_law12_SyntaxLikes_0 r_law12_SyntaxLikes_1 r_law12_SyntaxLikes_2 r_law12_SyntaxLikes_3 r_law12_SyntaxLikes_4 r_law12_SyntaxLikes_5
theorem c_law12_SyntaxLikes_eq : lowF Tryz.prog (fun _ _ => 1) 5 = some c_law12_SyntaxLikes.raw := by kernel_rfl

end Go.Proofs.YtffnflplocbpiaaGreatDoor.Av
