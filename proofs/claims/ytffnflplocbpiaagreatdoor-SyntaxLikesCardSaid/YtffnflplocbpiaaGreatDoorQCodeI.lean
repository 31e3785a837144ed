/- Bodies of functions, lowered: printed by a program (wip/tools/lower.py); each is held against the program by the kernel. -/
import Derived.Test.YtffnflplocbpiaaGreatDoorQP4
import Derived.Test.YtffnflplocbpiaaGreatDoorRows
import Derived.KernelRfl
set_option maxRecDepth 100000
set_option linter.unusedSimpArgs false
set_option linter.unusedVariables false
namespace Go.Proofs.YtffnflplocbpiaaGreatDoor.Av
open Go

/-! cmp.isNaN[int64] -/
def r_cmp_isNaN_int64_0 : List SOp :=
   [.op ⟨(some 2), (.mv (.av (.bool false))), none⟩]
def r_cmp_isNaN_int64_1 : List SOp :=
   [.op ⟨(some 3), (.mv (.tmp 0)), none⟩,
    .op ⟨(some 4), (.mv (.tmp 0)), none⟩,
    .op ⟨(some 5), (.bin .neq (.tmp 3) (.tmp 4)), none⟩,
    .op ⟨(some 2), (.mv (.tmp 5)), none⟩]
def c_cmp_isNaN_int64 : LFun := ⟨6, (.seq (.sreg r_cmp_isNaN_int64_0 [])
  (.seq (.sreg r_cmp_isNaN_int64_1 [true, false, false, false])
  .ret)), [(.tmp 2)]⟩
attribute [push_cast] r_cmp_isNaN_int64_0 r_cmp_isNaN_int64_1
theorem c_cmp_isNaN_int64_eq : lowF Tryz.prog (fun _ _ => 1) 49 = some c_cmp_isNaN_int64.raw := by kernel_rfl

/-! cmp.Compare[int64] -/
def r_cmp_Compare_int64_0 : List SOp :=
   [.op ⟨(some 4), (.mv (.av (.int .i64 0))), none⟩]
def r_cmp_Compare_int64_1 : List SOp :=
   [.op ⟨(some 7), (.mv (.tmp 0)), none⟩,
    .op ⟨(some 8), (.call 49 [(.tmp 7)]), none⟩,
    .op ⟨(some 5), (.mv (.tmp 8)), none⟩]
def r_cmp_Compare_int64_2 : List SOp :=
   [.op ⟨(some 9), (.mv (.tmp 1)), none⟩,
    .op ⟨(some 10), (.call 49 [(.tmp 9)]), none⟩,
    .op ⟨(some 6), (.mv (.tmp 10)), none⟩]
def r_cmp_Compare_int64_3 : List SOp :=
   [.op ⟨(some 11), (.mv (.tmp 5)), none⟩]
def r_cmp_Compare_int64_4 : List SOp :=
   [.op ⟨(some 12), (.mv (.tmp 6)), none⟩]
def r_cmp_Compare_int64_5 : List SOp :=
   [.op ⟨(some 4), (.mv (.av (.int .i64 0))), none⟩]
def r_cmp_Compare_int64_6 : List SOp :=
   [.op ⟨(some 4), (.mv (.av (.int .i64 (-1)))), none⟩]
def r_cmp_Compare_int64_7 : List SOp :=
   [.op ⟨(some 13), (.mv (.tmp 6)), none⟩]
def r_cmp_Compare_int64_8 : List SOp :=
   [.op ⟨(some 4), (.mv (.av (.int .i64 1))), none⟩]
def r_cmp_Compare_int64_9 : List SOp :=
   [.op ⟨(some 14), (.mv (.tmp 0)), none⟩,
    .op ⟨(some 15), (.mv (.tmp 1)), none⟩,
    .op ⟨(some 16), (.bin .lss (.tmp 14) (.tmp 15)), none⟩]
def r_cmp_Compare_int64_10 : List SOp :=
   [.op ⟨(some 4), (.mv (.av (.int .i64 (-1)))), none⟩]
def r_cmp_Compare_int64_11 : List SOp :=
   [.op ⟨(some 17), (.mv (.tmp 0)), none⟩,
    .op ⟨(some 18), (.mv (.tmp 1)), none⟩,
    .op ⟨(some 19), (.bin .gtr (.tmp 17) (.tmp 18)), none⟩]
def r_cmp_Compare_int64_12 : List SOp :=
   [.op ⟨(some 4), (.mv (.av (.int .i64 1))), none⟩]
def r_cmp_Compare_int64_13 : List SOp :=
   [.op ⟨(some 4), (.mv (.av (.int .i64 0))), none⟩]
def c_cmp_Compare_int64 : LFun := ⟨20, (.seq (.sreg r_cmp_Compare_int64_0 [])
  (.seq (.sreg r_cmp_Compare_int64_1 [true, false, false])
  (.seq (.sreg r_cmp_Compare_int64_2 [true, false, false])
  (.seq (.seq (.sreg r_cmp_Compare_int64_3 [])
  (.cond (.tmp 11) (.seq (.seq (.sreg r_cmp_Compare_int64_4 [])
  (.cond (.tmp 12) (.seq (.sreg r_cmp_Compare_int64_5 [])
  .ret)
  .skip))
  (.seq (.sreg r_cmp_Compare_int64_6 [])
  .ret))
  .skip))
  (.seq (.seq (.sreg r_cmp_Compare_int64_7 [])
  (.cond (.tmp 13) (.seq (.sreg r_cmp_Compare_int64_8 [])
  .ret)
  .skip))
  (.seq (.seq (.sreg r_cmp_Compare_int64_9 [true, false, false])
  (.cond (.tmp 16) (.seq (.sreg r_cmp_Compare_int64_10 [])
  .ret)
  .skip))
  (.seq (.seq (.sreg r_cmp_Compare_int64_11 [true, false, false])
  (.cond (.tmp 19) (.seq (.sreg r_cmp_Compare_int64_12 [])
  .ret)
  .skip))
  (.seq (.sreg r_cmp_Compare_int64_13 [])
  .ret)))))))), [(.tmp 4)]⟩
attribute [push_cast] r_cmp_Compare_int64_0 r_cmp_Compare_int64_1 r_cmp_Compare_int64_2 r_cmp_Compare_int64_3 r_cmp_Compare_int64_4 r_cmp_Compare_int64_5 r_cmp_Compare_int64_6 r_cmp_Compare_int64_7 r_cmp_Compare_int64_8 r_cmp_Compare_int64_9 r_cmp_Compare_int64_10 r_cmp_Compare_int64_11 r_cmp_Compare_int64_12 r_cmp_Compare_int64_13
theorem c_cmp_Compare_int64_eq : lowF Tryz.prog (fun _ _ => 1) 27 = some c_cmp_Compare_int64.raw := by kernel_rfl

/-! castellan/filt.Check -/
def r_filt_Check_0 : List SOp :=
   [.op ⟨(some 1), (.box (.tmp 0)), none⟩,
    .op ⟨(some 2), (.mv (.av (.int .i64 0))), none⟩]
def r_filt_Check_1 : List SOp :=
   [.op ⟨(some 3), (.alloc [(.int .i64 0)]), none⟩,
    .op ⟨(some 4), (.load true 5 (.tmp 1)), none⟩,
    .op ⟨(some 5), (.call 51 [(.tmp 3), (.tmp 4), (.av (.int .i64 1))]), none⟩,
    .op ⟨(some 2), (.mv (.tmp 5)), none⟩]
def c_filt_Check : LFun := ⟨6, (.seq (.sreg r_filt_Check_0 [])
  (.seq (.sreg r_filt_Check_1 [true, false, false, false])
  .ret)), [(.tmp 2)]⟩
attribute [push_cast] r_filt_Check_0 r_filt_Check_1
theorem c_filt_Check_eq : lowF Tryz.prog (fun _ _ => 1) 30 = some c_filt_Check.raw := by kernel_rfl

/-! (*castellan/filt.checker).check -/
def r_filt_checker_check_0 : List SOp :=
   [.op ⟨(some 4), (.box (.tmp 1)), none⟩,
    .op ⟨(some 6), (.mv (.av (.int .i64 0))), none⟩]
def r_filt_checker_check_1 : List SOp :=
   [.op ⟨(some 10), (.mv (.tmp 2)), none⟩,
    .op ⟨(some 11), (.bin .gtr (.tmp 10) (.av (.int .i64 64))), none⟩]
def r_filt_checker_check_2 : List SOp :=
   [.op ⟨(some 6), (.mv (.av (.int .i64 6))), none⟩]
def r_filt_checker_check_3 : List SOp :=
   [.op ⟨(some 12), (.mv (.tmp 0)), none⟩,
    .op ⟨(some 13), (.nilchk (.tmp 12)), none⟩,
    .op ⟨(some 14), (.faddr 0 (.tmp 13)), none⟩,
    .op ⟨(some 15), (.load false 1 (.tmp 14)), none⟩,
    .op ⟨(some 16), (.bin .add (.tmp 15) (.av (.int .i64 1))), none⟩,
    .op ⟨(some 17), (.nilchk (.tmp 12)), none⟩,
    .op ⟨(some 18), (.faddr 0 (.tmp 17)), none⟩,
    .op ⟨none, (.store 1 (.tmp 18) (.tmp 16)), none⟩]
def r_filt_checker_check_4 : List SOp :=
   [.op ⟨(some 19), (.mv (.tmp 0)), none⟩,
    .op ⟨(some 20), (.nilchk (.tmp 19)), none⟩,
    .op ⟨(some 21), (.faddr 0 (.tmp 20)), none⟩,
    .op ⟨(some 22), (.load false 1 (.tmp 21)), none⟩,
    .op ⟨(some 23), (.bin .gtr (.tmp 22) (.av (.int .i64 1000))), none⟩]
def r_filt_checker_check_5 : List SOp :=
   [.op ⟨(some 6), (.mv (.av (.int .i64 9))), none⟩]
def r_filt_checker_check_6 : List SOp :=
   [.op ⟨(some 25), (.faddr 0 (.tmp 4)), none⟩,
    .op ⟨(some 26), (.load false 1 (.tmp 25)), none⟩,
    .op ⟨(some 27), (.bin .lss (.tmp 26) (.av (.int .i64 0))), none⟩,
    .op ⟨(some 28), (.mv (.tmp 27)), none⟩,
    .grp none 28 false
      [.op ⟨(some 29), (.faddr 0 (.tmp 4)), (some (28, false))⟩,
      .op ⟨(some 30), (.load false 1 (.tmp 29)), (some (28, false))⟩,
      .op ⟨(some 31), (.bin .gtr (.tmp 30) (.av (.int .i64 8))), (some (28, false))⟩]
      32 (.tmp 31),
    .op ⟨(some 24), (.mv (.tmp 32)), none⟩]
def r_filt_checker_check_7 : List SOp :=
   [.op ⟨(some 6), (.mv (.av (.int .i64 24))), none⟩]
def r_filt_checker_check_8 : List SOp :=
   [.op ⟨(some 34), (.faddr 0 (.tmp 4)), none⟩,
    .op ⟨(some 35), (.load false 1 (.tmp 34)), none⟩,
    .op ⟨(some 36), (.bin .eql (.tmp 35) (.av (.int .i64 2))), none⟩,
    .op ⟨(some 37), (.mv (.tmp 36)), none⟩,
    .grp none 37 true
      [.op ⟨(some 38), (.faddr 4 (.tmp 4)), (some (37, true))⟩,
      .op ⟨(some 39), (.load false 1 (.tmp 38)), (some (37, true))⟩,
      .op ⟨(some 40), (.len false (.tmp 39)), (some (37, true))⟩,
      .op ⟨(some 41), (.bin .neq (.tmp 40) (.av (.int .i64 1))), (some (37, true))⟩]
      42 (.tmp 41),
    .op ⟨(some 33), (.mv (.tmp 42)), none⟩]
def r_filt_checker_check_9 : List SOp :=
   [.op ⟨(some 6), (.mv (.av (.int .i64 2))), none⟩]
def r_filt_checker_check_10 : List SOp :=
   [.op ⟨(some 44), (.faddr 0 (.tmp 4)), none⟩,
    .op ⟨(some 45), (.load false 1 (.tmp 44)), none⟩,
    .op ⟨(some 46), (.bin .leq (.tmp 45) (.av (.int .i64 2))), none⟩,
    .op ⟨(some 43), (.mv (.tmp 46)), none⟩]
def r_filt_checker_check_11 : List SOp :=
   [.op ⟨(some 47), (.faddr 4 (.tmp 4)), none⟩,
    .op ⟨(some 48), (.load false 1 (.tmp 47)), none⟩,
    .op ⟨(some 49), (.len false (.tmp 48)), none⟩,
    .op ⟨(some 50), (.mv (.av (.int .i64 0))), none⟩]
def r_filt_checker_check_12 : List SOp :=
   [.op ⟨(some 51), (.bin .lss (.tmp 50) (.tmp 49)), none⟩]
def r_filt_checker_check_13 : List SOp :=
   [.op ⟨(some 52), (.iaddr 5 (.tmp 48) (.tmp 50)), none⟩,
    .op ⟨(some 53), (.load true 5 (.tmp 52)), none⟩,
    .op ⟨(some 8), (.alloc [(.int .i64 0), (.str []), (.str []), (.sl [] 0 (some 0)), (.sl [] 0 (some 0))]), none⟩,
    .op ⟨none, (.store 5 (.tmp 8) (.tmp 53)), none⟩]
def r_filt_checker_check_14 : List SOp :=
   [.op ⟨(some 54), (.mv (.tmp 0)), none⟩,
    .op ⟨(some 55), (.load true 5 (.tmp 8)), none⟩,
    .op ⟨(some 56), (.mv (.tmp 2)), none⟩,
    .op ⟨(some 57), (.bin .add (.tmp 56) (.av (.int .i64 1))), none⟩,
    .op ⟨(some 58), (.call 51 [(.tmp 54), (.tmp 55), (.tmp 57)]), none⟩,
    .op ⟨(some 9), (.mv (.tmp 58)), none⟩]
def r_filt_checker_check_15 : List SOp :=
   [.op ⟨(some 59), (.mv (.tmp 9)), none⟩,
    .op ⟨(some 60), (.bin .neq (.tmp 59) (.av (.int .i64 0))), none⟩]
def r_filt_checker_check_16 : List SOp :=
   [.op ⟨(some 61), (.mv (.tmp 9)), none⟩,
    .op ⟨(some 6), (.mv (.tmp 61)), none⟩]
def r_filt_checker_check_17 : List SOp :=
   [.op ⟨(some 62), (.bin .add (.tmp 50) (.av (.int .i64 1))), none⟩,
    .op ⟨(some 50), (.mv (.tmp 62)), none⟩]
def r_filt_checker_check_18 : List SOp :=
   [.op ⟨(some 64), (.faddr 1 (.tmp 4)), none⟩,
    .op ⟨(some 65), (.load false 1 (.tmp 64)), none⟩,
    .op ⟨(some 66), (.call 60 [(.tmp 65)]), none⟩,
    .op ⟨(some 67), (.un .not (.tmp 66)), none⟩,
    .op ⟨(some 63), (.mv (.tmp 67)), none⟩]
def r_filt_checker_check_19 : List SOp :=
   [.op ⟨(some 6), (.mv (.av (.int .i64 20))), none⟩]
def r_filt_checker_check_20 : List SOp :=
   [.op ⟨(some 69), (.faddr 0 (.tmp 4)), none⟩,
    .op ⟨(some 70), (.load false 1 (.tmp 69)), none⟩,
    .op ⟨(some 71), (.bin .eql (.tmp 70) (.av (.int .i64 4))), none⟩,
    .op ⟨(some 72), (.mv (.tmp 71)), none⟩,
    .grp none 72 true
      [.op ⟨(some 73), (.faddr 3 (.tmp 4)), (some (72, true))⟩,
      .op ⟨(some 74), (.load false 1 (.tmp 73)), (some (72, true))⟩,
      .op ⟨(some 75), (.call 72 [(.tmp 74)]), (some (72, true))⟩,
      .op ⟨(some 76), (.un .not (.tmp 75)), (some (72, true))⟩]
      77 (.tmp 76),
    .op ⟨(some 68), (.mv (.tmp 77)), none⟩]
def r_filt_checker_check_21 : List SOp :=
   [.op ⟨(some 6), (.mv (.av (.int .i64 4))), none⟩]
def r_filt_checker_check_22 : List SOp :=
   [.op ⟨(some 6), (.mv (.av (.int .i64 0))), none⟩]
def c_filt_checker_check : LFun := ⟨78, (.seq (.sreg r_filt_checker_check_0 [])
  (.seq (.seq (.sreg r_filt_checker_check_1 [true, false])
  (.cond (.tmp 11) (.seq (.sreg r_filt_checker_check_2 [])
  .ret)
  .skip))
  (.seq (.seq (.sreg r_filt_checker_check_3 [false, false, false, false, false, false, false])
  (.seq (.sreg r_filt_checker_check_4 [true, false, false, false, false])
  (.cond (.tmp 23) (.seq (.sreg r_filt_checker_check_5 [])
  .ret)
  .skip)))
  (.seq (.block 0 (.seq (.sreg r_filt_checker_check_6 [true, false, false, false, false, false])
  (.cond (.tmp 24) (.seq (.sreg r_filt_checker_check_7 [])
  .ret)
  (.seq (.sreg r_filt_checker_check_8 [true, false, false, false, false, false])
  (.cond (.tmp 33) (.seq (.sreg r_filt_checker_check_9 [])
  .ret)
  (.seq (.sreg r_filt_checker_check_10 [true, false, false, false])
  (.cond (.tmp 43) (.seq (.sreg r_filt_checker_check_11 [true, true, true, false])
  (.block 1 (.loop (.seq (.sreg r_filt_checker_check_12 [])
  (.seq (.cond (.tmp 51) .skip
  (.exit 1))
  (.seq (.block 2 (.seq (.sreg r_filt_checker_check_13 [true, false, false])
  (.seq (.sreg r_filt_checker_check_14 [true, false, false, false, false, false])
  (.seq (.sreg r_filt_checker_check_15 [true, false])
  (.cond (.tmp 60) (.seq (.sreg r_filt_checker_check_16 [true, false])
  .ret)
  .skip)))))
  (.sreg r_filt_checker_check_17 [true, false])))))))
  (.seq (.sreg r_filt_checker_check_18 [true, false, false, false, false])
  (.cond (.tmp 63) (.seq (.sreg r_filt_checker_check_19 [])
  .ret)
  (.seq (.sreg r_filt_checker_check_20 [true, false, false, false, false, false])
  (.cond (.tmp 68) (.seq (.sreg r_filt_checker_check_21 [])
  .ret)
  .skip)))))))))))
  (.seq (.sreg r_filt_checker_check_22 [])
  .ret))))), [(.tmp 6)]⟩
attribute [push_cast] r_filt_checker_check_0 r_filt_checker_check_1 r_filt_checker_check_2 r_filt_checker_check_3 r_filt_checker_check_4 r_filt_checker_check_5 r_filt_checker_check_6 r_filt_checker_check_7 r_filt_checker_check_8 r_filt_checker_check_9 r_filt_checker_check_10 r_filt_checker_check_11 r_filt_checker_check_12 r_filt_checker_check_13 r_filt_checker_check_14 r_filt_checker_check_15 r_filt_checker_check_16 r_filt_checker_check_17 r_filt_checker_check_18 r_filt_checker_check_19 r_filt_checker_check_20 r_filt_checker_check_21 r_filt_checker_check_22
theorem c_filt_checker_check_eq : lowF Tryz.prog (fun _ _ => 1) 51 = some c_filt_checker_check.raw := by kernel_rfl

/-! castellan/filt.pieces -/
def r_filt_pieces_0 : List SOp :=
   [.op ⟨(some 2), (.mv (.av (.bool false))), none⟩]
def r_filt_pieces_1 : List SOp :=
   [.op ⟨(some 5), (.mv (.tmp 0)), none⟩,
    .op ⟨(some 6), (.len false (.tmp 5)), none⟩,
    .op ⟨(some 7), (.mv (.av (.int .i64 0))), none⟩]
def r_filt_pieces_2 : List SOp :=
   [.op ⟨(some 8), (.bin .lss (.tmp 7) (.tmp 6)), none⟩]
def r_filt_pieces_3 : List SOp :=
   [.op ⟨(some 9), (.mv (.tmp 7)), none⟩,
    .op ⟨(some 10), (.iaddr 2 (.tmp 5) (.tmp 7)), none⟩,
    .op ⟨(some 11), (.load true 2 (.tmp 10)), none⟩,
    .op ⟨(some 4), (.alloc [(.int .i64 0), (.str [])]), none⟩,
    .op ⟨(some 3), (.mv (.tmp 9)), none⟩,
    .op ⟨none, (.store 2 (.tmp 4) (.tmp 11)), none⟩]
def r_filt_pieces_4 : List SOp :=
   [.op ⟨(some 13), (.faddr 1 (.tmp 4)), none⟩,
    .op ⟨(some 14), (.load false 1 (.tmp 13)), none⟩,
    .op ⟨(some 15), (.bin .eql (.tmp 14) (.av (.str []))), none⟩,
    .op ⟨(some 16), (.mv (.tmp 15)), none⟩,
    .grp none 16 false
      [.op ⟨(some 17), (.faddr 0 (.tmp 4)), (some (16, false))⟩,
      .op ⟨(some 18), (.load false 1 (.tmp 17)), (some (16, false))⟩,
      .op ⟨(some 19), (.bin .lss (.tmp 18) (.av (.int .i64 0))), (some (16, false))⟩]
      20 (.tmp 19),
    .op ⟨(some 21), (.mv (.tmp 20)), none⟩,
    .grp none 21 false
      [.op ⟨(some 22), (.faddr 0 (.tmp 4)), (some (21, false))⟩,
      .op ⟨(some 23), (.load false 1 (.tmp 22)), (some (21, false))⟩,
      .op ⟨(some 24), (.bin .gtr (.tmp 23) (.av (.int .i64 2))), (some (21, false))⟩]
      25 (.tmp 24),
    .op ⟨(some 12), (.mv (.tmp 25)), none⟩]
def r_filt_pieces_5 : List SOp :=
   [.op ⟨(some 2), (.mv (.av (.bool false))), none⟩]
def r_filt_pieces_6 : List SOp :=
   [.op ⟨(some 27), (.faddr 0 (.tmp 4)), none⟩,
    .op ⟨(some 28), (.load false 1 (.tmp 27)), none⟩,
    .op ⟨(some 29), (.bin .eql (.tmp 28) (.av (.int .i64 0))), none⟩,
    .op ⟨(some 30), (.mv (.tmp 29)), none⟩,
    .grp none 30 true
      [.op ⟨(some 31), (.mv (.tmp 3)), (some (30, true))⟩,
      .op ⟨(some 32), (.bin .gtr (.tmp 31) (.av (.int .i64 0))), (some (30, true))⟩]
      33 (.tmp 32),
    .op ⟨(some 34), (.mv (.tmp 33)), none⟩,
    .grp none 34 false
      [.op ⟨(some 35), (.faddr 0 (.tmp 4)), (some (34, false))⟩,
      .op ⟨(some 36), (.load false 1 (.tmp 35)), (some (34, false))⟩,
      .op ⟨(some 37), (.bin .eql (.tmp 36) (.av (.int .i64 2))), (some (34, false))⟩,
      .op ⟨(some 38), (.mv (.tmp 37)), (some (34, false))⟩,
      .grp (some (34, false)) 38 true
        [.op ⟨(some 39), (.mv (.tmp 3)), (some (38, true))⟩,
        .op ⟨(some 40), (.mv (.tmp 0)), (some (38, true))⟩,
        .op ⟨(some 41), (.len false (.tmp 40)), (some (38, true))⟩,
        .op ⟨(some 42), (.bin .sub (.tmp 41) (.av (.int .i64 1))), (some (38, true))⟩,
        .op ⟨(some 43), (.bin .lss (.tmp 39) (.tmp 42)), (some (38, true))⟩]
        44 (.tmp 43)]
      45 (.tmp 44),
    .op ⟨(some 26), (.mv (.tmp 45)), none⟩]
def r_filt_pieces_7 : List SOp :=
   [.op ⟨(some 2), (.mv (.av (.bool false))), none⟩]
def r_filt_pieces_8 : List SOp :=
   [.op ⟨(some 46), (.bin .add (.tmp 7) (.av (.int .i64 1))), none⟩,
    .op ⟨(some 7), (.mv (.tmp 46)), none⟩]
def r_filt_pieces_9 : List SOp :=
   [.op ⟨(some 47), (.mv (.tmp 0)), none⟩,
    .op ⟨(some 48), (.len false (.tmp 47)), none⟩,
    .op ⟨(some 49), (.bin .gtr (.tmp 48) (.av (.int .i64 0))), none⟩,
    .op ⟨(some 2), (.mv (.tmp 49)), none⟩]
def c_filt_pieces : LFun := ⟨50, (.seq (.sreg r_filt_pieces_0 [])
  (.seq (.seq (.sreg r_filt_pieces_1 [])
  (.block 0 (.loop (.seq (.sreg r_filt_pieces_2 [])
  (.seq (.cond (.tmp 8) .skip
  (.exit 0))
  (.seq (.block 1 (.seq (.sreg r_filt_pieces_3 [true, true, false, false, false])
  (.block 2 (.seq (.sreg r_filt_pieces_4 [true, false, false, false, false, false, false, false])
  (.cond (.tmp 12) (.seq (.sreg r_filt_pieces_5 [])
  .ret)
  (.seq (.sreg r_filt_pieces_6 [true, false, false, false, false, false, false, false])
  (.cond (.tmp 26) (.seq (.sreg r_filt_pieces_7 [])
  .ret)
  .skip)))))))
  (.sreg r_filt_pieces_8 [true, false])))))))
  (.seq (.sreg r_filt_pieces_9 [true, false, false, false])
  .ret))), [(.tmp 2)]⟩
attribute [push_cast] r_filt_pieces_0 r_filt_pieces_1 r_filt_pieces_2 r_filt_pieces_3 r_filt_pieces_4 r_filt_pieces_5 r_filt_pieces_6 r_filt_pieces_7 r_filt_pieces_8 r_filt_pieces_9
theorem c_filt_pieces_eq : lowF Tryz.prog (fun _ _ => 1) 72 = some c_filt_pieces.raw := by kernel_rfl

/-! castellan/syntax.Like -/
def r_syntax_Like_0 : List SOp :=
   [.op ⟨(some 6), (.mv (.av (.bool false))), none⟩,
    .op ⟨(some 7), (.mv (.av (.bool false))), none⟩]
def r_syntax_Like_1 : List SOp :=
   [.op ⟨(some 15), (.mv (.tmp 0)), none⟩,
    .op ⟨(some 16), (.mv (.tmp 1)), none⟩,
    .op ⟨(some 17), (.call 9 [(.tmp 15), (.tmp 16)]), none⟩,
    .op ⟨(some 14), (.mv (.tmp 17)), none⟩,
    .op ⟨(some 18), (.extract (.tmp 14) 0), none⟩,
    .op ⟨(some 19), (.extract (.tmp 14) 1), none⟩,
    .op ⟨(some 8), (.mv (.tmp 18)), none⟩,
    .op ⟨(some 9), (.mv (.tmp 19)), none⟩]
def r_syntax_Like_2 : List SOp :=
   [.op ⟨(some 20), (.mv (.tmp 9)), none⟩,
    .op ⟨(some 21), (.un .not (.tmp 20)), none⟩,
    .op ⟨(some 22), (.mv (.tmp 21)), none⟩,
    .grp none 22 false
      [.op ⟨(some 23), (.mv (.tmp 0)), (some (22, false))⟩,
      .op ⟨(some 24), (.bin .neq (.tmp 23) (.av (.int .i64 1))), (some (22, false))⟩,
      .op ⟨(some 25), (.mv (.tmp 24)), (some (22, false))⟩,
      .grp (some (22, false)) 25 true
        [.op ⟨(some 26), (.mv (.tmp 0)), (some (25, true))⟩,
        .op ⟨(some 27), (.bin .neq (.tmp 26) (.av (.int .i64 2))), (some (25, true))⟩]
        28 (.tmp 27),
      .op ⟨(some 29), (.mv (.tmp 28)), (some (22, false))⟩,
      .grp (some (22, false)) 29 true
        [.op ⟨(some 30), (.mv (.tmp 0)), (some (29, true))⟩,
        .op ⟨(some 31), (.bin .neq (.tmp 30) (.av (.int .i64 3))), (some (29, true))⟩]
        32 (.tmp 31)]
      33 (.tmp 32),
    .op ⟨(some 34), (.mv (.tmp 33)), none⟩,
    .grp none 34 false
      [.op ⟨(some 35), (.mv (.tmp 2)), (some (34, false))⟩,
      .op ⟨(some 36), (.build [(.int .i64 0), (.str []), (.str []), (.sl [] 0 (some 0)), (.sl [] 0 (some 0))] [(0, (1, (.av (.int .i64 4)))), (1, (1, (.av (.str [97])))), (3, (1, (.tmp 35)))]), (some (34, false))⟩,
      .op ⟨(some 37), (.call 30 [(.tmp 36)]), (some (34, false))⟩,
      .op ⟨(some 38), (.bin .neq (.tmp 37) (.av (.int .i64 0))), (some (34, false))⟩]
      39 (.tmp 38)]
def r_syntax_Like_3 : List SOp :=
   [.op ⟨(some 6), (.mv (.av (.bool false))), none⟩,
    .op ⟨(some 7), (.mv (.av (.bool false))), none⟩]
def r_syntax_Like_4 : List SOp :=
   [.op ⟨(some 40), (.mv (.tmp 2)), none⟩,
    .op ⟨(some 41), (.len false (.tmp 40)), none⟩,
    .op ⟨(some 42), (.mv (.av (.int .i64 0))), none⟩]
def r_syntax_Like_5 : List SOp :=
   [.op ⟨(some 43), (.bin .lss (.tmp 42) (.tmp 41)), none⟩]
def r_syntax_Like_6 : List SOp :=
   [.op ⟨(some 44), (.iaddr 2 (.tmp 40) (.tmp 42)), none⟩,
    .op ⟨(some 45), (.load true 2 (.tmp 44)), none⟩,
    .op ⟨(some 11), (.alloc [(.int .i64 0), (.str [])]), none⟩,
    .op ⟨none, (.store 2 (.tmp 11) (.tmp 45)), none⟩]
def r_syntax_Like_7 : List SOp :=
   [.op ⟨(some 46), (.faddr 1 (.tmp 11)), none⟩,
    .op ⟨(some 47), (.load false 1 (.tmp 46)), none⟩,
    .op ⟨(some 12), (.mv (.tmp 47)), none⟩]
def r_syntax_Like_8 : List SOp :=
   [.op ⟨(some 48), (.mv (.tmp 0)), none⟩,
    .op ⟨(some 49), (.bin .neq (.tmp 48) (.av (.int .i64 2))), none⟩]
def r_syntax_Like_9 : List SOp :=
   [.op ⟨(some 50), (.mv (.tmp 12)), none⟩,
    .op ⟨(some 51), (.call 31 [(.tmp 50)]), none⟩,
    .op ⟨(some 12), (.mv (.tmp 51)), none⟩]
def r_syntax_Like_10 : List SOp :=
   [.op ⟨(some 52), (.mv (.tmp 8)), none⟩,
    .op ⟨(some 53), (.mv (.tmp 12)), none⟩,
    .op ⟨(some 54), (.call 32 [(.tmp 52), (.tmp 53)]), none⟩,
    .op ⟨(some 13), (.mv (.tmp 54)), none⟩]
def r_syntax_Like_11 : List SOp :=
   [.op ⟨(some 56), (.faddr 0 (.tmp 11)), none⟩,
    .op ⟨(some 57), (.load false 1 (.tmp 56)), none⟩,
    .op ⟨(some 58), (.bin .eql (.tmp 57) (.av (.int .i64 0))), none⟩,
    .op ⟨(some 59), (.mv (.tmp 58)), none⟩,
    .grp none 59 true
      [.op ⟨(some 60), (.mv (.tmp 8)), (some (59, true))⟩,
      .op ⟨(some 61), (.mv (.tmp 12)), (some (59, true))⟩,
      .op ⟨(some 62), (.call 33 [(.tmp 60), (.tmp 61)]), (some (59, true))⟩,
      .op ⟨(some 63), (.un .not (.tmp 62)), (some (59, true))⟩]
      64 (.tmp 63),
    .op ⟨(some 55), (.mv (.tmp 64)), none⟩]
def r_syntax_Like_12 : List SOp :=
   [.op ⟨(some 65), (.faddr 0 (.tmp 11)), none⟩,
    .op ⟨(some 66), (.load false 1 (.tmp 65)), none⟩,
    .op ⟨(some 67), (.bin .eql (.tmp 66) (.av (.int .i64 2))), none⟩,
    .op ⟨(some 68), (.mv (.tmp 67)), none⟩,
    .grp none 68 true
      [.op ⟨(some 69), (.mv (.tmp 8)), (some (68, true))⟩,
      .op ⟨(some 70), (.mv (.tmp 12)), (some (68, true))⟩,
      .op ⟨(some 71), (.call 34 [(.tmp 69), (.tmp 70)]), (some (68, true))⟩,
      .op ⟨(some 72), (.un .not (.tmp 71)), (some (68, true))⟩]
      73 (.tmp 72),
    .op ⟨(some 55), (.mv (.tmp 73)), none⟩]
def r_syntax_Like_13 : List SOp :=
   [.op ⟨(some 74), (.mv (.tmp 13)), none⟩,
    .op ⟨(some 75), (.bin .lss (.tmp 74) (.av (.int .i64 0))), none⟩,
    .op ⟨(some 55), (.mv (.tmp 75)), none⟩]
def r_syntax_Like_14 : List SOp :=
   [.op ⟨(some 6), (.mv (.av (.bool false))), none⟩,
    .op ⟨(some 7), (.mv (.av (.bool true))), none⟩]
def r_syntax_Like_15 : List SOp :=
   [.op ⟨(some 76), (.mv (.tmp 8)), none⟩,
    .op ⟨(some 77), (.mv (.tmp 13)), none⟩,
    .op ⟨(some 78), (.mv (.tmp 12)), none⟩,
    .op ⟨(some 79), (.len true (.tmp 78)), none⟩,
    .op ⟨(some 80), (.bin .add (.tmp 77) (.tmp 79)), none⟩,
    .op ⟨(some 81), (.slS (.tmp 76) (some (.tmp 80)) none), none⟩,
    .op ⟨(some 8), (.mv (.tmp 81)), none⟩]
def r_syntax_Like_16 : List SOp :=
   [.op ⟨(some 82), (.bin .add (.tmp 42) (.av (.int .i64 1))), none⟩,
    .op ⟨(some 42), (.mv (.tmp 82)), none⟩]
def r_syntax_Like_17 : List SOp :=
   [.op ⟨(some 6), (.mv (.av (.bool true))), none⟩,
    .op ⟨(some 7), (.mv (.av (.bool true))), none⟩]
def c_syntax_Like : LFun := ⟨83, (.seq (.sreg r_syntax_Like_0 [])
  (.seq (.sreg r_syntax_Like_1 [true, true, false, false, false, false, false, false])
  (.seq (.seq (.sreg r_syntax_Like_2 [true, false, false, false, false, false])
  (.cond (.tmp 39) (.seq (.sreg r_syntax_Like_3 [])
  .ret)
  .skip))
  (.seq (.seq (.sreg r_syntax_Like_4 [])
  (.block 0 (.loop (.seq (.sreg r_syntax_Like_5 [])
  (.seq (.cond (.tmp 43) .skip
  (.exit 0))
  (.seq (.block 1 (.seq (.sreg r_syntax_Like_6 [true, false, false])
  (.seq (.sreg r_syntax_Like_7 [true, false, false])
  (.seq (.seq (.sreg r_syntax_Like_8 [true, false])
  (.cond (.tmp 49) (.sreg r_syntax_Like_9 [true, false, false])
  .skip))
  (.seq (.sreg r_syntax_Like_10 [true, false, false, false])
  (.seq (.block 2 (.seq (.seq (.sreg r_syntax_Like_11 [true, false, false, false, false, false])
  (.cond (.tmp 55) .skip
  (.seq (.sreg r_syntax_Like_12 [true, false, false, false, false, false])
  (.cond (.tmp 55) .skip
  (.sreg r_syntax_Like_13 [true, false, false])))))
  (.cond (.tmp 55) (.seq (.sreg r_syntax_Like_14 [])
  .ret)
  .skip)))
  (.sreg r_syntax_Like_15 [true, false, false, false, false, false, false])))))))
  (.sreg r_syntax_Like_16 [true, false])))))))
  (.seq (.sreg r_syntax_Like_17 [])
  .ret))))), [(.tmp 6), (.tmp 7)]⟩
attribute [push_cast] r_syntax_Like_0 r_syntax_Like_1 r_syntax_Like_2 r_syntax_Like_3 r_syntax_Like_4 r_syntax_Like_5 r_syntax_Like_6 r_syntax_Like_7 r_syntax_Like_8 r_syntax_Like_9 r_syntax_Like_10 r_syntax_Like_11 r_syntax_Like_12 r_syntax_Like_13 r_syntax_Like_14 r_syntax_Like_15 r_syntax_Like_16 r_syntax_Like_17
theorem c_syntax_Like_eq : lowF Tryz.prog (fun _ _ => 1) 13 = some c_syntax_Like.raw := by kernel_rfl

/-! castellan/castellanlaw12.awake -/
def r_law12_awake_0 : List SOp :=
   [.op ⟨(some 0), (.mv (.av (.bool false))), none⟩]
def r_law12_awake_1 : List SOp :=
   [.op ⟨(some 10), (.call 9 [(.av (.int .i64 1)), (.av (.str [32, 65, 32, 32, 98]))]), none⟩,
    .op ⟨(some 9), (.mv (.tmp 10)), none⟩,
    .op ⟨(some 11), (.extract (.tmp 9) 0), none⟩,
    .op ⟨(some 12), (.extract (.tmp 9) 1), none⟩,
    .op ⟨(some 1), (.mv (.tmp 11)), none⟩,
    .op ⟨(some 2), (.mv (.tmp 12)), none⟩]
def r_law12_awake_2 : List SOp :=
   [.op ⟨(some 14), (.call 11 [(.av (.int .i64 4)), (.av (.str [49, 48])), (.av (.str [57]))]), none⟩,
    .op ⟨(some 13), (.mv (.tmp 14)), none⟩,
    .op ⟨(some 15), (.extract (.tmp 13) 0), none⟩,
    .op ⟨(some 16), (.extract (.tmp 13) 1), none⟩,
    .op ⟨(some 3), (.mv (.tmp 15)), none⟩,
    .op ⟨(some 4), (.mv (.tmp 16)), none⟩]
def r_law12_awake_3 : List SOp :=
   [.op ⟨(some 18), (.call 11 [(.av (.int .i64 1)), (.av (.str [49, 48])), (.av (.str [57]))]), none⟩,
    .op ⟨(some 17), (.mv (.tmp 18)), none⟩,
    .op ⟨(some 19), (.extract (.tmp 17) 0), none⟩,
    .op ⟨(some 20), (.extract (.tmp 17) 1), none⟩,
    .op ⟨(some 5), (.mv (.tmp 19)), none⟩,
    .op ⟨(some 6), (.mv (.tmp 20)), none⟩]
def r_law12_awake_4 : List SOp :=
   [.op ⟨(some 22), (.build [(.int .i64 0), (.str [])] [(0, (1, (.av (.int .i64 0)))), (1, (1, (.av (.str [65]))))]), none⟩,
    .op ⟨(some 23), (.build [(.int .i64 0), (.str [])] [(0, (1, (.av (.int .i64 2)))), (1, (1, (.av (.str [66]))))]), none⟩,
    .op ⟨(some 24), (.bslice false 2 2 [(.int .i64 0), (.str []), (.int .i64 0), (.str [])] [(0, (2, (.tmp 22))), (2, (2, (.tmp 23)))]), none⟩,
    .op ⟨(some 25), (.call 13 [(.av (.int .i64 1)), (.av (.str [65, 98, 99, 97, 98])), (.tmp 24)]), none⟩,
    .op ⟨(some 21), (.mv (.tmp 25)), none⟩,
    .op ⟨(some 26), (.extract (.tmp 21) 0), none⟩,
    .op ⟨(some 27), (.extract (.tmp 21) 1), none⟩,
    .op ⟨(some 7), (.mv (.tmp 26)), none⟩,
    .op ⟨(some 8), (.mv (.tmp 27)), none⟩]
def r_law12_awake_5 : List SOp :=
   [.op ⟨(some 28), (.mv (.tmp 1)), none⟩,
    .op ⟨(some 29), (.bin .eql (.tmp 28) (.av (.str [97, 32, 98]))), none⟩,
    .op ⟨(some 30), (.mv (.tmp 29)), none⟩,
    .grp none 30 true
      [.op ⟨(some 31), (.mv (.tmp 2)), (some (30, true))⟩]
      32 (.tmp 31),
    .op ⟨(some 33), (.mv (.tmp 32)), none⟩,
    .grp none 33 true
      [.op ⟨(some 34), (.mv (.tmp 3)), (some (33, true))⟩,
      .op ⟨(some 35), (.bin .eql (.tmp 34) (.av (.int .i64 1))), (some (33, true))⟩]
      36 (.tmp 35),
    .op ⟨(some 37), (.mv (.tmp 36)), none⟩,
    .grp none 37 true
      [.op ⟨(some 38), (.mv (.tmp 4)), (some (37, true))⟩]
      39 (.tmp 38),
    .op ⟨(some 40), (.mv (.tmp 39)), none⟩,
    .grp none 40 true
      [.op ⟨(some 41), (.mv (.tmp 5)), (some (40, true))⟩,
      .op ⟨(some 42), (.bin .eql (.tmp 41) (.av (.int .i64 (-1)))), (some (40, true))⟩]
      43 (.tmp 42),
    .op ⟨(some 44), (.mv (.tmp 43)), none⟩,
    .grp none 44 true
      [.op ⟨(some 45), (.mv (.tmp 7)), (some (44, true))⟩]
      46 (.tmp 45),
    .op ⟨(some 47), (.mv (.tmp 46)), none⟩,
    .grp none 47 true
      [.op ⟨(some 48), (.mv (.tmp 8)), (some (47, true))⟩]
      49 (.tmp 48),
    .op ⟨(some 0), (.mv (.tmp 49)), none⟩]
def c_law12_awake : LFun := ⟨50, (.seq (.sreg r_law12_awake_0 [])
  (.seq (.sreg r_law12_awake_1 [true, true, false, false, false, false])
  (.seq (.sreg r_law12_awake_2 [true, true, false, false, false, false])
  (.seq (.sreg r_law12_awake_3 [false, true, false, false, false, false])
  (.seq (.sreg r_law12_awake_4 [true, true, false, false, false, false, false, false, false])
  (.seq (.sreg r_law12_awake_5 [true, false, false, false, false, false, false, false, false, false, false, false, false, false, false])
  .ret)))))), [(.tmp 0)]⟩
attribute [push_cast] r_law12_awake_0 r_law12_awake_1 r_law12_awake_2 r_law12_awake_3 r_law12_awake_4 r_law12_awake_5
theorem c_law12_awake_eq : lowF Tryz.prog (fun _ _ => 1) 8 = some c_law12_awake.raw := by kernel_rfl

end Go.Proofs.YtffnflplocbpiaaGreatDoor.Av
