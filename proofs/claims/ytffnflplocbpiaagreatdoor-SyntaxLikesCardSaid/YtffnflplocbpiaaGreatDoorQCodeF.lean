/- Bodies of functions, lowered: printed by a program (wip/tools/lower.py); each is held against the program by the kernel. -/
import Derived.Test.YtffnflplocbpiaaGreatDoorQP4
import Derived.Test.YtffnflplocbpiaaGreatDoorRows
import Derived.KernelRfl
set_option maxRecDepth 100000
set_option linter.unusedSimpArgs false
set_option linter.unusedVariables false
namespace Go.Proofs.YtffnflplocbpiaaGreatDoor.Av
open Go

/-! castellan/castellanref09.Type -/
def r_ref09_Type_0 : List SOp :=
   [.op ⟨(some 2), (.mv (.av (.bool false))), none⟩]
def r_ref09_Type_1 : List SOp :=
   [.op ⟨(some 6), (.mv (.tmp 0)), none⟩,
    .op ⟨(some 7), (.call 36 [(.tmp 6)]), none⟩,
    .op ⟨(some 3), (.mv (.tmp 7)), none⟩]
def r_ref09_Type_2 : List SOp :=
   [.op ⟨(some 8), (.mv (.tmp 3)), none⟩,
    .op ⟨(some 9), (.len true (.tmp 8)), none⟩,
    .op ⟨(some 10), (.bin .geq (.tmp 9) (.av (.int .i64 1))), none⟩,
    .op ⟨(some 11), (.mv (.tmp 10)), none⟩,
    .grp none 11 true
      [.op ⟨(some 12), (.mv (.tmp 3)), (some (11, true))⟩,
      .op ⟨(some 13), (.len true (.tmp 12)), (some (11, true))⟩,
      .op ⟨(some 14), (.bin .leq (.tmp 13) (.av (.int .i64 32))), (some (11, true))⟩]
      15 (.tmp 14),
    .op ⟨(some 4), (.mv (.tmp 15)), none⟩]
def r_ref09_Type_3 : List SOp :=
   [.op ⟨(some 5), (.mv (.av (.int .i64 0))), none⟩]
def r_ref09_Type_4 : List SOp :=
   [.op ⟨(some 16), (.mv (.tmp 5)), none⟩,
    .op ⟨(some 17), (.mv (.tmp 3)), none⟩,
    .op ⟨(some 18), (.len true (.tmp 17)), none⟩,
    .op ⟨(some 19), (.bin .lss (.tmp 16) (.tmp 18)), none⟩,
    .op ⟨(some 20), (.mv (.tmp 19)), none⟩,
    .grp none 20 true
      [.op ⟨(some 21), (.mv (.tmp 4)), (some (20, true))⟩]
      22 (.tmp 21)]
def r_ref09_Type_5 : List SOp :=
   [.op ⟨(some 25), (.mv (.tmp 3)), none⟩,
    .op ⟨(some 26), (.mv (.tmp 5)), none⟩,
    .op ⟨(some 27), (.idxS (.tmp 25) (.tmp 26)), none⟩,
    .op ⟨(some 28), (.call 96 [(.tmp 27), (.av (.str [97, 98, 99, 100, 101, 102, 103, 104, 105, 106, 107, 108, 109, 110, 111, 112, 113, 114, 115, 116, 117, 118, 119, 120, 121, 122]))]), none⟩,
    .op ⟨(some 29), (.mv (.tmp 28)), none⟩,
    .grp none 29 false
      [.op ⟨(some 30), (.mv (.tmp 5)), (some (29, false))⟩,
      .op ⟨(some 31), (.bin .gtr (.tmp 30) (.av (.int .i64 0))), (some (29, false))⟩,
      .op ⟨(some 32), (.mv (.tmp 31)), (some (29, false))⟩,
      .grp (some (29, false)) 32 true
        [.op ⟨(some 33), (.mv (.tmp 3)), (some (32, true))⟩,
        .op ⟨(some 34), (.mv (.tmp 5)), (some (32, true))⟩,
        .op ⟨(some 35), (.idxS (.tmp 33) (.tmp 34)), (some (32, true))⟩,
        .op ⟨(some 36), (.call 96 [(.tmp 35), (.av (.str [48, 49, 50, 51, 52, 53, 54, 55, 56, 57, 45]))]), (some (32, true))⟩]
        37 (.tmp 36)]
      38 (.tmp 37),
    .op ⟨(some 4), (.mv (.tmp 38)), none⟩]
def r_ref09_Type_6 : List SOp :=
   [.op ⟨(some 23), (.mv (.tmp 5)), none⟩,
    .op ⟨(some 24), (.bin .add (.tmp 23) (.av (.int .i64 1))), none⟩,
    .op ⟨(some 5), (.mv (.tmp 24)), none⟩]
def r_ref09_Type_7 : List SOp :=
   [.op ⟨(some 39), (.mv (.tmp 4)), none⟩,
    .op ⟨(some 2), (.mv (.tmp 39)), none⟩]
def c_ref09_Type : LFun := ⟨40, (.seq (.sreg r_ref09_Type_0 [])
  (.seq (.sreg r_ref09_Type_1 [true, false, false])
  (.seq (.sreg r_ref09_Type_2 [true, false, false, false, false, false])
  (.seq (.seq (.sreg r_ref09_Type_3 [])
  (.block 0 (.loop (.seq (.seq (.sreg r_ref09_Type_4 [true, false, false, false, false, false])
  (.cond (.tmp 22) .skip
  (.exit 0)))
  (.seq (.block 1 (.sreg r_ref09_Type_5 [true, false, false, false, false, false, false]))
  (.sreg r_ref09_Type_6 [true, false, false]))))))
  (.seq (.sreg r_ref09_Type_7 [true, false])
  .ret))))), [(.tmp 2)]⟩
attribute [push_cast] r_ref09_Type_0 r_ref09_Type_1 r_ref09_Type_2 r_ref09_Type_3 r_ref09_Type_4 r_ref09_Type_5 r_ref09_Type_6 r_ref09_Type_7
theorem c_ref09_Type_eq : lowF Tryz.prog (fun _ _ => 1) 65 = some c_ref09_Type.raw := by kernel_rfl

/-! castellan/castellanref09.in -/
def r_ref09_in_0 : List SOp :=
   [.op ⟨(some 4), (.mv (.av (.bool false))), none⟩]
def r_ref09_in_1 : List SOp :=
   [.op ⟨(some 5), (.mv (.av (.int .i64 0))), none⟩]
def r_ref09_in_2 : List SOp :=
   [.op ⟨(some 6), (.mv (.tmp 5)), none⟩,
    .op ⟨(some 7), (.mv (.tmp 1)), none⟩,
    .op ⟨(some 8), (.len true (.tmp 7)), none⟩,
    .op ⟨(some 9), (.bin .lss (.tmp 6) (.tmp 8)), none⟩]
def r_ref09_in_3 : List SOp :=
   [.op ⟨(some 12), (.mv (.tmp 1)), none⟩,
    .op ⟨(some 13), (.mv (.tmp 5)), none⟩,
    .op ⟨(some 14), (.idxS (.tmp 12) (.tmp 13)), none⟩,
    .op ⟨(some 15), (.mv (.tmp 0)), none⟩,
    .op ⟨(some 16), (.bin .eql (.tmp 14) (.tmp 15)), none⟩]
def r_ref09_in_4 : List SOp :=
   [.op ⟨(some 4), (.mv (.av (.bool true))), none⟩]
def r_ref09_in_5 : List SOp :=
   [.op ⟨(some 10), (.mv (.tmp 5)), none⟩,
    .op ⟨(some 11), (.bin .add (.tmp 10) (.av (.int .i64 1))), none⟩,
    .op ⟨(some 5), (.mv (.tmp 11)), none⟩]
def r_ref09_in_6 : List SOp :=
   [.op ⟨(some 4), (.mv (.av (.bool false))), none⟩]
def c_ref09_in : LFun := ⟨17, (.seq (.sreg r_ref09_in_0 [])
  (.seq (.seq (.sreg r_ref09_in_1 [])
  (.block 0 (.loop (.seq (.seq (.sreg r_ref09_in_2 [true, false, false, false])
  (.cond (.tmp 9) .skip
  (.exit 0)))
  (.seq (.block 1 (.seq (.sreg r_ref09_in_3 [true, false, false, false, false])
  (.cond (.tmp 16) (.seq (.sreg r_ref09_in_4 [])
  .ret)
  .skip)))
  (.sreg r_ref09_in_5 [true, false, false]))))))
  (.seq (.sreg r_ref09_in_6 [])
  .ret))), [(.tmp 4)]⟩
attribute [push_cast] r_ref09_in_0 r_ref09_in_1 r_ref09_in_2 r_ref09_in_3 r_ref09_in_4 r_ref09_in_5 r_ref09_in_6
theorem c_ref09_in_eq : lowF Tryz.prog (fun _ _ => 1) 96 = some c_ref09_in.raw := by kernel_rfl

/-! castellan/castellanref09.has -/
def r_ref09_has_0 : List SOp :=
   [.op ⟨(some 4), (.mv (.av (.bool false))), none⟩]
def r_ref09_has_1 : List SOp :=
   [.op ⟨(some 7), (.mv (.tmp 0)), none⟩,
    .op ⟨(some 8), (.len false (.tmp 7)), none⟩,
    .op ⟨(some 9), (.mv (.av (.int .i64 0))), none⟩]
def r_ref09_has_2 : List SOp :=
   [.op ⟨(some 10), (.bin .lss (.tmp 9) (.tmp 8)), none⟩]
def r_ref09_has_3 : List SOp :=
   [.op ⟨(some 11), (.iaddr 2 (.tmp 7) (.tmp 9)), none⟩,
    .op ⟨(some 12), (.load true 2 (.tmp 11)), none⟩,
    .op ⟨(some 6), (.alloc [(.str []), (.str [])]), none⟩,
    .op ⟨none, (.store 2 (.tmp 6) (.tmp 12)), none⟩]
def r_ref09_has_4 : List SOp :=
   [.op ⟨(some 13), (.faddr 0 (.tmp 6)), none⟩,
    .op ⟨(some 14), (.load false 1 (.tmp 13)), none⟩,
    .op ⟨(some 15), (.call 36 [(.tmp 14)]), none⟩,
    .op ⟨(some 16), (.mv (.tmp 1)), none⟩,
    .op ⟨(some 17), (.call 36 [(.tmp 16)]), none⟩,
    .op ⟨(some 18), (.bin .eql (.tmp 15) (.tmp 17)), none⟩]
def r_ref09_has_5 : List SOp :=
   [.op ⟨(some 4), (.mv (.av (.bool true))), none⟩]
def r_ref09_has_6 : List SOp :=
   [.op ⟨(some 19), (.bin .add (.tmp 9) (.av (.int .i64 1))), none⟩,
    .op ⟨(some 9), (.mv (.tmp 19)), none⟩]
def r_ref09_has_7 : List SOp :=
   [.op ⟨(some 4), (.mv (.av (.bool false))), none⟩]
def c_ref09_has : LFun := ⟨20, (.seq (.sreg r_ref09_has_0 [])
  (.seq (.seq (.sreg r_ref09_has_1 [])
  (.block 0 (.loop (.seq (.sreg r_ref09_has_2 [])
  (.seq (.cond (.tmp 10) .skip
  (.exit 0))
  (.seq (.block 1 (.seq (.sreg r_ref09_has_3 [true, false, false])
  (.seq (.sreg r_ref09_has_4 [true, false, false, false, false, false])
  (.cond (.tmp 18) (.seq (.sreg r_ref09_has_5 [])
  .ret)
  .skip))))
  (.sreg r_ref09_has_6 [true, false])))))))
  (.seq (.sreg r_ref09_has_7 [])
  .ret))), [(.tmp 4)]⟩
attribute [push_cast] r_ref09_has_0 r_ref09_has_1 r_ref09_has_2 r_ref09_has_3 r_ref09_has_4 r_ref09_has_5 r_ref09_has_6 r_ref09_has_7
theorem c_ref09_has_eq : lowF Tryz.prog (fun _ _ => 1) 66 = some c_ref09_has.raw := by kernel_rfl

/-! castellan/castellanref09.Parse -/
def r_ref09_Parse_0 : List SOp :=
   [.op ⟨(some 2), (.mv (.av (.sl [] 0 (some 0)))), none⟩,
    .op ⟨(some 3), (.mv (.av (.int .i64 0))), none⟩]
def r_ref09_Parse_1 : List SOp :=
   [.op ⟨(some 12), (.mv (.tmp 0)), none⟩,
    .op ⟨(some 13), (.len true (.tmp 12)), none⟩,
    .op ⟨(some 14), (.bin .gtr (.tmp 13) (.av (.int .i64 4096))), none⟩]
def r_ref09_Parse_2 : List SOp :=
   [.op ⟨(some 2), (.mv (.av (.sl [] 0 (some 0)))), none⟩,
    .op ⟨(some 3), (.mv (.av (.int .i64 5))), none⟩]
def r_ref09_Parse_3 : List SOp :=
   [.op ⟨(some 4), (.mv (.av (.sl [] 0 (some 0)))), none⟩]
def r_ref09_Parse_4 : List SOp :=
   [.op ⟨(some 5), (.mv (.av (.int .i64 0))), none⟩]
def r_ref09_Parse_5 : List SOp :=
   [.op ⟨(some 15), (.mv (.tmp 0)), none⟩,
    .op ⟨(some 16), (.len true (.tmp 15)), none⟩,
    .op ⟨(some 17), (.bin .gtr (.tmp 16) (.av (.int .i64 0))), none⟩]
def r_ref09_Parse_6 : List SOp :=
   [.op ⟨(some 6), (.mv (.av (.sl [] 0 (some 0)))), none⟩]
def r_ref09_Parse_7 : List SOp :=
   [.op ⟨(some 18), (.mv (.tmp 4)), none⟩,
    .op ⟨(some 19), (.len false (.tmp 18)), none⟩,
    .op ⟨(some 20), (.bin .eql (.tmp 19) (.av (.int .i64 32))), none⟩]
def r_ref09_Parse_8 : List SOp :=
   [.op ⟨(some 2), (.mv (.av (.sl [] 0 (some 0)))), none⟩,
    .op ⟨(some 3), (.mv (.av (.int .i64 9))), none⟩]
def r_ref09_Parse_9 : List SOp :=
   [.op ⟨(some 21), (.mv (.tmp 6)), none⟩,
    .op ⟨(some 22), (.len false (.tmp 21)), none⟩,
    .op ⟨(some 23), (.bin .eql (.tmp 22) (.av (.int .i64 8))), none⟩]
def r_ref09_Parse_10 : List SOp :=
   [.op ⟨(some 2), (.mv (.av (.sl [] 0 (some 0)))), none⟩,
    .op ⟨(some 3), (.mv (.av (.int .i64 9))), none⟩]
def r_ref09_Parse_11 : List SOp :=
   [.op ⟨(some 24), (.mv (.tmp 5)), none⟩,
    .op ⟨(some 7), (.mv (.tmp 24)), none⟩]
def r_ref09_Parse_12 : List SOp :=
   [.op ⟨(some 25), (.mv (.tmp 7)), none⟩,
    .op ⟨(some 26), (.mv (.tmp 0)), none⟩,
    .op ⟨(some 27), (.len true (.tmp 26)), none⟩,
    .op ⟨(some 28), (.bin .lss (.tmp 25) (.tmp 27)), none⟩,
    .op ⟨(some 29), (.mv (.tmp 28)), none⟩,
    .grp none 29 true
      [.op ⟨(some 30), (.mv (.tmp 0)), (some (29, true))⟩,
      .op ⟨(some 31), (.mv (.tmp 7)), (some (29, true))⟩,
      .op ⟨(some 32), (.idxS (.tmp 30) (.tmp 31)), (some (29, true))⟩,
      .op ⟨(some 33), (.bin .neq (.tmp 32) (.av (.int .u8 61))), (some (29, true))⟩]
      34 (.tmp 33)]
def r_ref09_Parse_13 : List SOp :=
   [.op ⟨(some 35), (.mv (.tmp 7)), none⟩,
    .op ⟨(some 36), (.bin .add (.tmp 35) (.av (.int .i64 1))), none⟩,
    .op ⟨(some 7), (.mv (.tmp 36)), none⟩]
def r_ref09_Parse_14 : List SOp :=
   [.op ⟨(some 37), (.mv (.tmp 7)), none⟩,
    .op ⟨(some 38), (.mv (.tmp 0)), none⟩,
    .op ⟨(some 39), (.len true (.tmp 38)), none⟩,
    .op ⟨(some 40), (.bin .eql (.tmp 37) (.tmp 39)), none⟩,
    .op ⟨(some 41), (.mv (.tmp 40)), none⟩,
    .grp none 41 false
      [.op ⟨(some 42), (.mv (.tmp 0)), (some (41, false))⟩,
      .op ⟨(some 43), (.mv (.tmp 5)), (some (41, false))⟩,
      .op ⟨(some 44), (.mv (.tmp 7)), (some (41, false))⟩,
      .op ⟨(some 45), (.slS (.tmp 42) (some (.tmp 43)) (some (.tmp 44))), (some (41, false))⟩,
      .op ⟨(some 46), (.call 65 [(.tmp 45)]), (some (41, false))⟩,
      .op ⟨(some 47), (.un .not (.tmp 46)), (some (41, false))⟩]
      48 (.tmp 47)]
def r_ref09_Parse_15 : List SOp :=
   [.op ⟨(some 2), (.mv (.av (.sl [] 0 (some 0)))), none⟩,
    .op ⟨(some 3), (.mv (.av (.int .i64 4))), none⟩]
def r_ref09_Parse_16 : List SOp :=
   [.op ⟨(some 49), (.mv (.tmp 0)), none⟩,
    .op ⟨(some 50), (.mv (.tmp 5)), none⟩,
    .op ⟨(some 51), (.mv (.tmp 7)), none⟩,
    .op ⟨(some 52), (.slS (.tmp 49) (some (.tmp 50)) (some (.tmp 51))), none⟩,
    .op ⟨(some 53), (.build [(.str []), (.str [])] [(0, (1, (.tmp 52)))]), none⟩,
    .op ⟨(some 8), (.alloc [(.str []), (.str [])]), none⟩,
    .op ⟨none, (.store 2 (.tmp 8) (.tmp 53)), none⟩]
def r_ref09_Parse_17 : List SOp :=
   [.op ⟨(some 54), (.mv (.tmp 6)), none⟩,
    .op ⟨(some 55), (.faddr 0 (.tmp 8)), none⟩,
    .op ⟨(some 56), (.load false 1 (.tmp 55)), none⟩,
    .op ⟨(some 57), (.call 66 [(.tmp 54), (.tmp 56)]), none⟩]
def r_ref09_Parse_18 : List SOp :=
   [.op ⟨(some 2), (.mv (.av (.sl [] 0 (some 0)))), none⟩,
    .op ⟨(some 3), (.mv (.av (.int .i64 21))), none⟩]
def r_ref09_Parse_19 : List SOp :=
   [.op ⟨(some 59), (.mv (.tmp 0)), none⟩,
    .op ⟨(some 60), (.mv (.tmp 7)), none⟩,
    .op ⟨(some 61), (.bin .add (.tmp 60) (.av (.int .i64 1))), none⟩,
    .op ⟨(some 62), (.call 67 [(.tmp 59), (.tmp 61)]), none⟩,
    .op ⟨(some 58), (.mv (.tmp 62)), none⟩,
    .op ⟨(some 63), (.extract (.tmp 58) 0), none⟩,
    .op ⟨(some 64), (.extract (.tmp 58) 1), none⟩,
    .op ⟨(some 65), (.extract (.tmp 58) 2), none⟩,
    .op ⟨(some 9), (.mv (.tmp 63)), none⟩,
    .op ⟨(some 10), (.mv (.tmp 64)), none⟩,
    .op ⟨(some 11), (.mv (.tmp 65)), none⟩]
def r_ref09_Parse_20 : List SOp :=
   [.op ⟨(some 66), (.mv (.tmp 11)), none⟩,
    .op ⟨(some 67), (.un .not (.tmp 66)), none⟩]
def r_ref09_Parse_21 : List SOp :=
   [.op ⟨(some 2), (.mv (.av (.sl [] 0 (some 0)))), none⟩,
    .op ⟨(some 3), (.mv (.av (.int .i64 4))), none⟩]
def r_ref09_Parse_22 : List SOp :=
   [.op ⟨(some 68), (.mv (.tmp 9)), none⟩,
    .op ⟨(some 69), (.faddr 1 (.tmp 8)), none⟩,
    .op ⟨none, (.store 1 (.tmp 69) (.tmp 68)), none⟩]
def r_ref09_Parse_23 : List SOp :=
   [.op ⟨(some 70), (.mv (.tmp 6)), none⟩,
    .op ⟨(some 71), (.load true 2 (.tmp 8)), none⟩,
    .op ⟨(some 72), (.bslice false 2 1 [(.str []), (.str [])] [(0, (2, (.tmp 71)))]), none⟩,
    .op ⟨(some 73), (.app 1 2 32 [(.str []), (.str [])] (.tmp 70) (.tmp 72)), none⟩,
    .op ⟨(some 6), (.mv (.tmp 73)), none⟩]
def r_ref09_Parse_24 : List SOp :=
   [.op ⟨(some 74), (.mv (.tmp 10)), none⟩,
    .op ⟨(some 5), (.mv (.tmp 74)), none⟩]
def r_ref09_Parse_25 : List SOp :=
   [.op ⟨(some 75), (.mv (.tmp 5)), none⟩,
    .op ⟨(some 76), (.mv (.tmp 0)), none⟩,
    .op ⟨(some 77), (.len true (.tmp 76)), none⟩,
    .op ⟨(some 78), (.bin .eql (.tmp 75) (.tmp 77)), none⟩,
    .op ⟨(some 79), (.mv (.tmp 78)), none⟩,
    .grp none 79 false
      [.op ⟨(some 80), (.mv (.tmp 0)), (some (79, false))⟩,
      .op ⟨(some 81), (.mv (.tmp 5)), (some (79, false))⟩,
      .op ⟨(some 82), (.idxS (.tmp 80) (.tmp 81)), (some (79, false))⟩,
      .op ⟨(some 83), (.bin .eql (.tmp 82) (.av (.int .u8 44))), (some (79, false))⟩]
      84 (.tmp 83)]
def r_ref09_Parse_26 : List SOp :=
   [.op ⟨(some 85), (.mv (.tmp 5)), none⟩,
    .op ⟨(some 86), (.bin .add (.tmp 85) (.av (.int .i64 1))), none⟩,
    .op ⟨(some 5), (.mv (.tmp 86)), none⟩]
def r_ref09_Parse_27 : List SOp :=
   [.op ⟨(some 87), (.mv (.tmp 4)), none⟩,
    .op ⟨(some 88), (.mv (.tmp 6)), none⟩,
    .op ⟨(some 89), (.bslice false 1 1 [(.sl [] 0 (some 0))] [(0, (1, (.tmp 88)))]), none⟩,
    .op ⟨(some 90), (.app 1 1 24 [(.sl [] 0 (some 0))] (.tmp 87) (.tmp 89)), none⟩,
    .op ⟨(some 4), (.mv (.tmp 90)), none⟩]
def r_ref09_Parse_28 : List SOp :=
   [.op ⟨(some 91), (.mv (.tmp 5)), none⟩,
    .op ⟨(some 92), (.mv (.tmp 0)), none⟩,
    .op ⟨(some 93), (.len true (.tmp 92)), none⟩,
    .op ⟨(some 94), (.bin .eql (.tmp 91) (.tmp 93)), none⟩]
def r_ref09_Parse_29 : List SOp :=
   [.op ⟨(some 95), (.mv (.tmp 4)), none⟩,
    .op ⟨(some 2), (.mv (.tmp 95)), none⟩,
    .op ⟨(some 3), (.mv (.av (.int .i64 0))), none⟩]
def r_ref09_Parse_30 : List SOp :=
   [.op ⟨(some 96), (.mv (.tmp 5)), none⟩,
    .op ⟨(some 97), (.bin .add (.tmp 96) (.av (.int .i64 1))), none⟩,
    .op ⟨(some 5), (.mv (.tmp 97)), none⟩]
def r_ref09_Parse_31 : List SOp :=
   [.op ⟨(some 2), (.mv (.av (.sl [] 0 (some 0)))), none⟩,
    .op ⟨(some 3), (.mv (.av (.int .i64 0))), none⟩]
def c_ref09_Parse : LFun := ⟨98, (.seq (.sreg r_ref09_Parse_0 [])
  (.seq (.seq (.sreg r_ref09_Parse_1 [true, false, false])
  (.cond (.tmp 14) (.seq (.sreg r_ref09_Parse_2 [])
  .ret)
  .skip))
  (.seq (.sreg r_ref09_Parse_3 [])
  (.seq (.sreg r_ref09_Parse_4 [])
  (.seq (.block 0 (.loop (.seq (.seq (.sreg r_ref09_Parse_5 [true, false, false])
  (.cond (.tmp 17) .skip
  (.exit 0)))
  (.block 1 (.seq (.sreg r_ref09_Parse_6 [])
  (.seq (.seq (.sreg r_ref09_Parse_7 [true, false, false])
  (.cond (.tmp 20) (.seq (.sreg r_ref09_Parse_8 [])
  .ret)
  .skip))
  (.seq (.block 2 (.loop (.block 3 (.seq (.seq (.sreg r_ref09_Parse_9 [true, false, false])
  (.cond (.tmp 23) (.seq (.sreg r_ref09_Parse_10 [])
  .ret)
  .skip))
  (.seq (.sreg r_ref09_Parse_11 [true, false])
  (.seq (.block 4 (.loop (.seq (.seq (.sreg r_ref09_Parse_12 [true, false, false, false, false, false])
  (.cond (.tmp 34) .skip
  (.exit 4)))
  (.block 5 (.sreg r_ref09_Parse_13 [true, false, false])))))
  (.seq (.seq (.sreg r_ref09_Parse_14 [true, false, false, false, false, false])
  (.cond (.tmp 48) (.seq (.sreg r_ref09_Parse_15 [])
  .ret)
  .skip))
  (.seq (.sreg r_ref09_Parse_16 [true, false, false, false, false, false])
  (.seq (.seq (.sreg r_ref09_Parse_17 [true, false, false, false])
  (.cond (.tmp 57) (.seq (.sreg r_ref09_Parse_18 [])
  .ret)
  .skip))
  (.seq (.sreg r_ref09_Parse_19 [true, true, true, false, false, false, false, false, false, false, false])
  (.seq (.seq (.sreg r_ref09_Parse_20 [true, false])
  (.cond (.tmp 67) (.seq (.sreg r_ref09_Parse_21 [])
  .ret)
  .skip))
  (.seq (.sreg r_ref09_Parse_22 [false, false])
  (.seq (.sreg r_ref09_Parse_23 [true, false, false, false, false])
  (.seq (.sreg r_ref09_Parse_24 [true, false])
  (.seq (.seq (.sreg r_ref09_Parse_25 [true, false, false, false, false, false])
  (.cond (.tmp 84) (.exit 2)
  .skip))
  (.sreg r_ref09_Parse_26 [true, false, false]))))))))))))))))
  (.seq (.sreg r_ref09_Parse_27 [true, false, false, false, false])
  (.seq (.seq (.sreg r_ref09_Parse_28 [true, false, false, false])
  (.cond (.tmp 94) (.seq (.sreg r_ref09_Parse_29 [true, true, false])
  .ret)
  .skip))
  (.sreg r_ref09_Parse_30 [true, false, false]))))))))))
  (.seq (.sreg r_ref09_Parse_31 [])
  .ret)))))), [(.tmp 2), (.tmp 3)]⟩
attribute [push_cast] r_ref09_Parse_0 r_ref09_Parse_1 r_ref09_Parse_2 r_ref09_Parse_3 r_ref09_Parse_4 r_ref09_Parse_5 r_ref09_Parse_6 r_ref09_Parse_7 r_ref09_Parse_8 r_ref09_Parse_9 r_ref09_Parse_10 r_ref09_Parse_11 r_ref09_Parse_12 r_ref09_Parse_13 r_ref09_Parse_14 r_ref09_Parse_15 r_ref09_Parse_16 r_ref09_Parse_17 r_ref09_Parse_18 r_ref09_Parse_19 r_ref09_Parse_20 r_ref09_Parse_21 r_ref09_Parse_22 r_ref09_Parse_23 r_ref09_Parse_24 r_ref09_Parse_25 r_ref09_Parse_26 r_ref09_Parse_27 r_ref09_Parse_28 r_ref09_Parse_29 r_ref09_Parse_30 r_ref09_Parse_31
theorem c_ref09_Parse_eq : lowF Tryz.prog (fun _ _ => 1) 46 = some c_ref09_Parse.raw := by kernel_rfl

/-! castellan/castellanref09.value -/
def r_ref09_value_0 : List SOp :=
   [.op ⟨(some 4), (.mv (.av (.str []))), none⟩,
    .op ⟨(some 5), (.mv (.av (.int .i64 0))), none⟩,
    .op ⟨(some 6), (.mv (.av (.bool false))), none⟩]
def r_ref09_value_1 : List SOp :=
   [.op ⟨(some 7), (.mv (.av (.sl [] 0 (some 0)))), none⟩]
def r_ref09_value_2 : List SOp :=
   [.op ⟨(some 8), (.mv (.av (.bool true))), none⟩]
def r_ref09_value_3 : List SOp :=
   [.op ⟨(some 13), (.mv (.tmp 1)), none⟩,
    .op ⟨(some 14), (.mv (.tmp 0)), none⟩,
    .op ⟨(some 15), (.len true (.tmp 14)), none⟩,
    .op ⟨(some 16), (.bin .lss (.tmp 13) (.tmp 15)), none⟩,
    .op ⟨(some 17), (.mv (.tmp 16)), none⟩,
    .grp none 17 true
      [.op ⟨(some 18), (.mv (.tmp 0)), (some (17, true))⟩,
      .op ⟨(some 19), (.mv (.tmp 1)), (some (17, true))⟩,
      .op ⟨(some 20), (.idxS (.tmp 18) (.tmp 19)), (some (17, true))⟩,
      .op ⟨(some 21), (.bin .neq (.tmp 20) (.av (.int .u8 44))), (some (17, true))⟩]
      22 (.tmp 21),
    .op ⟨(some 23), (.mv (.tmp 22)), none⟩,
    .grp none 23 true
      [.op ⟨(some 24), (.mv (.tmp 0)), (some (23, true))⟩,
      .op ⟨(some 25), (.mv (.tmp 1)), (some (23, true))⟩,
      .op ⟨(some 26), (.idxS (.tmp 24) (.tmp 25)), (some (23, true))⟩,
      .op ⟨(some 27), (.bin .neq (.tmp 26) (.av (.int .u8 43))), (some (23, true))⟩]
      28 (.tmp 27)]
def r_ref09_value_4 : List SOp :=
   [.op ⟨(some 29), (.mv (.tmp 0)), none⟩,
    .op ⟨(some 30), (.mv (.tmp 1)), none⟩,
    .op ⟨(some 31), (.idxS (.tmp 29) (.tmp 30)), none⟩,
    .op ⟨(some 9), (.mv (.tmp 31)), none⟩]
def r_ref09_value_5 : List SOp :=
   [.op ⟨(some 32), (.mv (.tmp 1)), none⟩,
    .op ⟨(some 33), (.bin .add (.tmp 32) (.av (.int .i64 1))), none⟩,
    .op ⟨(some 1), (.mv (.tmp 33)), none⟩]
def r_ref09_value_6 : List SOp :=
   [.op ⟨(some 34), (.mv (.tmp 1)), none⟩,
    .op ⟨(some 35), (.mv (.tmp 0)), none⟩,
    .op ⟨(some 36), (.len true (.tmp 35)), none⟩,
    .op ⟨(some 37), (.bin .eql (.tmp 34) (.tmp 36)), none⟩,
    .op ⟨(some 38), (.mv (.tmp 37)), none⟩,
    .grp none 38 false
      [.op ⟨(some 39), (.mv (.tmp 0)), (some (38, false))⟩,
      .op ⟨(some 40), (.mv (.tmp 1)), (some (38, false))⟩,
      .op ⟨(some 41), (.idxS (.tmp 39) (.tmp 40)), (some (38, false))⟩,
      .op ⟨(some 42), (.bin .eql (.tmp 41) (.av (.int .u8 44))), (some (38, false))⟩]
      43 (.tmp 42),
    .op ⟨(some 44), (.mv (.tmp 43)), none⟩,
    .grp none 44 false
      [.op ⟨(some 45), (.mv (.tmp 0)), (some (44, false))⟩,
      .op ⟨(some 46), (.mv (.tmp 1)), (some (44, false))⟩,
      .op ⟨(some 47), (.idxS (.tmp 45) (.tmp 46)), (some (44, false))⟩,
      .op ⟨(some 48), (.bin .eql (.tmp 47) (.av (.int .u8 43))), (some (44, false))⟩]
      49 (.tmp 48),
    .op ⟨(some 10), (.mv (.tmp 49)), none⟩]
def r_ref09_value_7 : List SOp :=
   [.op ⟨(some 50), (.mv (.tmp 9)), none⟩,
    .op ⟨(some 51), (.bin .eql (.tmp 50) (.av (.int .u8 92))), none⟩]
def r_ref09_value_8 : List SOp :=
   [.op ⟨(some 52), (.mv (.tmp 1)), none⟩,
    .op ⟨(some 53), (.mv (.tmp 0)), none⟩,
    .op ⟨(some 54), (.len true (.tmp 53)), none⟩,
    .op ⟨(some 55), (.bin .lss (.tmp 52) (.tmp 54)), none⟩,
    .op ⟨(some 56), (.mv (.tmp 55)), none⟩,
    .grp none 56 true
      [.op ⟨(some 57), (.mv (.tmp 0)), (some (56, true))⟩,
      .op ⟨(some 58), (.mv (.tmp 1)), (some (56, true))⟩,
      .op ⟨(some 59), (.idxS (.tmp 57) (.tmp 58)), (some (56, true))⟩,
      .op ⟨(some 60), (.call 96 [(.tmp 59), (.av (.str [34, 43, 44, 59, 60, 62, 92, 32, 35, 61]))]), (some (56, true))⟩]
      61 (.tmp 60)]
def r_ref09_value_9 : List SOp :=
   [.op ⟨(some 62), (.mv (.tmp 7)), none⟩,
    .op ⟨(some 63), (.mv (.tmp 0)), none⟩,
    .op ⟨(some 64), (.mv (.tmp 1)), none⟩,
    .op ⟨(some 65), (.idxS (.tmp 63) (.tmp 64)), none⟩,
    .op ⟨(some 66), (.bslice false 1 1 [(.int .u8 0)] [(0, (1, (.tmp 65)))]), none⟩,
    .op ⟨(some 67), (.app 1 1 1 [(.int .u8 0)] (.tmp 62) (.tmp 66)), none⟩,
    .op ⟨(some 7), (.mv (.tmp 67)), none⟩]
def r_ref09_value_10 : List SOp :=
   [.op ⟨(some 68), (.mv (.tmp 1)), none⟩,
    .op ⟨(some 69), (.bin .add (.tmp 68) (.av (.int .i64 1))), none⟩,
    .op ⟨(some 1), (.mv (.tmp 69)), none⟩]
def r_ref09_value_11 : List SOp :=
   [.op ⟨(some 70), (.mv (.tmp 1)), none⟩,
    .op ⟨(some 71), (.bin .add (.tmp 70) (.av (.int .i64 2))), none⟩,
    .op ⟨(some 72), (.mv (.tmp 0)), none⟩,
    .op ⟨(some 73), (.len true (.tmp 72)), none⟩,
    .op ⟨(some 74), (.bin .gtr (.tmp 71) (.tmp 73)), none⟩]
def r_ref09_value_12 : List SOp :=
   [.op ⟨(some 4), (.mv (.av (.str []))), none⟩,
    .op ⟨(some 5), (.mv (.av (.int .i64 0))), none⟩,
    .op ⟨(some 6), (.mv (.av (.bool false))), none⟩]
def r_ref09_value_13 : List SOp :=
   [.op ⟨(some 76), (.mv (.tmp 0)), none⟩,
    .op ⟨(some 77), (.mv (.tmp 1)), none⟩,
    .op ⟨(some 78), (.mv (.tmp 1)), none⟩,
    .op ⟨(some 79), (.bin .add (.tmp 78) (.av (.int .i64 2))), none⟩,
    .op ⟨(some 80), (.slS (.tmp 76) (some (.tmp 77)) (some (.tmp 79))), none⟩,
    .op ⟨(some 81), (.call 97 [(.tmp 80)]), none⟩,
    .op ⟨(some 75), (.mv (.tmp 81)), none⟩,
    .op ⟨(some 82), (.extract (.tmp 75) 0), none⟩,
    .op ⟨(some 83), (.extract (.tmp 75) 1), none⟩,
    .op ⟨(some 11), (.mv (.tmp 82)), none⟩,
    .op ⟨(some 12), (.mv (.tmp 83)), none⟩]
def r_ref09_value_14 : List SOp :=
   [.op ⟨(some 84), (.mv (.tmp 12)), none⟩,
    .op ⟨(some 85), (.un .not (.tmp 84)), none⟩]
def r_ref09_value_15 : List SOp :=
   [.op ⟨(some 4), (.mv (.av (.str []))), none⟩,
    .op ⟨(some 5), (.mv (.av (.int .i64 0))), none⟩,
    .op ⟨(some 6), (.mv (.av (.bool false))), none⟩]
def r_ref09_value_16 : List SOp :=
   [.op ⟨(some 86), (.mv (.tmp 7)), none⟩,
    .op ⟨(some 87), (.mv (.tmp 11)), none⟩,
    .op ⟨(some 88), (.idxS (.tmp 87) (.av (.int .i64 0))), none⟩,
    .op ⟨(some 89), (.bslice false 1 1 [(.int .u8 0)] [(0, (1, (.tmp 88)))]), none⟩,
    .op ⟨(some 90), (.app 1 1 1 [(.int .u8 0)] (.tmp 86) (.tmp 89)), none⟩,
    .op ⟨(some 7), (.mv (.tmp 90)), none⟩]
def r_ref09_value_17 : List SOp :=
   [.op ⟨(some 91), (.mv (.tmp 1)), none⟩,
    .op ⟨(some 92), (.bin .add (.tmp 91) (.av (.int .i64 2))), none⟩,
    .op ⟨(some 1), (.mv (.tmp 92)), none⟩]
def r_ref09_value_18 : List SOp :=
   [.op ⟨(some 93), (.mv (.tmp 9)), none⟩,
    .op ⟨(some 94), (.bin .eql (.tmp 93) (.av (.int .u8 0))), none⟩,
    .op ⟨(some 95), (.mv (.tmp 94)), none⟩,
    .grp none 95 false
      [.op ⟨(some 96), (.mv (.tmp 9)), (some (95, false))⟩,
      .op ⟨(some 97), (.call 96 [(.tmp 96), (.av (.str [34, 59, 60, 62]))]), (some (95, false))⟩]
      98 (.tmp 97),
    .op ⟨(some 99), (.mv (.tmp 98)), none⟩,
    .grp none 99 false
      [.op ⟨(some 100), (.mv (.tmp 8)), (some (99, false))⟩,
      .op ⟨(some 101), (.mv (.tmp 100)), (some (99, false))⟩,
      .grp (some (99, false)) 101 true
        [.op ⟨(some 102), (.mv (.tmp 9)), (some (101, true))⟩,
        .op ⟨(some 103), (.call 96 [(.tmp 102), (.av (.str [32, 35]))]), (some (101, true))⟩]
        104 (.tmp 103)]
      105 (.tmp 104),
    .op ⟨(some 106), (.mv (.tmp 105)), none⟩,
    .grp none 106 false
      [.op ⟨(some 107), (.mv (.tmp 10)), (some (106, false))⟩,
      .op ⟨(some 108), (.mv (.tmp 107)), (some (106, false))⟩,
      .grp (some (106, false)) 108 true
        [.op ⟨(some 109), (.mv (.tmp 9)), (some (108, true))⟩,
        .op ⟨(some 110), (.bin .eql (.tmp 109) (.av (.int .u8 32))), (some (108, true))⟩]
        111 (.tmp 110)]
      112 (.tmp 111)]
def r_ref09_value_19 : List SOp :=
   [.op ⟨(some 4), (.mv (.av (.str []))), none⟩,
    .op ⟨(some 5), (.mv (.av (.int .i64 0))), none⟩,
    .op ⟨(some 6), (.mv (.av (.bool false))), none⟩]
def r_ref09_value_20 : List SOp :=
   [.op ⟨(some 113), (.mv (.tmp 7)), none⟩,
    .op ⟨(some 114), (.mv (.tmp 9)), none⟩,
    .op ⟨(some 115), (.bslice false 1 1 [(.int .u8 0)] [(0, (1, (.tmp 114)))]), none⟩,
    .op ⟨(some 116), (.app 1 1 1 [(.int .u8 0)] (.tmp 113) (.tmp 115)), none⟩,
    .op ⟨(some 7), (.mv (.tmp 116)), none⟩]
def r_ref09_value_21 : List SOp :=
   [.op ⟨(some 8), (.mv (.av (.bool false))), none⟩]
def r_ref09_value_22 : List SOp :=
   [.op ⟨(some 117), (.mv (.tmp 7)), none⟩,
    .op ⟨(some 118), (.b2s (.tmp 117)), none⟩,
    .op ⟨(some 119), (.mv (.tmp 1)), none⟩,
    .op ⟨(some 4), (.mv (.tmp 118)), none⟩,
    .op ⟨(some 5), (.mv (.tmp 119)), none⟩,
    .op ⟨(some 6), (.mv (.av (.bool true))), none⟩]
def c_ref09_value : LFun := ⟨120, (.seq (.sreg r_ref09_value_0 [])
  (.seq (.sreg r_ref09_value_1 [])
  (.seq (.sreg r_ref09_value_2 [])
  (.seq (.block 0 (.loop (.seq (.seq (.sreg r_ref09_value_3 [true, false, false, false, false, false, false, false])
  (.cond (.tmp 28) .skip
  (.exit 0)))
  (.block 1 (.seq (.sreg r_ref09_value_4 [true, false, false, false])
  (.seq (.sreg r_ref09_value_5 [true, false, false])
  (.seq (.sreg r_ref09_value_6 [true, false, false, false, false, false, false, false, false])
  (.seq (.seq (.sreg r_ref09_value_7 [true, false])
  (.cond (.tmp 51) (.seq (.sreg r_ref09_value_8 [true, false, false, false, false, false])
  (.cond (.tmp 61) (.seq (.sreg r_ref09_value_9 [true, false, false, false, false, false, false])
  (.sreg r_ref09_value_10 [true, false, false]))
  (.seq (.seq (.sreg r_ref09_value_11 [true, false, false, false, false])
  (.cond (.tmp 74) (.seq (.sreg r_ref09_value_12 [])
  .ret)
  .skip))
  (.seq (.sreg r_ref09_value_13 [true, true, false, false, false, false, false, false, false, false, false])
  (.seq (.seq (.sreg r_ref09_value_14 [true, false])
  (.cond (.tmp 85) (.seq (.sreg r_ref09_value_15 [])
  .ret)
  .skip))
  (.seq (.sreg r_ref09_value_16 [true, false, false, false, false, false])
  (.sreg r_ref09_value_17 [true, false, false])))))))
  (.seq (.seq (.sreg r_ref09_value_18 [true, false, false, false, false, false, false, false])
  (.cond (.tmp 112) (.seq (.sreg r_ref09_value_19 [])
  .ret)
  .skip))
  (.sreg r_ref09_value_20 [true, false, false, false, false]))))
  (.sreg r_ref09_value_21 [])))))))))
  (.seq (.sreg r_ref09_value_22 [true, true, true, false, false, false])
  .ret))))), [(.tmp 4), (.tmp 5), (.tmp 6)]⟩
attribute [push_cast] r_ref09_value_0 r_ref09_value_1 r_ref09_value_2 r_ref09_value_3 r_ref09_value_4 r_ref09_value_5 r_ref09_value_6 r_ref09_value_7 r_ref09_value_8 r_ref09_value_9 r_ref09_value_10 r_ref09_value_11 r_ref09_value_12 r_ref09_value_13 r_ref09_value_14 r_ref09_value_15 r_ref09_value_16 r_ref09_value_17 r_ref09_value_18 r_ref09_value_19 r_ref09_value_20 r_ref09_value_21 r_ref09_value_22
theorem c_ref09_value_eq : lowF Tryz.prog (fun _ _ => 1) 67 = some c_ref09_value.raw := by kernel_rfl

/-! castellan/castellanref09.written -/
def r_ref09_written_0 : List SOp :=
   [.op ⟨(some 2), (.mv (.av (.str []))), none⟩]
def r_ref09_written_1 : List SOp :=
   [.op ⟨(some 3), (.mv (.av (.sl [] 0 (some 0)))), none⟩]
def r_ref09_written_2 : List SOp :=
   [.op ⟨(some 4), (.mv (.av (.int .i64 0))), none⟩]
def r_ref09_written_3 : List SOp :=
   [.op ⟨(some 6), (.mv (.tmp 4)), none⟩,
    .op ⟨(some 7), (.mv (.tmp 0)), none⟩,
    .op ⟨(some 8), (.len true (.tmp 7)), none⟩,
    .op ⟨(some 9), (.bin .lss (.tmp 6) (.tmp 8)), none⟩]
def r_ref09_written_4 : List SOp :=
   [.op ⟨(some 12), (.mv (.tmp 0)), none⟩,
    .op ⟨(some 13), (.mv (.tmp 4)), none⟩,
    .op ⟨(some 14), (.idxS (.tmp 12) (.tmp 13)), none⟩,
    .op ⟨(some 5), (.mv (.tmp 14)), none⟩]
def r_ref09_written_5 : List SOp :=
   [.op ⟨(some 15), (.mv (.tmp 5)), none⟩,
    .op ⟨(some 16), (.bin .eql (.tmp 15) (.av (.int .u8 0))), none⟩]
def r_ref09_written_6 : List SOp :=
   [.op ⟨(some 17), (.mv (.tmp 3)), none⟩,
    .op ⟨(some 18), (.app 1 1 1 [(.int .u8 0)] (.tmp 17) (.av (.str [92, 48, 48]))), none⟩,
    .op ⟨(some 3), (.mv (.tmp 18)), none⟩]
def r_ref09_written_7 : List SOp :=
   [.op ⟨(some 19), (.mv (.tmp 5)), none⟩,
    .op ⟨(some 20), (.call 96 [(.tmp 19), (.av (.str [34, 43, 44, 59, 60, 62, 92]))]), none⟩,
    .op ⟨(some 21), (.mv (.tmp 20)), none⟩,
    .grp none 21 false
      [.op ⟨(some 22), (.mv (.tmp 4)), (some (21, false))⟩,
      .op ⟨(some 23), (.bin .eql (.tmp 22) (.av (.int .i64 0))), (some (21, false))⟩,
      .op ⟨(some 24), (.mv (.tmp 23)), (some (21, false))⟩,
      .grp (some (21, false)) 24 true
        [.op ⟨(some 25), (.mv (.tmp 5)), (some (24, true))⟩,
        .op ⟨(some 26), (.call 96 [(.tmp 25), (.av (.str [32, 35]))]), (some (24, true))⟩]
        27 (.tmp 26)]
      28 (.tmp 27),
    .op ⟨(some 29), (.mv (.tmp 28)), none⟩,
    .grp none 29 false
      [.op ⟨(some 30), (.mv (.tmp 4)), (some (29, false))⟩,
      .op ⟨(some 31), (.bin .add (.tmp 30) (.av (.int .i64 1))), (some (29, false))⟩,
      .op ⟨(some 32), (.mv (.tmp 0)), (some (29, false))⟩,
      .op ⟨(some 33), (.len true (.tmp 32)), (some (29, false))⟩,
      .op ⟨(some 34), (.bin .eql (.tmp 31) (.tmp 33)), (some (29, false))⟩,
      .op ⟨(some 35), (.mv (.tmp 34)), (some (29, false))⟩,
      .grp (some (29, false)) 35 true
        [.op ⟨(some 36), (.mv (.tmp 5)), (some (35, true))⟩,
        .op ⟨(some 37), (.bin .eql (.tmp 36) (.av (.int .u8 32))), (some (35, true))⟩]
        38 (.tmp 37)]
      39 (.tmp 38)]
def r_ref09_written_8 : List SOp :=
   [.op ⟨(some 40), (.mv (.tmp 3)), none⟩,
    .op ⟨(some 41), (.bslice false 1 1 [(.int .u8 0)] [(0, (1, (.av (.int .u8 92))))]), none⟩,
    .op ⟨(some 42), (.app 1 1 1 [(.int .u8 0)] (.tmp 40) (.tmp 41)), none⟩,
    .op ⟨(some 3), (.mv (.tmp 42)), none⟩]
def r_ref09_written_9 : List SOp :=
   [.op ⟨(some 43), (.mv (.tmp 3)), none⟩,
    .op ⟨(some 44), (.mv (.tmp 5)), none⟩,
    .op ⟨(some 45), (.bslice false 1 1 [(.int .u8 0)] [(0, (1, (.tmp 44)))]), none⟩,
    .op ⟨(some 46), (.app 1 1 1 [(.int .u8 0)] (.tmp 43) (.tmp 45)), none⟩,
    .op ⟨(some 3), (.mv (.tmp 46)), none⟩]
def r_ref09_written_10 : List SOp :=
   [.op ⟨(some 10), (.mv (.tmp 4)), none⟩,
    .op ⟨(some 11), (.bin .add (.tmp 10) (.av (.int .i64 1))), none⟩,
    .op ⟨(some 4), (.mv (.tmp 11)), none⟩]
def r_ref09_written_11 : List SOp :=
   [.op ⟨(some 47), (.mv (.tmp 3)), none⟩,
    .op ⟨(some 48), (.b2s (.tmp 47)), none⟩,
    .op ⟨(some 2), (.mv (.tmp 48)), none⟩]
def c_ref09_written : LFun := ⟨49, (.seq (.sreg r_ref09_written_0 [])
  (.seq (.sreg r_ref09_written_1 [])
  (.seq (.seq (.sreg r_ref09_written_2 [])
  (.block 0 (.loop (.seq (.seq (.sreg r_ref09_written_3 [true, false, false, false])
  (.cond (.tmp 9) .skip
  (.exit 0)))
  (.seq (.block 1 (.seq (.sreg r_ref09_written_4 [true, false, false, false])
  (.seq (.seq (.sreg r_ref09_written_5 [true, false])
  (.cond (.tmp 16) (.seq (.sreg r_ref09_written_6 [true, false, false])
  (.exit 1))
  .skip))
  (.seq (.seq (.sreg r_ref09_written_7 [true, false, false, false, false, false])
  (.cond (.tmp 39) (.sreg r_ref09_written_8 [true, false, false, false])
  .skip))
  (.sreg r_ref09_written_9 [true, false, false, false, false])))))
  (.sreg r_ref09_written_10 [true, false, false]))))))
  (.seq (.sreg r_ref09_written_11 [true, false, false])
  .ret)))), [(.tmp 2)]⟩
attribute [push_cast] r_ref09_written_0 r_ref09_written_1 r_ref09_written_2 r_ref09_written_3 r_ref09_written_4 r_ref09_written_5 r_ref09_written_6 r_ref09_written_7 r_ref09_written_8 r_ref09_written_9 r_ref09_written_10 r_ref09_written_11
theorem c_ref09_written_eq : lowF Tryz.prog (fun _ _ => 1) 98 = some c_ref09_written.raw := by kernel_rfl

/-! castellan/castellanref09.text -/
def r_ref09_text_0 : List SOp :=
   [.op ⟨(some 2), (.mv (.av (.str []))), none⟩]
def r_ref09_text_1 : List SOp :=
   [.op ⟨(some 3), (.mv (.av (.str []))), none⟩]
def r_ref09_text_2 : List SOp :=
   [.op ⟨(some 8), (.mv (.tmp 0)), none⟩,
    .op ⟨(some 9), (.len false (.tmp 8)), none⟩,
    .op ⟨(some 10), (.mv (.av (.int .i64 0))), none⟩]
def r_ref09_text_3 : List SOp :=
   [.op ⟨(some 11), (.bin .lss (.tmp 10) (.tmp 9)), none⟩]
def r_ref09_text_4 : List SOp :=
   [.op ⟨(some 12), (.mv (.tmp 10)), none⟩,
    .op ⟨(some 13), (.iaddr 1 (.tmp 8) (.tmp 10)), none⟩,
    .op ⟨(some 14), (.load false 1 (.tmp 13)), none⟩,
    .op ⟨(some 4), (.mv (.tmp 12)), none⟩,
    .op ⟨(some 5), (.mv (.tmp 14)), none⟩]
def r_ref09_text_5 : List SOp :=
   [.op ⟨(some 15), (.mv (.tmp 4)), none⟩,
    .op ⟨(some 16), (.bin .gtr (.tmp 15) (.av (.int .i64 0))), none⟩]
def r_ref09_text_6 : List SOp :=
   [.op ⟨(some 17), (.mv (.tmp 3)), none⟩,
    .op ⟨(some 18), (.bin .add (.tmp 17) (.av (.str [44]))), none⟩,
    .op ⟨(some 3), (.mv (.tmp 18)), none⟩]
def r_ref09_text_7 : List SOp :=
   [.op ⟨(some 19), (.mv (.tmp 5)), none⟩,
    .op ⟨(some 20), (.len false (.tmp 19)), none⟩,
    .op ⟨(some 21), (.mv (.av (.int .i64 0))), none⟩]
def r_ref09_text_8 : List SOp :=
   [.op ⟨(some 22), (.bin .lss (.tmp 21) (.tmp 20)), none⟩]
def r_ref09_text_9 : List SOp :=
   [.op ⟨(some 23), (.mv (.tmp 21)), none⟩,
    .op ⟨(some 24), (.iaddr 2 (.tmp 19) (.tmp 21)), none⟩,
    .op ⟨(some 25), (.load true 2 (.tmp 24)), none⟩,
    .op ⟨(some 7), (.alloc [(.str []), (.str [])]), none⟩,
    .op ⟨(some 6), (.mv (.tmp 23)), none⟩,
    .op ⟨none, (.store 2 (.tmp 7) (.tmp 25)), none⟩]
def r_ref09_text_10 : List SOp :=
   [.op ⟨(some 26), (.mv (.tmp 6)), none⟩,
    .op ⟨(some 27), (.bin .gtr (.tmp 26) (.av (.int .i64 0))), none⟩]
def r_ref09_text_11 : List SOp :=
   [.op ⟨(some 28), (.mv (.tmp 3)), none⟩,
    .op ⟨(some 29), (.bin .add (.tmp 28) (.av (.str [43]))), none⟩,
    .op ⟨(some 3), (.mv (.tmp 29)), none⟩]
def r_ref09_text_12 : List SOp :=
   [.op ⟨(some 30), (.mv (.tmp 3)), none⟩,
    .op ⟨(some 31), (.faddr 0 (.tmp 7)), none⟩,
    .op ⟨(some 32), (.load false 1 (.tmp 31)), none⟩,
    .op ⟨(some 33), (.bin .add (.tmp 30) (.tmp 32)), none⟩,
    .op ⟨(some 34), (.bin .add (.tmp 33) (.av (.str [61]))), none⟩,
    .op ⟨(some 35), (.faddr 1 (.tmp 7)), none⟩,
    .op ⟨(some 36), (.load false 1 (.tmp 35)), none⟩,
    .op ⟨(some 37), (.call 98 [(.tmp 36)]), none⟩,
    .op ⟨(some 38), (.bin .add (.tmp 34) (.tmp 37)), none⟩,
    .op ⟨(some 3), (.mv (.tmp 38)), none⟩]
def r_ref09_text_13 : List SOp :=
   [.op ⟨(some 39), (.bin .add (.tmp 21) (.av (.int .i64 1))), none⟩,
    .op ⟨(some 21), (.mv (.tmp 39)), none⟩]
def r_ref09_text_14 : List SOp :=
   [.op ⟨(some 40), (.bin .add (.tmp 10) (.av (.int .i64 1))), none⟩,
    .op ⟨(some 10), (.mv (.tmp 40)), none⟩]
def r_ref09_text_15 : List SOp :=
   [.op ⟨(some 41), (.mv (.tmp 3)), none⟩,
    .op ⟨(some 2), (.mv (.tmp 41)), none⟩]
def c_ref09_text : LFun := ⟨42, (.seq (.sreg r_ref09_text_0 [])
  (.seq (.sreg r_ref09_text_1 [])
  (.seq (.seq (.sreg r_ref09_text_2 [])
  (.block 0 (.loop (.seq (.sreg r_ref09_text_3 [])
  (.seq (.cond (.tmp 11) .skip
  (.exit 0))
  (.seq (.block 1 (.seq (.sreg r_ref09_text_4 [true, true, false, false, false])
  (.seq (.seq (.sreg r_ref09_text_5 [true, false])
  (.cond (.tmp 16) (.sreg r_ref09_text_6 [true, false, false])
  .skip))
  (.seq (.sreg r_ref09_text_7 [])
  (.block 2 (.loop (.seq (.sreg r_ref09_text_8 [])
  (.seq (.cond (.tmp 22) .skip
  (.exit 2))
  (.seq (.block 3 (.seq (.sreg r_ref09_text_9 [true, true, false, false, false])
  (.seq (.seq (.sreg r_ref09_text_10 [true, false])
  (.cond (.tmp 27) (.sreg r_ref09_text_11 [true, false, false])
  .skip))
  (.sdreg r_ref09_text_12 [.pure, .pure, (.read 0 0), .pure, .pure, .pure, (.read 0 0), (.read 0 0)] [true, false, false, false, false, false, false, false, false, false]))))
  (.sreg r_ref09_text_13 [true, false]))))))))))
  (.sreg r_ref09_text_14 [true, false])))))))
  (.seq (.sreg r_ref09_text_15 [true, false])
  .ret)))), [(.tmp 2)]⟩
attribute [push_cast] r_ref09_text_0 r_ref09_text_1 r_ref09_text_2 r_ref09_text_3 r_ref09_text_4 r_ref09_text_5 r_ref09_text_6 r_ref09_text_7 r_ref09_text_8 r_ref09_text_9 r_ref09_text_10 r_ref09_text_11 r_ref09_text_12 r_ref09_text_13 r_ref09_text_14 r_ref09_text_15
theorem c_ref09_text_eq : lowF Tryz.prog (fun _ _ => 1) 69 = some c_ref09_text.raw := by kernel_rfl

/-! castellan/castellanref09.Print -/
def r_ref09_Print_0 : List SOp :=
   [.op ⟨(some 2), (.mv (.av (.str []))), none⟩,
    .op ⟨(some 3), (.mv (.av (.int .i64 0))), none⟩]
def r_ref09_Print_1 : List SOp :=
   [.op ⟨(some 4), (.mv (.av (.int .i64 0))), none⟩]
def r_ref09_Print_2 : List SOp :=
   [.op ⟨(some 9), (.mv (.tmp 0)), none⟩,
    .op ⟨(some 10), (.len false (.tmp 9)), none⟩,
    .op ⟨(some 11), (.mv (.av (.int .i64 0))), none⟩]
def r_ref09_Print_3 : List SOp :=
   [.op ⟨(some 12), (.bin .lss (.tmp 11) (.tmp 10)), none⟩]
def r_ref09_Print_4 : List SOp :=
   [.op ⟨(some 13), (.mv (.tmp 11)), none⟩,
    .op ⟨(some 14), (.iaddr 1 (.tmp 9) (.tmp 11)), none⟩,
    .op ⟨(some 15), (.load false 1 (.tmp 14)), none⟩,
    .op ⟨(some 5), (.mv (.tmp 13)), none⟩,
    .op ⟨(some 6), (.mv (.tmp 15)), none⟩]
def r_ref09_Print_5 : List SOp :=
   [.op ⟨(some 16), (.mv (.tmp 5)), none⟩,
    .op ⟨(some 17), (.bin .eql (.tmp 16) (.av (.int .i64 32))), none⟩]
def r_ref09_Print_6 : List SOp :=
   [.op ⟨(some 2), (.mv (.av (.str []))), none⟩,
    .op ⟨(some 3), (.mv (.av (.int .i64 9))), none⟩]
def r_ref09_Print_7 : List SOp :=
   [.op ⟨(some 18), (.mv (.tmp 6)), none⟩,
    .op ⟨(some 19), (.len false (.tmp 18)), none⟩,
    .op ⟨(some 20), (.bin .eql (.tmp 19) (.av (.int .i64 0))), none⟩]
def r_ref09_Print_8 : List SOp :=
   [.op ⟨(some 2), (.mv (.av (.str []))), none⟩,
    .op ⟨(some 3), (.mv (.av (.int .i64 2))), none⟩]
def r_ref09_Print_9 : List SOp :=
   [.op ⟨(some 21), (.mv (.tmp 6)), none⟩,
    .op ⟨(some 22), (.len false (.tmp 21)), none⟩,
    .op ⟨(some 23), (.mv (.av (.int .i64 0))), none⟩]
def r_ref09_Print_10 : List SOp :=
   [.op ⟨(some 24), (.bin .lss (.tmp 23) (.tmp 22)), none⟩]
def r_ref09_Print_11 : List SOp :=
   [.op ⟨(some 25), (.mv (.tmp 23)), none⟩,
    .op ⟨(some 26), (.iaddr 2 (.tmp 21) (.tmp 23)), none⟩,
    .op ⟨(some 27), (.load true 2 (.tmp 26)), none⟩,
    .op ⟨(some 8), (.alloc [(.str []), (.str [])]), none⟩,
    .op ⟨(some 7), (.mv (.tmp 25)), none⟩,
    .op ⟨none, (.store 2 (.tmp 8) (.tmp 27)), none⟩]
def r_ref09_Print_12 : List SOp :=
   [.op ⟨(some 28), (.mv (.tmp 7)), none⟩,
    .op ⟨(some 29), (.bin .eql (.tmp 28) (.av (.int .i64 8))), none⟩]
def r_ref09_Print_13 : List SOp :=
   [.op ⟨(some 2), (.mv (.av (.str []))), none⟩,
    .op ⟨(some 3), (.mv (.av (.int .i64 9))), none⟩]
def r_ref09_Print_14 : List SOp :=
   [.op ⟨(some 30), (.faddr 0 (.tmp 8)), none⟩,
    .op ⟨(some 31), (.load false 1 (.tmp 30)), none⟩,
    .op ⟨(some 32), (.call 65 [(.tmp 31)]), none⟩,
    .op ⟨(some 33), (.un .not (.tmp 32)), none⟩]
def r_ref09_Print_15 : List SOp :=
   [.op ⟨(some 2), (.mv (.av (.str []))), none⟩,
    .op ⟨(some 3), (.mv (.av (.int .i64 20))), none⟩]
def r_ref09_Print_16 : List SOp :=
   [.op ⟨(some 34), (.mv (.tmp 6)), none⟩,
    .op ⟨(some 35), (.mv (.tmp 7)), none⟩,
    .op ⟨(some 36), (.slV 2 (.tmp 34) none (some (.tmp 35)) none), none⟩,
    .op ⟨(some 37), (.faddr 0 (.tmp 8)), none⟩,
    .op ⟨(some 38), (.load false 1 (.tmp 37)), none⟩,
    .op ⟨(some 39), (.call 66 [(.tmp 36), (.tmp 38)]), none⟩]
def r_ref09_Print_17 : List SOp :=
   [.op ⟨(some 2), (.mv (.av (.str []))), none⟩,
    .op ⟨(some 3), (.mv (.av (.int .i64 21))), none⟩]
def r_ref09_Print_18 : List SOp :=
   [.op ⟨(some 40), (.mv (.tmp 4)), none⟩,
    .op ⟨(some 41), (.faddr 1 (.tmp 8)), none⟩,
    .op ⟨(some 42), (.load false 1 (.tmp 41)), none⟩,
    .op ⟨(some 43), (.len true (.tmp 42)), none⟩,
    .op ⟨(some 44), (.minmax false [(.tmp 43), (.av (.int .i64 5000))]), none⟩,
    .op ⟨(some 45), (.bin .add (.tmp 40) (.tmp 44)), none⟩,
    .op ⟨(some 4), (.mv (.tmp 45)), none⟩]
def r_ref09_Print_19 : List SOp :=
   [.op ⟨(some 46), (.bin .add (.tmp 23) (.av (.int .i64 1))), none⟩,
    .op ⟨(some 23), (.mv (.tmp 46)), none⟩]
def r_ref09_Print_20 : List SOp :=
   [.op ⟨(some 47), (.bin .add (.tmp 11) (.av (.int .i64 1))), none⟩,
    .op ⟨(some 11), (.mv (.tmp 47)), none⟩]
def r_ref09_Print_21 : List SOp :=
   [.op ⟨(some 48), (.mv (.tmp 4)), none⟩,
    .op ⟨(some 49), (.bin .gtr (.tmp 48) (.av (.int .i64 4096))), none⟩,
    .op ⟨(some 50), (.mv (.tmp 49)), none⟩,
    .grp none 50 false
      [.op ⟨(some 51), (.mv (.tmp 0)), (some (50, false))⟩,
      .op ⟨(some 52), (.call 69 [(.tmp 51)]), (some (50, false))⟩,
      .op ⟨(some 53), (.len true (.tmp 52)), (some (50, false))⟩,
      .op ⟨(some 54), (.bin .gtr (.tmp 53) (.av (.int .i64 4096))), (some (50, false))⟩]
      55 (.tmp 54)]
def r_ref09_Print_22 : List SOp :=
   [.op ⟨(some 2), (.mv (.av (.str []))), none⟩,
    .op ⟨(some 3), (.mv (.av (.int .i64 5))), none⟩]
def r_ref09_Print_23 : List SOp :=
   [.op ⟨(some 56), (.mv (.tmp 0)), none⟩,
    .op ⟨(some 57), (.call 69 [(.tmp 56)]), none⟩,
    .op ⟨(some 2), (.mv (.tmp 57)), none⟩,
    .op ⟨(some 3), (.mv (.av (.int .i64 0))), none⟩]
def c_ref09_Print : LFun := ⟨58, (.seq (.sreg r_ref09_Print_0 [])
  (.seq (.sreg r_ref09_Print_1 [])
  (.seq (.seq (.sreg r_ref09_Print_2 [])
  (.block 0 (.loop (.seq (.sreg r_ref09_Print_3 [])
  (.seq (.cond (.tmp 12) .skip
  (.exit 0))
  (.seq (.block 1 (.seq (.sreg r_ref09_Print_4 [true, true, false, false, false])
  (.seq (.seq (.sreg r_ref09_Print_5 [true, false])
  (.cond (.tmp 17) (.seq (.sreg r_ref09_Print_6 [])
  .ret)
  .skip))
  (.seq (.seq (.sreg r_ref09_Print_7 [true, false, false])
  (.cond (.tmp 20) (.seq (.sreg r_ref09_Print_8 [])
  .ret)
  .skip))
  (.seq (.sreg r_ref09_Print_9 [])
  (.block 2 (.loop (.seq (.sreg r_ref09_Print_10 [])
  (.seq (.cond (.tmp 24) .skip
  (.exit 2))
  (.seq (.block 3 (.seq (.sreg r_ref09_Print_11 [true, true, false, false, false])
  (.seq (.seq (.sreg r_ref09_Print_12 [true, false])
  (.cond (.tmp 29) (.seq (.sreg r_ref09_Print_13 [])
  .ret)
  .skip))
  (.seq (.seq (.sreg r_ref09_Print_14 [true, false, false, false])
  (.cond (.tmp 33) (.seq (.sreg r_ref09_Print_15 [])
  .ret)
  .skip))
  (.seq (.seq (.sdreg r_ref09_Print_16 [.pure, .pure, (.read 0 0), .pure, (.read 0 0)] [true, false, false, false, false, false])
  (.cond (.tmp 39) (.seq (.sreg r_ref09_Print_17 [])
  .ret)
  .skip))
  (.sreg r_ref09_Print_18 [true, false, false, false, false, false, false]))))))
  (.sreg r_ref09_Print_19 [true, false])))))))))))
  (.sreg r_ref09_Print_20 [true, false])))))))
  (.seq (.seq (.sreg r_ref09_Print_21 [true, false, false, false])
  (.cond (.tmp 55) (.seq (.sreg r_ref09_Print_22 [])
  .ret)
  .skip))
  (.seq (.sreg r_ref09_Print_23 [true, true, false, false])
  .ret))))), [(.tmp 2), (.tmp 3)]⟩
attribute [push_cast] r_ref09_Print_0 r_ref09_Print_1 r_ref09_Print_2 r_ref09_Print_3 r_ref09_Print_4 r_ref09_Print_5 r_ref09_Print_6 r_ref09_Print_7 r_ref09_Print_8 r_ref09_Print_9 r_ref09_Print_10 r_ref09_Print_11 r_ref09_Print_12 r_ref09_Print_13 r_ref09_Print_14 r_ref09_Print_15 r_ref09_Print_16 r_ref09_Print_17 r_ref09_Print_18 r_ref09_Print_19 r_ref09_Print_20 r_ref09_Print_21 r_ref09_Print_22 r_ref09_Print_23
theorem c_ref09_Print_eq : lowF Tryz.prog (fun _ _ => 1) 68 = some c_ref09_Print.raw := by kernel_rfl

/-! castellan/castellanref09.plain -/
def r_ref09_plain_0 : List SOp :=
   [.op ⟨(some 2), (.mv (.av (.sl [] 0 (some 0)))), none⟩]
def r_ref09_plain_1 : List SOp :=
   [.op ⟨(some 3), (.mv (.av (.sl [] 0 (some 0)))), none⟩]
def r_ref09_plain_2 : List SOp :=
   [.op ⟨(some 12), (.mv (.tmp 0)), none⟩,
    .op ⟨(some 13), (.len false (.tmp 12)), none⟩,
    .op ⟨(some 14), (.mv (.av (.int .i64 0))), none⟩]
def r_ref09_plain_3 : List SOp :=
   [.op ⟨(some 15), (.bin .lss (.tmp 14) (.tmp 13)), none⟩]
def r_ref09_plain_4 : List SOp :=
   [.op ⟨(some 16), (.iaddr 1 (.tmp 12) (.tmp 14)), none⟩,
    .op ⟨(some 17), (.load false 1 (.tmp 16)), none⟩,
    .op ⟨(some 5), (.mv (.tmp 17)), none⟩]
def r_ref09_plain_5 : List SOp :=
   [.op ⟨(some 6), (.mv (.av (.sl [] 0 (some 0)))), none⟩]
def r_ref09_plain_6 : List SOp :=
   [.op ⟨(some 18), (.mv (.tmp 5)), none⟩,
    .op ⟨(some 19), (.len false (.tmp 18)), none⟩,
    .op ⟨(some 20), (.mv (.av (.int .i64 0))), none⟩]
def r_ref09_plain_7 : List SOp :=
   [.op ⟨(some 21), (.bin .lss (.tmp 20) (.tmp 19)), none⟩]
def r_ref09_plain_8 : List SOp :=
   [.op ⟨(some 22), (.iaddr 2 (.tmp 18) (.tmp 20)), none⟩,
    .op ⟨(some 23), (.load true 2 (.tmp 22)), none⟩,
    .op ⟨(some 8), (.alloc [(.str []), (.str [])]), none⟩,
    .op ⟨none, (.store 2 (.tmp 8) (.tmp 23)), none⟩]
def r_ref09_plain_9 : List (LOper × Kd) :=
   [(⟨(some 24), (.faddr 0 (.tmp 8)), none⟩, .pure),
    (⟨(some 25), (.load false 1 (.tmp 24)), none⟩, (.read 0 1)),
    (⟨(some 26), (.call 36 [(.tmp 25)]), none⟩, (.read 0 1)),
    (⟨(some 27), (.faddr 1 (.tmp 8)), none⟩, .pure),
    (⟨(some 28), (.load false 1 (.tmp 27)), none⟩, (.read 0 1)),
    (⟨(some 29), (.call 23 [(.tmp 28)]), none⟩, (.read 0 1)),
    (⟨(some 30), (.build [(.str []), (.str [])] [(0, (1, (.tmp 26))), (1, (1, (.tmp 29)))]), none⟩, .pure),
    (⟨(some 9), (.alloc [(.str []), (.str [])]), none⟩, .eff)]
def r_ref09_plain_9t : List LOper :=
   [⟨none, (.store 2 (.tmp 9) (.tmp 30)), none⟩]
def r_ref09_plain_10 : List SOp :=
   [.op ⟨(some 31), (.mv (.tmp 6)), none⟩,
    .op ⟨(some 32), (.len false (.tmp 31)), none⟩,
    .op ⟨(some 10), (.mv (.tmp 32)), none⟩]
def r_ref09_plain_11 : List SOp :=
   [.op ⟨(some 33), (.mv (.tmp 10)), none⟩,
    .op ⟨(some 34), (.bin .gtr (.tmp 33) (.av (.int .i64 0))), none⟩,
    .op ⟨(some 35), (.mv (.tmp 34)), none⟩,
    .grp none 35 true
      [.op ⟨(some 36), (.mv (.tmp 6)), (some (35, true))⟩,
      .op ⟨(some 37), (.mv (.tmp 10)), (some (35, true))⟩,
      .op ⟨(some 38), (.bin .sub (.tmp 37) (.av (.int .i64 1))), (some (35, true))⟩,
      .op ⟨(some 39), (.iaddr 2 (.tmp 36) (.tmp 38)), (some (35, true))⟩,
      .op ⟨(some 40), (.faddr 0 (.tmp 39)), (some (35, true))⟩,
      .op ⟨(some 41), (.load false 1 (.tmp 40)), (some (35, true))⟩,
      .op ⟨(some 42), (.bin .add (.tmp 41) (.av (.str [61]))), (some (35, true))⟩,
      .op ⟨(some 43), (.mv (.tmp 6)), (some (35, true))⟩,
      .op ⟨(some 44), (.mv (.tmp 10)), (some (35, true))⟩,
      .op ⟨(some 45), (.bin .sub (.tmp 44) (.av (.int .i64 1))), (some (35, true))⟩,
      .op ⟨(some 46), (.iaddr 2 (.tmp 43) (.tmp 45)), (some (35, true))⟩,
      .op ⟨(some 47), (.faddr 1 (.tmp 46)), (some (35, true))⟩,
      .op ⟨(some 48), (.load false 1 (.tmp 47)), (some (35, true))⟩,
      .op ⟨(some 49), (.call 98 [(.tmp 48)]), (some (35, true))⟩,
      .op ⟨(some 50), (.bin .add (.tmp 42) (.tmp 49)), (some (35, true))⟩,
      .op ⟨(some 51), (.faddr 0 (.tmp 9)), (some (35, true))⟩,
      .op ⟨(some 52), (.load false 1 (.tmp 51)), (some (35, true))⟩,
      .op ⟨(some 53), (.bin .add (.tmp 52) (.av (.str [61]))), (some (35, true))⟩,
      .op ⟨(some 54), (.faddr 1 (.tmp 9)), (some (35, true))⟩,
      .op ⟨(some 55), (.load false 1 (.tmp 54)), (some (35, true))⟩,
      .op ⟨(some 56), (.call 98 [(.tmp 55)]), (some (35, true))⟩,
      .op ⟨(some 57), (.bin .add (.tmp 53) (.tmp 56)), (some (35, true))⟩,
      .op ⟨(some 58), (.bin .gtr (.tmp 50) (.tmp 57)), (some (35, true))⟩]
      59 (.tmp 58)]
def r_ref09_plain_12 : List SOp :=
   [.op ⟨(some 60), (.mv (.tmp 10)), none⟩,
    .op ⟨(some 61), (.bin .sub (.tmp 60) (.av (.int .i64 1))), none⟩,
    .op ⟨(some 10), (.mv (.tmp 61)), none⟩]
def r_ref09_plain_13 : List SOp :=
   [.op ⟨(some 11), (.mv (.av (.sl [] 0 (some 0)))), none⟩]
def r_ref09_plain_14 : List SOp :=
   [.op ⟨(some 62), (.mv (.tmp 11)), none⟩,
    .op ⟨(some 63), (.mv (.tmp 6)), none⟩,
    .op ⟨(some 64), (.mv (.tmp 10)), none⟩,
    .op ⟨(some 65), (.slV 2 (.tmp 63) none (some (.tmp 64)) none), none⟩,
    .op ⟨(some 66), (.app 1 2 32 [(.str []), (.str [])] (.tmp 62) (.tmp 65)), none⟩,
    .op ⟨(some 11), (.mv (.tmp 66)), none⟩]
def r_ref09_plain_15 : List SOp :=
   [.op ⟨(some 67), (.mv (.tmp 11)), none⟩,
    .op ⟨(some 68), (.load true 2 (.tmp 9)), none⟩,
    .op ⟨(some 69), (.bslice false 2 1 [(.str []), (.str [])] [(0, (2, (.tmp 68)))]), none⟩,
    .op ⟨(some 70), (.app 1 2 32 [(.str []), (.str [])] (.tmp 67) (.tmp 69)), none⟩,
    .op ⟨(some 11), (.mv (.tmp 70)), none⟩]
def r_ref09_plain_16 : List SOp :=
   [.op ⟨(some 71), (.mv (.tmp 11)), none⟩,
    .op ⟨(some 72), (.mv (.tmp 6)), none⟩,
    .op ⟨(some 73), (.mv (.tmp 10)), none⟩,
    .op ⟨(some 74), (.slV 2 (.tmp 72) (some (.tmp 73)) none none), none⟩,
    .op ⟨(some 75), (.app 1 2 32 [(.str []), (.str [])] (.tmp 71) (.tmp 74)), none⟩,
    .op ⟨(some 11), (.mv (.tmp 75)), none⟩]
def r_ref09_plain_17 : List SOp :=
   [.op ⟨(some 76), (.mv (.tmp 11)), none⟩,
    .op ⟨(some 6), (.mv (.tmp 76)), none⟩]
def r_ref09_plain_18 : List SOp :=
   [.op ⟨(some 77), (.bin .add (.tmp 20) (.av (.int .i64 1))), none⟩,
    .op ⟨(some 20), (.mv (.tmp 77)), none⟩]
def r_ref09_plain_19 : List SOp :=
   [.op ⟨(some 78), (.mv (.tmp 3)), none⟩,
    .op ⟨(some 79), (.mv (.tmp 6)), none⟩,
    .op ⟨(some 80), (.bslice false 1 1 [(.sl [] 0 (some 0))] [(0, (1, (.tmp 79)))]), none⟩,
    .op ⟨(some 81), (.app 1 1 24 [(.sl [] 0 (some 0))] (.tmp 78) (.tmp 80)), none⟩,
    .op ⟨(some 3), (.mv (.tmp 81)), none⟩]
def r_ref09_plain_20 : List SOp :=
   [.op ⟨(some 82), (.bin .add (.tmp 14) (.av (.int .i64 1))), none⟩,
    .op ⟨(some 14), (.mv (.tmp 82)), none⟩]
def r_ref09_plain_21 : List SOp :=
   [.op ⟨(some 83), (.mv (.tmp 3)), none⟩,
    .op ⟨(some 2), (.mv (.tmp 83)), none⟩]
def c_ref09_plain : LFun := ⟨84, (.seq (.sreg r_ref09_plain_0 [])
  (.seq (.sreg r_ref09_plain_1 [])
  (.seq (.seq (.sreg r_ref09_plain_2 [])
  (.block 0 (.loop (.seq (.sreg r_ref09_plain_3 [])
  (.seq (.cond (.tmp 15) .skip
  (.exit 0))
  (.seq (.block 1 (.seq (.sreg r_ref09_plain_4 [true, false, false])
  (.seq (.sreg r_ref09_plain_5 [])
  (.seq (.seq (.sreg r_ref09_plain_6 [])
  (.block 2 (.loop (.seq (.sreg r_ref09_plain_7 [])
  (.seq (.cond (.tmp 21) .skip
  (.exit 2))
  (.seq (.block 3 (.seq (.sreg r_ref09_plain_8 [true, false, false])
  (.seq (.dregM r_ref09_plain_9 r_ref09_plain_9t [true, false, false, false, false, false, false, false])
  (.seq (.sreg r_ref09_plain_10 [true, false, false])
  (.seq (.block 4 (.loop (.seq (.seq (.sdreg r_ref09_plain_11 [.pure, .pure, .pure, .pure, .pure, .pure, (.read 0 0), .pure, (.read 0 0), .pure, .pure, .pure, .pure, (.read 0 0), .pure, (.read 0 0), (.read 0 0), .pure, .pure, (.read 0 0), .pure, .pure, (.read 0 0), (.read 0 0), .pure] [true, false, false, false])
  (.cond (.tmp 59) .skip
  (.exit 4)))
  (.block 5 (.sreg r_ref09_plain_12 [true, false, false])))))
  (.seq (.sreg r_ref09_plain_13 [])
  (.seq (.sreg r_ref09_plain_14 [true, false, false, false, false, false])
  (.seq (.sreg r_ref09_plain_15 [true, false, false, false, false])
  (.seq (.sreg r_ref09_plain_16 [true, false, false, false, false, false])
  (.sreg r_ref09_plain_17 [true, false]))))))))))
  (.sreg r_ref09_plain_18 [true, false])))))))
  (.sreg r_ref09_plain_19 [true, false, false, false, false])))))
  (.sreg r_ref09_plain_20 [true, false])))))))
  (.seq (.sreg r_ref09_plain_21 [true, false])
  .ret)))), [(.tmp 2)]⟩
attribute [push_cast] r_ref09_plain_0 r_ref09_plain_1 r_ref09_plain_2 r_ref09_plain_3 r_ref09_plain_4 r_ref09_plain_5 r_ref09_plain_6 r_ref09_plain_7 r_ref09_plain_8 r_ref09_plain_9 r_ref09_plain_9t r_ref09_plain_10 r_ref09_plain_11 r_ref09_plain_12 r_ref09_plain_13 r_ref09_plain_14 r_ref09_plain_15 r_ref09_plain_16 r_ref09_plain_17 r_ref09_plain_18 r_ref09_plain_19 r_ref09_plain_20 r_ref09_plain_21
theorem c_ref09_plain_eq : lowF Tryz.prog (fun _ _ => 1) 70 = some c_ref09_plain.raw := by kernel_rfl

/-! castellan/castellanref09.Norm -/
def r_ref09_Norm_0 : List SOp :=
   [.op ⟨(some 2), (.mv (.av (.str []))), none⟩,
    .op ⟨(some 3), (.mv (.av (.int .i64 0))), none⟩]
def r_ref09_Norm_1 : List SOp :=
   [.op ⟨(some 7), (.mv (.tmp 0)), none⟩,
    .op ⟨(some 8), (.call 68 [(.tmp 7)]), none⟩,
    .op ⟨(some 6), (.mv (.tmp 8)), none⟩,
    .op ⟨(some 9), (.extract (.tmp 6) 0), none⟩,
    .op ⟨(some 10), (.extract (.tmp 6) 1), none⟩,
    .op ⟨(some 4), (.mv (.tmp 9)), none⟩,
    .op ⟨(some 5), (.mv (.tmp 10)), none⟩]
def r_ref09_Norm_2 : List SOp :=
   [.op ⟨(some 11), (.mv (.tmp 5)), none⟩,
    .op ⟨(some 12), (.bin .neq (.tmp 11) (.av (.int .i64 0))), none⟩]
def r_ref09_Norm_3 : List SOp :=
   [.op ⟨(some 13), (.mv (.tmp 5)), none⟩,
    .op ⟨(some 2), (.mv (.av (.str []))), none⟩,
    .op ⟨(some 3), (.mv (.tmp 13)), none⟩]
def r_ref09_Norm_4 : List SOp :=
   [.op ⟨(some 14), (.mv (.tmp 0)), none⟩,
    .op ⟨(some 15), (.call 70 [(.tmp 14)]), none⟩,
    .op ⟨(some 16), (.call 69 [(.tmp 15)]), none⟩,
    .op ⟨(some 2), (.mv (.tmp 16)), none⟩,
    .op ⟨(some 3), (.mv (.av (.int .i64 0))), none⟩]
def c_ref09_Norm : LFun := ⟨17, (.seq (.sreg r_ref09_Norm_0 [])
  (.seq (.sreg r_ref09_Norm_1 [true, false, false, false, false, false, false])
  (.seq (.seq (.sreg r_ref09_Norm_2 [true, false])
  (.cond (.tmp 12) (.seq (.sreg r_ref09_Norm_3 [true, true, false])
  .ret)
  .skip))
  (.seq (.sreg r_ref09_Norm_4 [true, true, false, false, false])
  .ret)))), [(.tmp 2), (.tmp 3)]⟩
attribute [push_cast] r_ref09_Norm_0 r_ref09_Norm_1 r_ref09_Norm_2 r_ref09_Norm_3 r_ref09_Norm_4
theorem c_ref09_Norm_eq : lowF Tryz.prog (fun _ _ => 1) 47 = some c_ref09_Norm.raw := by kernel_rfl

/-! castellan/castellanref09.Key -/
def r_ref09_Key_0 : List SOp :=
   [.op ⟨(some 2), (.mv (.av (.str []))), none⟩,
    .op ⟨(some 3), (.mv (.av (.int .i64 0))), none⟩]
def r_ref09_Key_1 : List SOp :=
   [.op ⟨(some 7), (.mv (.tmp 0)), none⟩,
    .op ⟨(some 8), (.call 46 [(.tmp 7)]), none⟩,
    .op ⟨(some 6), (.mv (.tmp 8)), none⟩,
    .op ⟨(some 9), (.extract (.tmp 6) 0), none⟩,
    .op ⟨(some 10), (.extract (.tmp 6) 1), none⟩,
    .op ⟨(some 4), (.mv (.tmp 9)), none⟩,
    .op ⟨(some 5), (.mv (.tmp 10)), none⟩]
def r_ref09_Key_2 : List SOp :=
   [.op ⟨(some 11), (.mv (.tmp 5)), none⟩,
    .op ⟨(some 12), (.bin .neq (.tmp 11) (.av (.int .i64 0))), none⟩]
def r_ref09_Key_3 : List SOp :=
   [.op ⟨(some 13), (.mv (.tmp 5)), none⟩,
    .op ⟨(some 2), (.mv (.av (.str []))), none⟩,
    .op ⟨(some 3), (.mv (.tmp 13)), none⟩]
def r_ref09_Key_4 : List SOp :=
   [.op ⟨(some 14), (.mv (.tmp 4)), none⟩,
    .op ⟨(some 15), (.call 47 [(.tmp 14)]), none⟩,
    .op ⟨(some 16), (.extract (.tmp 15) 0), none⟩,
    .op ⟨(some 17), (.extract (.tmp 15) 1), none⟩,
    .op ⟨(some 2), (.mv (.tmp 16)), none⟩,
    .op ⟨(some 3), (.mv (.tmp 17)), none⟩]
def c_ref09_Key : LFun := ⟨18, (.seq (.sreg r_ref09_Key_0 [])
  (.seq (.sreg r_ref09_Key_1 [true, true, false, false, false, false, false])
  (.seq (.seq (.sreg r_ref09_Key_2 [true, false])
  (.cond (.tmp 12) (.seq (.sreg r_ref09_Key_3 [true, true, false])
  .ret)
  .skip))
  (.seq (.sreg r_ref09_Key_4 [true, true, false, false, false, false])
  .ret)))), [(.tmp 2), (.tmp 3)]⟩
attribute [push_cast] r_ref09_Key_0 r_ref09_Key_1 r_ref09_Key_2 r_ref09_Key_3 r_ref09_Key_4
theorem c_ref09_Key_eq : lowF Tryz.prog (fun _ _ => 1) 25 = some c_ref09_Key.raw := by kernel_rfl

end Go.Proofs.YtffnflplocbpiaaGreatDoor.Av
