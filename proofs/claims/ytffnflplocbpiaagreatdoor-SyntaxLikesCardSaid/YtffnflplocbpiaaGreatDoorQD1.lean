/- Bodies of functions, lowered: printed by a program (wip/tools/lower.py); each is held against the program by the kernel. -/
import Derived.Test.YtffnflplocbpiaaGreatDoorQP4
import Derived.Test.YtffnflplocbpiaaGreatDoorRows
import Derived.KernelRfl
import Derived.Test.YtffnflplocbpiaaGreatDoorQO1
import Derived.Test.YtffnflplocbpiaaGreatDoorQShelfP
import Derived.Laws.RangeAny
import Derived.Laws.RangeString
import Derived.Test.YtffnflplocbpiaaGreatDoorQP5
set_option maxRecDepth 100000
set_option linter.unusedSimpArgs false
set_option linter.unusedVariables false
namespace Go.Proofs.YtffnflplocbpiaaGreatDoor.Av
open Go

/-! castellan/dn.Type -/
def r_dn_Type_0 : List SOp :=
   [.op ⟨(some 2), (.mv (.av (.bool false))), none⟩]
def r_dn_Type_1 : List SOp :=
   [.op ⟨(some 5), (.mv (.tmp 0)), none⟩,
    .op ⟨(some 6), (.bin .eql (.tmp 5) (.av (.str []))), none⟩,
    .op ⟨(some 7), (.mv (.tmp 6)), none⟩,
    .grp none 7 false
      [.op ⟨(some 8), (.mv (.tmp 0)), (some (7, false))⟩,
      .op ⟨(some 9), (.len true (.tmp 8)), (some (7, false))⟩,
      .op ⟨(some 10), (.bin .gtr (.tmp 9) (.av (.int .i64 32))), (some (7, false))⟩]
      11 (.tmp 10),
    .op ⟨(some 12), (.mv (.tmp 11)), none⟩,
    .grp none 12 false
      [.op ⟨(some 13), (.mv (.tmp 0)), (some (12, false))⟩,
      .op ⟨(some 14), (.idxS (.tmp 13) (.av (.int .i64 0))), (some (12, false))⟩,
      .op ⟨(some 15), (.conv .i32 (.tmp 14)), (some (12, false))⟩,
      .op ⟨(some 16), (.call 87 [(.tmp 15)]), (some (12, false))⟩,
      .op ⟨(some 17), (.un .not (.tmp 16)), (some (12, false))⟩]
      18 (.tmp 17)]
def r_dn_Type_2 : List SOp :=
   [.op ⟨(some 2), (.mv (.av (.bool false))), none⟩]
def r_dn_Type_3 : List SOp :=
   [.op ⟨(some 19), (.mv (.tmp 0)), none⟩,
    .op ⟨(some 20), (.rangeS (.tmp 19)), none⟩]
def r_dn_Type_4 : List SOp :=
   [.op ⟨(some 21), (.nextS (.tmp 20)), none⟩,
    .op ⟨(some 22), (.extract (.tmp 21) 0), none⟩]
def r_dn_Type_5 : List SOp :=
   [.op ⟨(some 23), (.extract (.tmp 21) 2), none⟩,
    .op ⟨(some 4), (.mv (.tmp 23)), none⟩]
def r_dn_Type_6 : List SOp :=
   [.op ⟨(some 24), (.mv (.tmp 4)), none⟩,
    .op ⟨(some 25), (.call 87 [(.tmp 24)]), none⟩,
    .op ⟨(some 26), (.un .not (.tmp 25)), none⟩,
    .op ⟨(some 27), (.mv (.tmp 26)), none⟩,
    .grp none 27 true
      [.op ⟨(some 28), (.mv (.tmp 4)), (some (27, true))⟩,
      .op ⟨(some 29), (.bin .lss (.tmp 28) (.av (.int .i32 48))), (some (27, true))⟩,
      .op ⟨(some 30), (.mv (.tmp 29)), (some (27, true))⟩,
      .grp (some (27, true)) 30 false
        [.op ⟨(some 31), (.mv (.tmp 4)), (some (30, false))⟩,
        .op ⟨(some 32), (.bin .gtr (.tmp 31) (.av (.int .i32 57))), (some (30, false))⟩]
        33 (.tmp 32)]
      34 (.tmp 33),
    .op ⟨(some 35), (.mv (.tmp 34)), none⟩,
    .grp none 35 true
      [.op ⟨(some 36), (.mv (.tmp 4)), (some (35, true))⟩,
      .op ⟨(some 37), (.bin .neq (.tmp 36) (.av (.int .i32 45))), (some (35, true))⟩]
      38 (.tmp 37)]
def r_dn_Type_7 : List SOp :=
   [.op ⟨(some 2), (.mv (.av (.bool false))), none⟩]
def r_dn_Type_8 : List SOp :=
   [.op ⟨(some 2), (.mv (.av (.bool true))), none⟩]
def c_dn_Type : LFun := ⟨39, (.seq (.sreg r_dn_Type_0 [])
  (.seq (.seq (.sreg r_dn_Type_1 [true, false, false, false, false, false])
  (.cond (.tmp 18) (.seq (.sreg r_dn_Type_2 [])
  .ret)
  .skip))
  (.seq (.seq (.sreg r_dn_Type_3 [true, false])
  (.block 0 (.loop (.seq (.sreg r_dn_Type_4 [])
  (.seq (.cond (.tmp 22) .skip
  (.exit 0))
  (.block 1 (.seq (.sreg r_dn_Type_5 [true, false])
  (.seq (.sreg r_dn_Type_6 [true, false, false, false, false, false, false])
  (.cond (.tmp 38) (.seq (.sreg r_dn_Type_7 [])
  .ret)
  .skip)))))))))
  (.seq (.sreg r_dn_Type_8 [])
  .ret)))), [(.tmp 2)]⟩
attribute [push_cast] r_dn_Type_0 r_dn_Type_1 r_dn_Type_2 r_dn_Type_3 r_dn_Type_4 r_dn_Type_5 r_dn_Type_6 r_dn_Type_7 r_dn_Type_8
theorem c_dn_Type_eq : lowF Tryz.prog (fun _ _ => 1) 60 = some c_dn_Type.raw := by kernel_rfl

/-! castellan/dn.letter -/
def r_dn_letter_0 : List SOp :=
   [.op ⟨(some 2), (.mv (.av (.bool false))), none⟩]
def r_dn_letter_1 : List SOp :=
   [.op ⟨(some 3), (.mv (.tmp 0)), none⟩,
    .op ⟨(some 4), (.bin .geq (.tmp 3) (.av (.int .i32 97))), none⟩,
    .op ⟨(some 5), (.mv (.tmp 4)), none⟩,
    .grp none 5 true
      [.op ⟨(some 6), (.mv (.tmp 0)), (some (5, true))⟩,
      .op ⟨(some 7), (.bin .leq (.tmp 6) (.av (.int .i32 122))), (some (5, true))⟩]
      8 (.tmp 7),
    .op ⟨(some 9), (.mv (.tmp 8)), none⟩,
    .grp none 9 false
      [.op ⟨(some 10), (.mv (.tmp 0)), (some (9, false))⟩,
      .op ⟨(some 11), (.bin .geq (.tmp 10) (.av (.int .i32 65))), (some (9, false))⟩,
      .op ⟨(some 12), (.mv (.tmp 11)), (some (9, false))⟩,
      .grp (some (9, false)) 12 true
        [.op ⟨(some 13), (.mv (.tmp 0)), (some (12, true))⟩,
        .op ⟨(some 14), (.bin .leq (.tmp 13) (.av (.int .i32 90))), (some (12, true))⟩]
        15 (.tmp 14)]
      16 (.tmp 15),
    .op ⟨(some 2), (.mv (.tmp 16)), none⟩]
def c_dn_letter : LFun := ⟨17, (.seq (.sreg r_dn_letter_0 [])
  (.seq (.sreg r_dn_letter_1 [true, false, false, false, false, false, false])
  .ret)), [(.tmp 2)]⟩
attribute [push_cast] r_dn_letter_0 r_dn_letter_1
theorem c_dn_letter_eq : lowF Tryz.prog (fun _ _ => 1) 87 = some c_dn_letter.raw := by kernel_rfl

/-! castellan/dn.has -/
def r_dn_has_0 : List SOp :=
   [.op ⟨(some 3), (.box (.tmp 1)), none⟩,
    .op ⟨(some 4), (.mv (.av (.bool false))), none⟩]
def r_dn_has_1 : List SOp :=
   [.op ⟨(some 5), (.mv (.tmp 0)), none⟩,
    .op ⟨(some 6), (.mkfn 89 [(.tmp 3)]), none⟩,
    .op ⟨(some 7), (.call 88 [(.tmp 5), (.tmp 6)]), none⟩,
    .op ⟨(some 4), (.mv (.tmp 7)), none⟩]
def c_dn_has : LFun := ⟨8, (.seq (.sreg r_dn_has_0 [])
  (.seq (.sreg r_dn_has_1 [true, false, false, false])
  .ret)), [(.tmp 4)]⟩
attribute [push_cast] r_dn_has_0 r_dn_has_1
theorem c_dn_has_eq : lowF Tryz.prog (fun _ _ => 1) 61 = some c_dn_has.raw := by kernel_rfl

/-! castellan/dn.has$1 -/
def r_dn_has_1_0 : List SOp :=
   [.op ⟨(some 2), (.box (.tmp 0)), none⟩,
    .op ⟨(some 3), (.mv (.av (.bool false))), none⟩]
def r_dn_has_1_1 : List SOp :=
   [.op ⟨(some 4), (.faddr 0 (.tmp 2)), none⟩,
    .op ⟨(some 5), (.load false 1 (.tmp 4)), none⟩,
    .op ⟨(some 6), (.call 31 [(.tmp 5)]), none⟩,
    .op ⟨(some 7), (.load false 1 (.tmp 1)), none⟩,
    .op ⟨(some 8), (.call 31 [(.tmp 7)]), none⟩,
    .op ⟨(some 9), (.bin .eql (.tmp 6) (.tmp 8)), none⟩,
    .op ⟨(some 3), (.mv (.tmp 9)), none⟩]
def c_dn_has_1 : LFun := ⟨10, (.seq (.sreg r_dn_has_1_0 [])
  (.seq (.sdreg r_dn_has_1_1 [.pure, (.read 0 0), (.read 0 0), (.read 0 0)] [true, false, false, false, false, false, false])
  .ret)), [(.tmp 3)]⟩
attribute [push_cast] r_dn_has_1_0 r_dn_has_1_1
theorem c_dn_has_1_eq : lowF Tryz.prog (fun _ _ => 1) 89 = some c_dn_has_1.raw := by kernel_rfl

/-! castellan/dn.value -/
def r_dn_value_0 : List SOp :=
   [.op ⟨(some 2), (.mv (.av (.str []))), none⟩,
    .op ⟨(some 3), (.mv (.av (.str []))), none⟩,
    .op ⟨(some 4), (.mv (.av (.bool false))), none⟩]
def r_dn_value_1 : List SOp :=
   [.op ⟨(some 5), (.mv (.av (.sl [] 0 (some 0)))), none⟩]
def r_dn_value_2 : List SOp :=
   [.op ⟨(some 6), (.mv (.av (.bool false))), none⟩]
def r_dn_value_3 : List SOp :=
   [.op ⟨(some 7), (.mv (.av (.int .i64 0))), none⟩]
def r_dn_value_4 : List SOp :=
   [.op ⟨(some 11), (.mv (.tmp 7)), none⟩,
    .op ⟨(some 12), (.mv (.tmp 0)), none⟩,
    .op ⟨(some 13), (.len true (.tmp 12)), none⟩,
    .op ⟨(some 14), (.bin .lss (.tmp 11) (.tmp 13)), none⟩,
    .op ⟨(some 15), (.mv (.tmp 14)), none⟩,
    .grp none 15 true
      [.op ⟨(some 16), (.mv (.tmp 0)), (some (15, true))⟩,
      .op ⟨(some 17), (.mv (.tmp 7)), (some (15, true))⟩,
      .op ⟨(some 18), (.idxS (.tmp 16) (.tmp 17)), (some (15, true))⟩,
      .op ⟨(some 19), (.bin .neq (.tmp 18) (.av (.int .u8 44))), (some (15, true))⟩]
      20 (.tmp 19),
    .op ⟨(some 21), (.mv (.tmp 20)), none⟩,
    .grp none 21 true
      [.op ⟨(some 22), (.mv (.tmp 0)), (some (21, true))⟩,
      .op ⟨(some 23), (.mv (.tmp 7)), (some (21, true))⟩,
      .op ⟨(some 24), (.idxS (.tmp 22) (.tmp 23)), (some (21, true))⟩,
      .op ⟨(some 25), (.bin .neq (.tmp 24) (.av (.int .u8 43))), (some (21, true))⟩]
      26 (.tmp 25)]
def r_dn_value_5 : List SOp :=
   [.op ⟨(some 27), (.mv (.tmp 0)), none⟩,
    .op ⟨(some 28), (.mv (.tmp 7)), none⟩,
    .op ⟨(some 29), (.idxS (.tmp 27) (.tmp 28)), none⟩,
    .op ⟨(some 8), (.mv (.tmp 29)), none⟩]
def r_dn_value_6 : List SOp :=
   [.op ⟨(some 30), (.mv (.tmp 8)), none⟩,
    .op ⟨(some 31), (.bin .eql (.tmp 30) (.av (.int .u8 32))), none⟩,
    .op ⟨(some 6), (.mv (.tmp 31)), none⟩]
def r_dn_value_7 : List SOp :=
   [.op ⟨(some 33), (.mv (.tmp 8)), none⟩,
    .op ⟨(some 34), (.bin .neq (.tmp 33) (.av (.int .u8 92))), none⟩,
    .op ⟨(some 32), (.mv (.tmp 34)), none⟩]
def r_dn_value_8 : List SOp :=
   [.op ⟨(some 35), (.mv (.tmp 8)), none⟩,
    .op ⟨(some 36), (.bin .eql (.tmp 35) (.av (.int .u8 0))), none⟩,
    .op ⟨(some 37), (.mv (.tmp 36)), none⟩,
    .grp none 37 false
      [.op ⟨(some 38), (.mv (.tmp 8)), (some (37, false))⟩,
      .op ⟨(some 39), (.call 90 [(.av (.str [34, 59, 60, 62])), (.tmp 38)]), (some (37, false))⟩,
      .op ⟨(some 40), (.bin .geq (.tmp 39) (.av (.int .i64 0))), (some (37, false))⟩]
      41 (.tmp 40),
    .op ⟨(some 42), (.mv (.tmp 41)), none⟩,
    .grp none 42 false
      [.op ⟨(some 43), (.mv (.tmp 5)), (some (42, false))⟩,
      .op ⟨(some 44), (.len false (.tmp 43)), (some (42, false))⟩,
      .op ⟨(some 45), (.bin .eql (.tmp 44) (.av (.int .i64 0))), (some (42, false))⟩,
      .op ⟨(some 46), (.mv (.tmp 45)), (some (42, false))⟩,
      .grp (some (42, false)) 46 true
        [.op ⟨(some 47), (.mv (.tmp 8)), (some (46, true))⟩,
        .op ⟨(some 48), (.bin .eql (.tmp 47) (.av (.int .u8 32))), (some (46, true))⟩,
        .op ⟨(some 49), (.mv (.tmp 48)), (some (46, true))⟩,
        .grp (some (46, true)) 49 false
          [.op ⟨(some 50), (.mv (.tmp 8)), (some (49, false))⟩,
          .op ⟨(some 51), (.bin .eql (.tmp 50) (.av (.int .u8 35))), (some (49, false))⟩]
          52 (.tmp 51)]
        53 (.tmp 52)]
      54 (.tmp 53)]
def r_dn_value_9 : List SOp :=
   [.op ⟨(some 2), (.mv (.av (.str []))), none⟩,
    .op ⟨(some 3), (.mv (.av (.str []))), none⟩,
    .op ⟨(some 4), (.mv (.av (.bool false))), none⟩]
def r_dn_value_10 : List SOp :=
   [.op ⟨(some 56), (.mv (.tmp 7)), none⟩,
    .op ⟨(some 57), (.bin .add (.tmp 56) (.av (.int .i64 1))), none⟩,
    .op ⟨(some 58), (.mv (.tmp 0)), none⟩,
    .op ⟨(some 59), (.len true (.tmp 58)), none⟩,
    .op ⟨(some 60), (.bin .lss (.tmp 57) (.tmp 59)), none⟩,
    .op ⟨(some 61), (.mv (.tmp 60)), none⟩,
    .grp none 61 true
      [.op ⟨(some 62), (.mv (.tmp 0)), (some (61, true))⟩,
      .op ⟨(some 63), (.mv (.tmp 7)), (some (61, true))⟩,
      .op ⟨(some 64), (.bin .add (.tmp 63) (.av (.int .i64 1))), (some (61, true))⟩,
      .op ⟨(some 65), (.idxS (.tmp 62) (.tmp 64)), (some (61, true))⟩,
      .op ⟨(some 66), (.call 90 [(.av (.str [34, 43, 44, 59, 60, 62, 92, 32, 35, 61])), (.tmp 65)]), (some (61, true))⟩,
      .op ⟨(some 67), (.bin .geq (.tmp 66) (.av (.int .i64 0))), (some (61, true))⟩]
      68 (.tmp 67),
    .op ⟨(some 55), (.mv (.tmp 68)), none⟩]
def r_dn_value_11 : List SOp :=
   [.op ⟨(some 69), (.mv (.tmp 7)), none⟩,
    .op ⟨(some 70), (.bin .add (.tmp 69) (.av (.int .i64 1))), none⟩,
    .op ⟨(some 7), (.mv (.tmp 70)), none⟩]
def r_dn_value_12 : List SOp :=
   [.op ⟨(some 71), (.mv (.tmp 0)), none⟩,
    .op ⟨(some 72), (.mv (.tmp 7)), none⟩,
    .op ⟨(some 73), (.idxS (.tmp 71) (.tmp 72)), none⟩,
    .op ⟨(some 8), (.mv (.tmp 73)), none⟩]
def r_dn_value_13 : List SOp :=
   [.op ⟨(some 75), (.mv (.tmp 7)), none⟩,
    .op ⟨(some 76), (.bin .add (.tmp 75) (.av (.int .i64 2))), none⟩,
    .op ⟨(some 77), (.mv (.tmp 0)), none⟩,
    .op ⟨(some 78), (.len true (.tmp 77)), none⟩,
    .op ⟨(some 79), (.bin .lss (.tmp 76) (.tmp 78)), none⟩,
    .op ⟨(some 74), (.mv (.tmp 79)), none⟩]
def r_dn_value_14 : List SOp :=
   [.op ⟨(some 81), (.mv (.tmp 0)), none⟩,
    .op ⟨(some 82), (.mv (.tmp 7)), none⟩,
    .op ⟨(some 83), (.bin .add (.tmp 82) (.av (.int .i64 1))), none⟩,
    .op ⟨(some 84), (.mv (.tmp 7)), none⟩,
    .op ⟨(some 85), (.bin .add (.tmp 84) (.av (.int .i64 3))), none⟩,
    .op ⟨(some 86), (.slS (.tmp 81) (some (.tmp 83)) (some (.tmp 85))), none⟩,
    .op ⟨(some 87), (.call 91 [(.tmp 86)]), none⟩,
    .op ⟨(some 80), (.mv (.tmp 87)), none⟩,
    .op ⟨(some 88), (.extract (.tmp 80) 0), none⟩,
    .op ⟨(some 89), (.extract (.tmp 80) 1), none⟩,
    .op ⟨(some 9), (.mv (.tmp 88)), none⟩,
    .op ⟨(some 10), (.mv (.tmp 89)), none⟩]
def r_dn_value_15 : List SOp :=
   [.op ⟨(some 90), (.mv (.tmp 10)), none⟩,
    .op ⟨(some 91), (.un .not (.tmp 90)), none⟩]
def r_dn_value_16 : List SOp :=
   [.op ⟨(some 2), (.mv (.av (.str []))), none⟩,
    .op ⟨(some 3), (.mv (.av (.str []))), none⟩,
    .op ⟨(some 4), (.mv (.av (.bool false))), none⟩]
def r_dn_value_17 : List SOp :=
   [.op ⟨(some 92), (.mv (.tmp 9)), none⟩,
    .op ⟨(some 93), (.idxS (.tmp 92) (.av (.int .i64 0))), none⟩,
    .op ⟨(some 8), (.mv (.tmp 93)), none⟩]
def r_dn_value_18 : List SOp :=
   [.op ⟨(some 94), (.mv (.tmp 7)), none⟩,
    .op ⟨(some 95), (.bin .add (.tmp 94) (.av (.int .i64 2))), none⟩,
    .op ⟨(some 7), (.mv (.tmp 95)), none⟩]
def r_dn_value_19 : List SOp :=
   [.op ⟨(some 2), (.mv (.av (.str []))), none⟩,
    .op ⟨(some 3), (.mv (.av (.str []))), none⟩,
    .op ⟨(some 4), (.mv (.av (.bool false))), none⟩]
def r_dn_value_20 : List SOp :=
   [.op ⟨(some 96), (.mv (.tmp 5)), none⟩,
    .op ⟨(some 97), (.mv (.tmp 8)), none⟩,
    .op ⟨(some 98), (.bslice false 1 1 [(.int .u8 0)] [(0, (1, (.tmp 97)))]), none⟩,
    .op ⟨(some 99), (.app 1 1 1 [(.int .u8 0)] (.tmp 96) (.tmp 98)), none⟩,
    .op ⟨(some 5), (.mv (.tmp 99)), none⟩]
def r_dn_value_21 : List SOp :=
   [.op ⟨(some 100), (.mv (.tmp 7)), none⟩,
    .op ⟨(some 101), (.bin .add (.tmp 100) (.av (.int .i64 1))), none⟩,
    .op ⟨(some 7), (.mv (.tmp 101)), none⟩]
def r_dn_value_22 : List SOp :=
   [.op ⟨(some 102), (.mv (.tmp 5)), none⟩,
    .op ⟨(some 103), (.b2s (.tmp 102)), none⟩,
    .op ⟨(some 104), (.mv (.tmp 0)), none⟩,
    .op ⟨(some 105), (.mv (.tmp 7)), none⟩,
    .op ⟨(some 106), (.slS (.tmp 104) (some (.tmp 105)) none), none⟩,
    .op ⟨(some 107), (.mv (.tmp 6)), none⟩,
    .op ⟨(some 108), (.un .not (.tmp 107)), none⟩,
    .op ⟨(some 2), (.mv (.tmp 103)), none⟩,
    .op ⟨(some 3), (.mv (.tmp 106)), none⟩,
    .op ⟨(some 4), (.mv (.tmp 108)), none⟩]
def c_dn_value : LFun := ⟨109, (.seq (.sreg r_dn_value_0 [])
  (.seq (.sreg r_dn_value_1 [])
  (.seq (.sreg r_dn_value_2 [])
  (.seq (.sreg r_dn_value_3 [])
  (.seq (.block 0 (.loop (.seq (.seq (.sreg r_dn_value_4 [true, false, false, false, false, false, false, false])
  (.cond (.tmp 26) .skip
  (.exit 0)))
  (.block 1 (.seq (.sreg r_dn_value_5 [true, false, false, false])
  (.seq (.sreg r_dn_value_6 [true, false, false])
  (.seq (.block 2 (.seq (.sreg r_dn_value_7 [true, false, false])
  (.cond (.tmp 32) (.seq (.sreg r_dn_value_8 [true, false, false, false, false, false])
  (.cond (.tmp 54) (.seq (.sreg r_dn_value_9 [])
  .ret)
  .skip))
  (.seq (.sreg r_dn_value_10 [true, false, false, false, false, false, false, false])
  (.cond (.tmp 55) (.seq (.sreg r_dn_value_11 [true, false, false])
  (.sreg r_dn_value_12 [true, false, false, false]))
  (.seq (.sreg r_dn_value_13 [true, false, false, false, false, false])
  (.cond (.tmp 74) (.seq (.sreg r_dn_value_14 [true, true, false, false, false, false, false, false, false, false, false, false])
  (.seq (.seq (.sreg r_dn_value_15 [true, false])
  (.cond (.tmp 91) (.seq (.sreg r_dn_value_16 [])
  .ret)
  .skip))
  (.seq (.sreg r_dn_value_17 [true, false, false])
  (.sreg r_dn_value_18 [true, false, false]))))
  (.seq (.sreg r_dn_value_19 [])
  .ret))))))))
  (.seq (.sreg r_dn_value_20 [true, false, false, false, false])
  (.sreg r_dn_value_21 [true, false, false])))))))))
  (.seq (.sdreg r_dn_value_22 [.pure, (.read 0 0), .pure, .pure, (.read 0 0), .pure, .pure, .pure, .pure] [true, true, true, false, false, false, false, false, false, false])
  .ret)))))), [(.tmp 2), (.tmp 3), (.tmp 4)]⟩
attribute [push_cast] r_dn_value_0 r_dn_value_1 r_dn_value_2 r_dn_value_3 r_dn_value_4 r_dn_value_5 r_dn_value_6 r_dn_value_7 r_dn_value_8 r_dn_value_9 r_dn_value_10 r_dn_value_11 r_dn_value_12 r_dn_value_13 r_dn_value_14 r_dn_value_15 r_dn_value_16 r_dn_value_17 r_dn_value_18 r_dn_value_19 r_dn_value_20 r_dn_value_21 r_dn_value_22
theorem c_dn_value_eq : lowF Tryz.prog (fun _ _ => 1) 62 = some c_dn_value.raw := by kernel_rfl

/-! castellan/dn.Parse -/
def r_dn_Parse_0 : List SOp :=
   [.op ⟨(some 2), (.mv (.av (.sl [] 0 (some 0)))), none⟩,
    .op ⟨(some 3), (.mv (.av (.int .i64 0))), none⟩]
def r_dn_Parse_1 : List SOp :=
   [.op ⟨(some 10), (.mv (.tmp 0)), none⟩,
    .op ⟨(some 11), (.len true (.tmp 10)), none⟩,
    .op ⟨(some 12), (.bin .gtr (.tmp 11) (.av (.int .i64 4096))), none⟩]
def r_dn_Parse_2 : List SOp :=
   [.op ⟨(some 2), (.mv (.av (.sl [] 0 (some 0)))), none⟩,
    .op ⟨(some 3), (.mv (.av (.int .i64 5))), none⟩]
def r_dn_Parse_3 : List SOp :=
   [.op ⟨(some 13), (.mv (.tmp 0)), none⟩,
    .op ⟨(some 14), (.bin .eql (.tmp 13) (.av (.str []))), none⟩]
def r_dn_Parse_4 : List SOp :=
   [.op ⟨(some 2), (.mv (.av (.sl [] 0 (some 0)))), none⟩,
    .op ⟨(some 3), (.mv (.av (.int .i64 0))), none⟩]
def r_dn_Parse_5 : List SOp :=
   [.op ⟨(some 4), (.mv (.av (.sl [] 0 (some 0)))), none⟩]
def r_dn_Parse_6 : List SOp :=
   [.op ⟨(some 5), (.mv (.av (.sl [] 0 (some 0)))), none⟩]
def r_dn_Parse_7 : List SOp :=
   [.op ⟨(some 15), (.mv (.tmp 4)), none⟩,
    .op ⟨(some 16), (.len false (.tmp 15)), none⟩,
    .op ⟨(some 17), (.bin .eql (.tmp 16) (.av (.int .i64 32))), none⟩,
    .op ⟨(some 18), (.mv (.tmp 17)), none⟩,
    .grp none 18 false
      [.op ⟨(some 19), (.mv (.tmp 5)), (some (18, false))⟩,
      .op ⟨(some 20), (.len false (.tmp 19)), (some (18, false))⟩,
      .op ⟨(some 21), (.bin .eql (.tmp 20) (.av (.int .i64 8))), (some (18, false))⟩]
      22 (.tmp 21)]
def r_dn_Parse_8 : List SOp :=
   [.op ⟨(some 2), (.mv (.av (.sl [] 0 (some 0)))), none⟩,
    .op ⟨(some 3), (.mv (.av (.int .i64 9))), none⟩]
def r_dn_Parse_9 : List SOp :=
   [.op ⟨(some 24), (.mv (.tmp 0)), none⟩,
    .op ⟨(some 25), (.call 59 [(.tmp 24), (.av (.str [61]))]), none⟩,
    .op ⟨(some 23), (.mv (.tmp 25)), none⟩,
    .op ⟨(some 26), (.extract (.tmp 23) 0), none⟩,
    .op ⟨(some 27), (.extract (.tmp 23) 1), none⟩,
    .op ⟨(some 28), (.extract (.tmp 23) 2), none⟩,
    .op ⟨(some 6), (.mv (.tmp 26)), none⟩,
    .op ⟨(some 7), (.mv (.tmp 27)), none⟩,
    .op ⟨(some 8), (.mv (.tmp 28)), none⟩]
def r_dn_Parse_10 : List SOp :=
   [.op ⟨(some 29), (.mv (.tmp 8)), none⟩,
    .op ⟨(some 30), (.un .not (.tmp 29)), none⟩,
    .op ⟨(some 31), (.mv (.tmp 30)), none⟩,
    .grp none 31 false
      [.op ⟨(some 32), (.mv (.tmp 6)), (some (31, false))⟩,
      .op ⟨(some 33), (.call 60 [(.tmp 32)]), (some (31, false))⟩,
      .op ⟨(some 34), (.un .not (.tmp 33)), (some (31, false))⟩]
      35 (.tmp 34)]
def r_dn_Parse_11 : List SOp :=
   [.op ⟨(some 2), (.mv (.av (.sl [] 0 (some 0)))), none⟩,
    .op ⟨(some 3), (.mv (.av (.int .i64 4))), none⟩]
def r_dn_Parse_12 : List SOp :=
   [.op ⟨(some 36), (.mv (.tmp 5)), none⟩,
    .op ⟨(some 37), (.mv (.tmp 6)), none⟩,
    .op ⟨(some 38), (.call 61 [(.tmp 36), (.tmp 37)]), none⟩]
def r_dn_Parse_13 : List SOp :=
   [.op ⟨(some 2), (.mv (.av (.sl [] 0 (some 0)))), none⟩,
    .op ⟨(some 3), (.mv (.av (.int .i64 21))), none⟩]
def r_dn_Parse_14 : List SOp :=
   [.op ⟨(some 40), (.mv (.tmp 7)), none⟩,
    .op ⟨(some 41), (.call 62 [(.tmp 40)]), none⟩,
    .op ⟨(some 39), (.mv (.tmp 41)), none⟩,
    .op ⟨(some 42), (.extract (.tmp 39) 0), none⟩,
    .op ⟨(some 43), (.extract (.tmp 39) 1), none⟩,
    .op ⟨(some 44), (.extract (.tmp 39) 2), none⟩,
    .op ⟨(some 9), (.mv (.tmp 42)), none⟩,
    .op ⟨(some 7), (.mv (.tmp 43)), none⟩,
    .op ⟨(some 8), (.mv (.tmp 44)), none⟩]
def r_dn_Parse_15 : List SOp :=
   [.op ⟨(some 45), (.mv (.tmp 8)), none⟩,
    .op ⟨(some 46), (.un .not (.tmp 45)), none⟩]
def r_dn_Parse_16 : List SOp :=
   [.op ⟨(some 2), (.mv (.av (.sl [] 0 (some 0)))), none⟩,
    .op ⟨(some 3), (.mv (.av (.int .i64 4))), none⟩]
def r_dn_Parse_17 : List SOp :=
   [.op ⟨(some 47), (.mv (.tmp 5)), none⟩,
    .op ⟨(some 48), (.mv (.tmp 6)), none⟩,
    .op ⟨(some 49), (.mv (.tmp 9)), none⟩,
    .op ⟨(some 50), (.build [(.str []), (.str [])] [(0, (1, (.tmp 48))), (1, (1, (.tmp 49)))]), none⟩,
    .op ⟨(some 51), (.bslice false 2 1 [(.str []), (.str [])] [(0, (2, (.tmp 50)))]), none⟩,
    .op ⟨(some 52), (.app 1 2 32 [(.str []), (.str [])] (.tmp 47) (.tmp 51)), none⟩,
    .op ⟨(some 5), (.mv (.tmp 52)), none⟩]
def r_dn_Parse_18 : List SOp :=
   [.op ⟨(some 53), (.mv (.tmp 7)), none⟩,
    .op ⟨(some 54), (.bin .eql (.tmp 53) (.av (.str []))), none⟩]
def r_dn_Parse_19 : List SOp :=
   [.op ⟨(some 55), (.mv (.tmp 4)), none⟩,
    .op ⟨(some 56), (.mv (.tmp 5)), none⟩,
    .op ⟨(some 57), (.bslice false 1 1 [(.sl [] 0 (some 0))] [(0, (1, (.tmp 56)))]), none⟩,
    .op ⟨(some 58), (.app 1 1 24 [(.sl [] 0 (some 0))] (.tmp 55) (.tmp 57)), none⟩,
    .op ⟨(some 2), (.mv (.tmp 58)), none⟩,
    .op ⟨(some 3), (.mv (.av (.int .i64 0))), none⟩]
def r_dn_Parse_20 : List SOp :=
   [.op ⟨(some 59), (.mv (.tmp 7)), none⟩,
    .op ⟨(some 60), (.idxS (.tmp 59) (.av (.int .i64 0))), none⟩,
    .op ⟨(some 61), (.bin .eql (.tmp 60) (.av (.int .u8 44))), none⟩]
def r_dn_Parse_21 : List SOp :=
   [.op ⟨(some 62), (.mv (.tmp 4)), none⟩,
    .op ⟨(some 63), (.mv (.tmp 5)), none⟩,
    .op ⟨(some 64), (.bslice false 1 1 [(.sl [] 0 (some 0))] [(0, (1, (.tmp 63)))]), none⟩,
    .op ⟨(some 65), (.app 1 1 24 [(.sl [] 0 (some 0))] (.tmp 62) (.tmp 64)), none⟩,
    .op ⟨(some 4), (.mv (.tmp 65)), none⟩,
    .op ⟨(some 5), (.mv (.av (.sl [] 0 (some 0)))), none⟩]
def r_dn_Parse_22 : List SOp :=
   [.op ⟨(some 66), (.mv (.tmp 7)), none⟩,
    .op ⟨(some 67), (.slS (.tmp 66) (some (.av (.int .i64 1))) none), none⟩,
    .op ⟨(some 0), (.mv (.tmp 67)), none⟩]
def c_dn_Parse : LFun := ⟨68, (.seq (.sreg r_dn_Parse_0 [])
  (.seq (.seq (.sreg r_dn_Parse_1 [true, false, false])
  (.cond (.tmp 12) (.seq (.sreg r_dn_Parse_2 [])
  .ret)
  .skip))
  (.seq (.seq (.sreg r_dn_Parse_3 [true, false])
  (.cond (.tmp 14) (.seq (.sreg r_dn_Parse_4 [])
  .ret)
  .skip))
  (.seq (.sreg r_dn_Parse_5 [])
  (.seq (.sreg r_dn_Parse_6 [])
  (.block 0 (.loop (.block 1 (.seq (.seq (.sreg r_dn_Parse_7 [true, false, false, false, false])
  (.cond (.tmp 22) (.seq (.sreg r_dn_Parse_8 [])
  .ret)
  .skip))
  (.seq (.sreg r_dn_Parse_9 [true, true, true, false, false, false, false, false, false])
  (.seq (.seq (.sreg r_dn_Parse_10 [true, false, false, false])
  (.cond (.tmp 35) (.seq (.sreg r_dn_Parse_11 [])
  .ret)
  .skip))
  (.seq (.seq (.sreg r_dn_Parse_12 [true, false, false])
  (.cond (.tmp 38) (.seq (.sreg r_dn_Parse_13 [])
  .ret)
  .skip))
  (.seq (.sreg r_dn_Parse_14 [true, true, true, false, false, false, false, false, false])
  (.seq (.seq (.sreg r_dn_Parse_15 [true, false])
  (.cond (.tmp 46) (.seq (.sreg r_dn_Parse_16 [])
  .ret)
  .skip))
  (.seq (.sreg r_dn_Parse_17 [true, false, false, false, false, false, false])
  (.seq (.seq (.sreg r_dn_Parse_18 [true, false])
  (.cond (.tmp 54) (.seq (.sreg r_dn_Parse_19 [true, true, false, false, false, false])
  .ret)
  .skip))
  (.seq (.seq (.sreg r_dn_Parse_20 [true, false, false])
  (.cond (.tmp 61) (.sreg r_dn_Parse_21 [true, true, false, false, false, false])
  .skip))
  (.sreg r_dn_Parse_22 [true, false, false])))))))))))))))))), [(.tmp 2), (.tmp 3)]⟩
attribute [push_cast] r_dn_Parse_0 r_dn_Parse_1 r_dn_Parse_2 r_dn_Parse_3 r_dn_Parse_4 r_dn_Parse_5 r_dn_Parse_6 r_dn_Parse_7 r_dn_Parse_8 r_dn_Parse_9 r_dn_Parse_10 r_dn_Parse_11 r_dn_Parse_12 r_dn_Parse_13 r_dn_Parse_14 r_dn_Parse_15 r_dn_Parse_16 r_dn_Parse_17 r_dn_Parse_18 r_dn_Parse_19 r_dn_Parse_20 r_dn_Parse_21 r_dn_Parse_22
theorem c_dn_Parse_eq : lowF Tryz.prog (fun _ _ => 1) 42 = some c_dn_Parse.raw := by kernel_rfl

/-! castellan/dn.written -/
def r_dn_written_0 : List SOp :=
   [.op ⟨(some 2), (.mv (.av (.str []))), none⟩]
def r_dn_written_1 : List SOp :=
   [.op ⟨(some 3), (.mv (.av (.sl [] 0 (some 0)))), none⟩]
def r_dn_written_2 : List SOp :=
   [.op ⟨(some 7), (.mv (.tmp 0)), none⟩,
    .op ⟨(some 8), (.s2b (.tmp 7)), none⟩,
    .op ⟨(some 9), (.len false (.tmp 8)), none⟩,
    .op ⟨(some 10), (.mv (.av (.int .i64 0))), none⟩]
def r_dn_written_3 : List SOp :=
   [.op ⟨(some 11), (.bin .lss (.tmp 10) (.tmp 9)), none⟩]
def r_dn_written_4 : List SOp :=
   [.op ⟨(some 12), (.mv (.tmp 10)), none⟩,
    .op ⟨(some 13), (.iaddr 1 (.tmp 8) (.tmp 10)), none⟩,
    .op ⟨(some 14), (.load false 1 (.tmp 13)), none⟩,
    .op ⟨(some 4), (.mv (.tmp 12)), none⟩,
    .op ⟨(some 5), (.mv (.tmp 14)), none⟩]
def r_dn_written_5 : List SOp :=
   [.op ⟨(some 15), (.mv (.tmp 4)), none⟩,
    .op ⟨(some 16), (.bin .eql (.tmp 15) (.av (.int .i64 0))), none⟩,
    .op ⟨(some 17), (.mv (.tmp 16)), none⟩,
    .grp none 17 true
      [.op ⟨(some 18), (.mv (.tmp 5)), (some (17, true))⟩,
      .op ⟨(some 19), (.bin .eql (.tmp 18) (.av (.int .u8 32))), (some (17, true))⟩,
      .op ⟨(some 20), (.mv (.tmp 19)), (some (17, true))⟩,
      .grp (some (17, true)) 20 false
        [.op ⟨(some 21), (.mv (.tmp 5)), (some (20, false))⟩,
        .op ⟨(some 22), (.bin .eql (.tmp 21) (.av (.int .u8 35))), (some (20, false))⟩]
        23 (.tmp 22)]
      24 (.tmp 23),
    .op ⟨(some 25), (.mv (.tmp 24)), none⟩,
    .grp none 25 false
      [.op ⟨(some 26), (.mv (.tmp 4)), (some (25, false))⟩,
      .op ⟨(some 27), (.mv (.tmp 0)), (some (25, false))⟩,
      .op ⟨(some 28), (.len true (.tmp 27)), (some (25, false))⟩,
      .op ⟨(some 29), (.bin .sub (.tmp 28) (.av (.int .i64 1))), (some (25, false))⟩,
      .op ⟨(some 30), (.bin .eql (.tmp 26) (.tmp 29)), (some (25, false))⟩,
      .op ⟨(some 31), (.mv (.tmp 30)), (some (25, false))⟩,
      .grp (some (25, false)) 31 true
        [.op ⟨(some 32), (.mv (.tmp 5)), (some (31, true))⟩,
        .op ⟨(some 33), (.bin .eql (.tmp 32) (.av (.int .u8 32))), (some (31, true))⟩]
        34 (.tmp 33)]
      35 (.tmp 34),
    .op ⟨(some 6), (.mv (.tmp 35)), none⟩]
def r_dn_written_6 : List SOp :=
   [.op ⟨(some 37), (.mv (.tmp 5)), none⟩,
    .op ⟨(some 38), (.bin .eql (.tmp 37) (.av (.int .u8 0))), none⟩,
    .op ⟨(some 36), (.mv (.tmp 38)), none⟩]
def r_dn_written_7 : List SOp :=
   [.op ⟨(some 39), (.mv (.tmp 3)), none⟩,
    .op ⟨(some 40), (.app 1 1 1 [(.int .u8 0)] (.tmp 39) (.av (.str [92, 48, 48]))), none⟩,
    .op ⟨(some 3), (.mv (.tmp 40)), none⟩]
def r_dn_written_8 : List SOp :=
   [.op ⟨(some 42), (.mv (.tmp 6)), none⟩,
    .op ⟨(some 43), (.mv (.tmp 42)), none⟩,
    .grp none 43 false
      [.op ⟨(some 44), (.mv (.tmp 5)), (some (43, false))⟩,
      .op ⟨(some 45), (.call 90 [(.av (.str [34, 43, 44, 59, 60, 62, 92])), (.tmp 44)]), (some (43, false))⟩,
      .op ⟨(some 46), (.bin .geq (.tmp 45) (.av (.int .i64 0))), (some (43, false))⟩]
      47 (.tmp 46),
    .op ⟨(some 41), (.mv (.tmp 47)), none⟩]
def r_dn_written_9 : List SOp :=
   [.op ⟨(some 48), (.mv (.tmp 3)), none⟩,
    .op ⟨(some 49), (.bslice false 1 1 [(.int .u8 0)] [(0, (1, (.av (.int .u8 92))))]), none⟩,
    .op ⟨(some 50), (.app 1 1 1 [(.int .u8 0)] (.tmp 48) (.tmp 49)), none⟩,
    .op ⟨(some 3), (.mv (.tmp 50)), none⟩]
def r_dn_written_10 : List SOp :=
   [.op ⟨(some 51), (.mv (.tmp 3)), none⟩,
    .op ⟨(some 52), (.mv (.tmp 5)), none⟩,
    .op ⟨(some 53), (.bslice false 1 1 [(.int .u8 0)] [(0, (1, (.tmp 52)))]), none⟩,
    .op ⟨(some 54), (.app 1 1 1 [(.int .u8 0)] (.tmp 51) (.tmp 53)), none⟩,
    .op ⟨(some 3), (.mv (.tmp 54)), none⟩]
def r_dn_written_11 : List SOp :=
   [.op ⟨(some 55), (.bin .add (.tmp 10) (.av (.int .i64 1))), none⟩,
    .op ⟨(some 10), (.mv (.tmp 55)), none⟩]
def r_dn_written_12 : List SOp :=
   [.op ⟨(some 56), (.mv (.tmp 3)), none⟩,
    .op ⟨(some 57), (.b2s (.tmp 56)), none⟩,
    .op ⟨(some 2), (.mv (.tmp 57)), none⟩]
def c_dn_written : LFun := ⟨58, (.seq (.sreg r_dn_written_0 [])
  (.seq (.sreg r_dn_written_1 [])
  (.seq (.seq (.sreg r_dn_written_2 [true, true, true, false])
  (.block 0 (.loop (.seq (.sreg r_dn_written_3 [])
  (.seq (.cond (.tmp 11) .skip
  (.exit 0))
  (.seq (.block 1 (.seq (.sreg r_dn_written_4 [true, true, false, false, false])
  (.seq (.sreg r_dn_written_5 [true, false, false, false, false, false, false])
  (.seq (.block 2 (.seq (.sreg r_dn_written_6 [true, false, false])
  (.cond (.tmp 36) (.seq (.sreg r_dn_written_7 [true, false, false])
  (.exit 1))
  (.seq (.sreg r_dn_written_8 [true, false, false, false])
  (.cond (.tmp 41) (.sreg r_dn_written_9 [true, false, false, false])
  .skip)))))
  (.sreg r_dn_written_10 [true, false, false, false, false])))))
  (.sreg r_dn_written_11 [true, false])))))))
  (.seq (.sreg r_dn_written_12 [true, false, false])
  .ret)))), [(.tmp 2)]⟩
attribute [push_cast] r_dn_written_0 r_dn_written_1 r_dn_written_2 r_dn_written_3 r_dn_written_4 r_dn_written_5 r_dn_written_6 r_dn_written_7 r_dn_written_8 r_dn_written_9 r_dn_written_10 r_dn_written_11 r_dn_written_12
theorem c_dn_written_eq : lowF Tryz.prog (fun _ _ => 1) 93 = some c_dn_written.raw := by kernel_rfl

/-! castellan/dn.check -/
def r_dn_check_0 : List SOp :=
   [.op ⟨(some 2), (.mv (.av (.int .i64 0))), none⟩]
def r_dn_check_1 : List SOp :=
   [.op ⟨(some 7), (.mv (.tmp 0)), none⟩,
    .op ⟨(some 8), (.len false (.tmp 7)), none⟩,
    .op ⟨(some 9), (.mv (.av (.int .i64 0))), none⟩]
def r_dn_check_2 : List SOp :=
   [.op ⟨(some 10), (.bin .lss (.tmp 9) (.tmp 8)), none⟩]
def r_dn_check_3 : List SOp :=
   [.op ⟨(some 11), (.mv (.tmp 9)), none⟩,
    .op ⟨(some 12), (.iaddr 1 (.tmp 7) (.tmp 9)), none⟩,
    .op ⟨(some 13), (.load false 1 (.tmp 12)), none⟩,
    .op ⟨(some 3), (.mv (.tmp 11)), none⟩,
    .op ⟨(some 4), (.mv (.tmp 13)), none⟩]
def r_dn_check_4 : List SOp :=
   [.op ⟨(some 15), (.mv (.tmp 3)), none⟩,
    .op ⟨(some 16), (.bin .eql (.tmp 15) (.av (.int .i64 32))), none⟩,
    .op ⟨(some 14), (.mv (.tmp 16)), none⟩]
def r_dn_check_5 : List SOp :=
   [.op ⟨(some 2), (.mv (.av (.int .i64 9))), none⟩]
def r_dn_check_6 : List SOp :=
   [.op ⟨(some 18), (.mv (.tmp 4)), none⟩,
    .op ⟨(some 19), (.len false (.tmp 18)), none⟩,
    .op ⟨(some 20), (.bin .eql (.tmp 19) (.av (.int .i64 0))), none⟩,
    .op ⟨(some 17), (.mv (.tmp 20)), none⟩]
def r_dn_check_7 : List SOp :=
   [.op ⟨(some 2), (.mv (.av (.int .i64 2))), none⟩]
def r_dn_check_8 : List SOp :=
   [.op ⟨(some 21), (.mv (.tmp 4)), none⟩,
    .op ⟨(some 22), (.len false (.tmp 21)), none⟩,
    .op ⟨(some 23), (.mv (.av (.int .i64 0))), none⟩]
def r_dn_check_9 : List SOp :=
   [.op ⟨(some 24), (.bin .lss (.tmp 23) (.tmp 22)), none⟩]
def r_dn_check_10 : List SOp :=
   [.op ⟨(some 25), (.mv (.tmp 23)), none⟩,
    .op ⟨(some 26), (.iaddr 2 (.tmp 21) (.tmp 23)), none⟩,
    .op ⟨(some 27), (.load true 2 (.tmp 26)), none⟩,
    .op ⟨(some 6), (.alloc [(.str []), (.str [])]), none⟩,
    .op ⟨(some 5), (.mv (.tmp 25)), none⟩,
    .op ⟨none, (.store 2 (.tmp 6) (.tmp 27)), none⟩]
def r_dn_check_11 : List SOp :=
   [.op ⟨(some 29), (.mv (.tmp 5)), none⟩,
    .op ⟨(some 30), (.bin .eql (.tmp 29) (.av (.int .i64 8))), none⟩,
    .op ⟨(some 28), (.mv (.tmp 30)), none⟩]
def r_dn_check_12 : List SOp :=
   [.op ⟨(some 2), (.mv (.av (.int .i64 9))), none⟩]
def r_dn_check_13 : List SOp :=
   [.op ⟨(some 32), (.faddr 0 (.tmp 6)), none⟩,
    .op ⟨(some 33), (.load false 1 (.tmp 32)), none⟩,
    .op ⟨(some 34), (.call 60 [(.tmp 33)]), none⟩,
    .op ⟨(some 35), (.un .not (.tmp 34)), none⟩,
    .op ⟨(some 31), (.mv (.tmp 35)), none⟩]
def r_dn_check_14 : List SOp :=
   [.op ⟨(some 2), (.mv (.av (.int .i64 20))), none⟩]
def r_dn_check_15 : List SOp :=
   [.op ⟨(some 37), (.mv (.tmp 4)), none⟩,
    .op ⟨(some 38), (.mv (.tmp 5)), none⟩,
    .op ⟨(some 39), (.slV 2 (.tmp 37) none (some (.tmp 38)) none), none⟩,
    .op ⟨(some 40), (.faddr 0 (.tmp 6)), none⟩,
    .op ⟨(some 41), (.load false 1 (.tmp 40)), none⟩,
    .op ⟨(some 42), (.call 61 [(.tmp 39), (.tmp 41)]), none⟩,
    .op ⟨(some 36), (.mv (.tmp 42)), none⟩]
def r_dn_check_16 : List SOp :=
   [.op ⟨(some 2), (.mv (.av (.int .i64 21))), none⟩]
def r_dn_check_17 : List SOp :=
   [.op ⟨(some 43), (.bin .add (.tmp 23) (.av (.int .i64 1))), none⟩,
    .op ⟨(some 23), (.mv (.tmp 43)), none⟩]
def r_dn_check_18 : List SOp :=
   [.op ⟨(some 44), (.bin .add (.tmp 9) (.av (.int .i64 1))), none⟩,
    .op ⟨(some 9), (.mv (.tmp 44)), none⟩]
def r_dn_check_19 : List SOp :=
   [.op ⟨(some 2), (.mv (.av (.int .i64 0))), none⟩]
def c_dn_check : LFun := ⟨45, (.seq (.sreg r_dn_check_0 [])
  (.seq (.seq (.sreg r_dn_check_1 [])
  (.block 0 (.loop (.seq (.sreg r_dn_check_2 [])
  (.seq (.cond (.tmp 10) .skip
  (.exit 0))
  (.seq (.block 1 (.seq (.sreg r_dn_check_3 [true, true, false, false, false])
  (.seq (.block 2 (.seq (.sreg r_dn_check_4 [true, false, false])
  (.cond (.tmp 14) (.seq (.sreg r_dn_check_5 [])
  .ret)
  (.seq (.sreg r_dn_check_6 [true, false, false, false])
  (.cond (.tmp 17) (.seq (.sreg r_dn_check_7 [])
  .ret)
  .skip)))))
  (.seq (.sreg r_dn_check_8 [])
  (.block 3 (.loop (.seq (.sreg r_dn_check_9 [])
  (.seq (.cond (.tmp 24) .skip
  (.exit 3))
  (.seq (.block 4 (.seq (.sreg r_dn_check_10 [true, true, false, false, false])
  (.block 5 (.seq (.sreg r_dn_check_11 [true, false, false])
  (.cond (.tmp 28) (.seq (.sreg r_dn_check_12 [])
  .ret)
  (.seq (.sreg r_dn_check_13 [true, false, false, false, false])
  (.cond (.tmp 31) (.seq (.sreg r_dn_check_14 [])
  .ret)
  (.seq (.sdreg r_dn_check_15 [.pure, .pure, (.read 0 0), .pure, (.read 0 0)] [true, false, false, false, false, false, false])
  (.cond (.tmp 36) (.seq (.sreg r_dn_check_16 [])
  .ret)
  .skip)))))))))
  (.sreg r_dn_check_17 [true, false]))))))))))
  (.sreg r_dn_check_18 [true, false])))))))
  (.seq (.sreg r_dn_check_19 [])
  .ret))), [(.tmp 2)]⟩
attribute [push_cast] r_dn_check_0 r_dn_check_1 r_dn_check_2 r_dn_check_3 r_dn_check_4 r_dn_check_5 r_dn_check_6 r_dn_check_7 r_dn_check_8 r_dn_check_9 r_dn_check_10 r_dn_check_11 r_dn_check_12 r_dn_check_13 r_dn_check_14 r_dn_check_15 r_dn_check_16 r_dn_check_17 r_dn_check_18 r_dn_check_19
theorem c_dn_check_eq : lowF Tryz.prog (fun _ _ => 1) 92 = some c_dn_check.raw := by kernel_rfl

/-! castellan/dn.Print -/
def r_dn_Print_0 : List SOp :=
   [.op ⟨(some 2), (.mv (.av (.str []))), none⟩,
    .op ⟨(some 3), (.mv (.av (.int .i64 0))), none⟩]
def r_dn_Print_1 : List SOp :=
   [.op ⟨(some 11), (.mv (.tmp 0)), none⟩,
    .op ⟨(some 12), (.call 92 [(.tmp 11)]), none⟩,
    .op ⟨(some 4), (.mv (.tmp 12)), none⟩]
def r_dn_Print_2 : List SOp :=
   [.op ⟨(some 13), (.mv (.tmp 4)), none⟩,
    .op ⟨(some 14), (.bin .neq (.tmp 13) (.av (.int .i64 0))), none⟩]
def r_dn_Print_3 : List SOp :=
   [.op ⟨(some 15), (.mv (.tmp 4)), none⟩,
    .op ⟨(some 2), (.mv (.av (.str []))), none⟩,
    .op ⟨(some 3), (.mv (.tmp 15)), none⟩]
def r_dn_Print_4 : List SOp :=
   [.op ⟨(some 5), (.mv (.av (.int .i64 0))), none⟩]
def r_dn_Print_5 : List SOp :=
   [.op ⟨(some 16), (.mv (.tmp 0)), none⟩,
    .op ⟨(some 17), (.len false (.tmp 16)), none⟩,
    .op ⟨(some 18), (.mv (.av (.int .i64 0))), none⟩]
def r_dn_Print_6 : List SOp :=
   [.op ⟨(some 19), (.bin .lss (.tmp 18) (.tmp 17)), none⟩]
def r_dn_Print_7 : List SOp :=
   [.op ⟨(some 20), (.iaddr 1 (.tmp 16) (.tmp 18)), none⟩,
    .op ⟨(some 21), (.load false 1 (.tmp 20)), none⟩,
    .op ⟨(some 7), (.mv (.tmp 21)), none⟩]
def r_dn_Print_8 : List SOp :=
   [.op ⟨(some 22), (.mv (.tmp 7)), none⟩,
    .op ⟨(some 23), (.len false (.tmp 22)), none⟩,
    .op ⟨(some 24), (.mv (.av (.int .i64 0))), none⟩]
def r_dn_Print_9 : List SOp :=
   [.op ⟨(some 25), (.bin .lss (.tmp 24) (.tmp 23)), none⟩]
def r_dn_Print_10 : List SOp :=
   [.op ⟨(some 26), (.iaddr 2 (.tmp 22) (.tmp 24)), none⟩,
    .op ⟨(some 27), (.load true 2 (.tmp 26)), none⟩,
    .op ⟨(some 9), (.alloc [(.str []), (.str [])]), none⟩,
    .op ⟨none, (.store 2 (.tmp 9) (.tmp 27)), none⟩]
def r_dn_Print_11 : List SOp :=
   [.op ⟨(some 28), (.faddr 1 (.tmp 9)), none⟩,
    .op ⟨(some 29), (.load false 1 (.tmp 28)), none⟩,
    .op ⟨(some 30), (.len true (.tmp 29)), none⟩,
    .op ⟨(some 31), (.bin .gtr (.tmp 30) (.av (.int .i64 4096))), none⟩]
def r_dn_Print_12 : List SOp :=
   [.op ⟨(some 2), (.mv (.av (.str []))), none⟩,
    .op ⟨(some 3), (.mv (.av (.int .i64 5))), none⟩]
def r_dn_Print_13 : List SOp :=
   [.op ⟨(some 32), (.mv (.tmp 5)), none⟩,
    .op ⟨(some 33), (.bin .add (.tmp 32) (.av (.int .i64 1))), none⟩,
    .op ⟨(some 5), (.mv (.tmp 33)), none⟩]
def r_dn_Print_14 : List SOp :=
   [.op ⟨(some 34), (.bin .add (.tmp 24) (.av (.int .i64 1))), none⟩,
    .op ⟨(some 24), (.mv (.tmp 34)), none⟩]
def r_dn_Print_15 : List SOp :=
   [.op ⟨(some 35), (.bin .add (.tmp 18) (.av (.int .i64 1))), none⟩,
    .op ⟨(some 18), (.mv (.tmp 35)), none⟩]
def r_dn_Print_16 : List SOp :=
   [.op ⟨(some 36), (.mv (.tmp 0)), none⟩,
    .op ⟨(some 37), (.call 64 [(.tmp 36), (.av (.bool false))]), none⟩,
    .op ⟨(some 10), (.mv (.tmp 37)), none⟩]
def r_dn_Print_17 : List SOp :=
   [.op ⟨(some 38), (.mv (.tmp 10)), none⟩,
    .op ⟨(some 39), (.len true (.tmp 38)), none⟩,
    .op ⟨(some 40), (.bin .gtr (.tmp 39) (.av (.int .i64 4096))), none⟩]
def r_dn_Print_18 : List SOp :=
   [.op ⟨(some 2), (.mv (.av (.str []))), none⟩,
    .op ⟨(some 3), (.mv (.av (.int .i64 5))), none⟩]
def r_dn_Print_19 : List SOp :=
   [.op ⟨(some 41), (.mv (.tmp 10)), none⟩,
    .op ⟨(some 2), (.mv (.tmp 41)), none⟩,
    .op ⟨(some 3), (.mv (.av (.int .i64 0))), none⟩]
def c_dn_Print : LFun := ⟨42, (.seq (.sreg r_dn_Print_0 [])
  (.seq (.seq (.sreg r_dn_Print_1 [true, false, false])
  (.seq (.sreg r_dn_Print_2 [true, false])
  (.cond (.tmp 14) (.seq (.sreg r_dn_Print_3 [true, true, false])
  .ret)
  .skip)))
  (.seq (.sreg r_dn_Print_4 [])
  (.seq (.seq (.sreg r_dn_Print_5 [])
  (.block 0 (.loop (.seq (.sreg r_dn_Print_6 [])
  (.seq (.cond (.tmp 19) .skip
  (.exit 0))
  (.seq (.block 1 (.seq (.sreg r_dn_Print_7 [true, false, false])
  (.seq (.sreg r_dn_Print_8 [])
  (.block 2 (.loop (.seq (.sreg r_dn_Print_9 [])
  (.seq (.cond (.tmp 25) .skip
  (.exit 2))
  (.seq (.block 3 (.seq (.sreg r_dn_Print_10 [true, false, false])
  (.seq (.seq (.sreg r_dn_Print_11 [true, false, false, false])
  (.cond (.tmp 31) (.seq (.sreg r_dn_Print_12 [])
  .ret)
  .skip))
  (.sreg r_dn_Print_13 [true, false, false]))))
  (.sreg r_dn_Print_14 [true, false])))))))))
  (.sreg r_dn_Print_15 [true, false])))))))
  (.seq (.sreg r_dn_Print_16 [true, false, false])
  (.seq (.seq (.sreg r_dn_Print_17 [true, false, false])
  (.cond (.tmp 40) (.seq (.sreg r_dn_Print_18 [])
  .ret)
  .skip))
  (.seq (.sreg r_dn_Print_19 [true, true, false])
  .ret))))))), [(.tmp 2), (.tmp 3)]⟩
attribute [push_cast] r_dn_Print_0 r_dn_Print_1 r_dn_Print_2 r_dn_Print_3 r_dn_Print_4 r_dn_Print_5 r_dn_Print_6 r_dn_Print_7 r_dn_Print_8 r_dn_Print_9 r_dn_Print_10 r_dn_Print_11 r_dn_Print_12 r_dn_Print_13 r_dn_Print_14 r_dn_Print_15 r_dn_Print_16 r_dn_Print_17 r_dn_Print_18 r_dn_Print_19
theorem c_dn_Print_eq : lowF Tryz.prog (fun _ _ => 1) 63 = some c_dn_Print.raw := by kernel_rfl

/-! castellan/dn.Norm -/
def r_dn_Norm_0 : List SOp :=
   [.op ⟨(some 2), (.mv (.av (.str []))), none⟩,
    .op ⟨(some 3), (.mv (.av (.int .i64 0))), none⟩]
def r_dn_Norm_1 : List SOp :=
   [.op ⟨(some 7), (.mv (.tmp 0)), none⟩,
    .op ⟨(some 8), (.call 63 [(.tmp 7)]), none⟩,
    .op ⟨(some 6), (.mv (.tmp 8)), none⟩,
    .op ⟨(some 9), (.extract (.tmp 6) 0), none⟩,
    .op ⟨(some 10), (.extract (.tmp 6) 1), none⟩,
    .op ⟨(some 4), (.mv (.tmp 9)), none⟩,
    .op ⟨(some 5), (.mv (.tmp 10)), none⟩]
def r_dn_Norm_2 : List SOp :=
   [.op ⟨(some 11), (.mv (.tmp 5)), none⟩,
    .op ⟨(some 12), (.bin .neq (.tmp 11) (.av (.int .i64 0))), none⟩]
def r_dn_Norm_3 : List SOp :=
   [.op ⟨(some 13), (.mv (.tmp 5)), none⟩,
    .op ⟨(some 2), (.mv (.av (.str []))), none⟩,
    .op ⟨(some 3), (.mv (.tmp 13)), none⟩]
def r_dn_Norm_4 : List SOp :=
   [.op ⟨(some 14), (.mv (.tmp 0)), none⟩,
    .op ⟨(some 15), (.call 64 [(.tmp 14), (.av (.bool true))]), none⟩,
    .op ⟨(some 2), (.mv (.tmp 15)), none⟩,
    .op ⟨(some 3), (.mv (.av (.int .i64 0))), none⟩]
def c_dn_Norm : LFun := ⟨16, (.seq (.sreg r_dn_Norm_0 [])
  (.seq (.seq (.sreg r_dn_Norm_1 [true, false, false, false, false, false, false])
  (.seq (.sreg r_dn_Norm_2 [true, false])
  (.cond (.tmp 12) (.seq (.sreg r_dn_Norm_3 [true, true, false])
  .ret)
  .skip)))
  (.seq (.sreg r_dn_Norm_4 [true, true, false, false])
  .ret))), [(.tmp 2), (.tmp 3)]⟩
attribute [push_cast] r_dn_Norm_0 r_dn_Norm_1 r_dn_Norm_2 r_dn_Norm_3 r_dn_Norm_4
theorem c_dn_Norm_eq : lowF Tryz.prog (fun _ _ => 1) 43 = some c_dn_Norm.raw := by kernel_rfl

/-! castellan/dn.Key -/
def r_dn_Key_0 : List SOp :=
   [.op ⟨(some 2), (.mv (.av (.str []))), none⟩,
    .op ⟨(some 3), (.mv (.av (.int .i64 0))), none⟩]
def r_dn_Key_1 : List SOp :=
   [.op ⟨(some 7), (.mv (.tmp 0)), none⟩,
    .op ⟨(some 8), (.call 42 [(.tmp 7)]), none⟩,
    .op ⟨(some 6), (.mv (.tmp 8)), none⟩,
    .op ⟨(some 9), (.extract (.tmp 6) 0), none⟩,
    .op ⟨(some 10), (.extract (.tmp 6) 1), none⟩,
    .op ⟨(some 4), (.mv (.tmp 9)), none⟩,
    .op ⟨(some 5), (.mv (.tmp 10)), none⟩]
def r_dn_Key_2 : List SOp :=
   [.op ⟨(some 11), (.mv (.tmp 5)), none⟩,
    .op ⟨(some 12), (.bin .neq (.tmp 11) (.av (.int .i64 0))), none⟩]
def r_dn_Key_3 : List SOp :=
   [.op ⟨(some 13), (.mv (.tmp 5)), none⟩,
    .op ⟨(some 2), (.mv (.av (.str []))), none⟩,
    .op ⟨(some 3), (.mv (.tmp 13)), none⟩]
def r_dn_Key_4 : List SOp :=
   [.op ⟨(some 14), (.mv (.tmp 4)), none⟩,
    .op ⟨(some 15), (.call 43 [(.tmp 14)]), none⟩,
    .op ⟨(some 16), (.extract (.tmp 15) 0), none⟩,
    .op ⟨(some 17), (.extract (.tmp 15) 1), none⟩,
    .op ⟨(some 2), (.mv (.tmp 16)), none⟩,
    .op ⟨(some 3), (.mv (.tmp 17)), none⟩]
def c_dn_Key : LFun := ⟨18, (.seq (.sreg r_dn_Key_0 [])
  (.seq (.sreg r_dn_Key_1 [true, true, false, false, false, false, false])
  (.seq (.seq (.sreg r_dn_Key_2 [true, false])
  (.cond (.tmp 12) (.seq (.sreg r_dn_Key_3 [true, true, false])
  .ret)
  .skip))
  (.seq (.sreg r_dn_Key_4 [true, true, false, false, false, false])
  .ret)))), [(.tmp 2), (.tmp 3)]⟩
attribute [push_cast] r_dn_Key_0 r_dn_Key_1 r_dn_Key_2 r_dn_Key_3 r_dn_Key_4
theorem c_dn_Key_eq : lowF Tryz.prog (fun _ _ => 1) 20 = some c_dn_Key.raw := by kernel_rfl

/-! slices.ContainsFunc[castellan/api.RDN,castellan/api.AVA] -/
def r_slices_ContainsFunc_api_RDN_api_AVA_0 : List SOp :=
   [.op ⟨(some 4), (.mv (.av (.bool false))), none⟩]
def r_slices_ContainsFunc_api_RDN_api_AVA_1 : List SOp :=
   [.op ⟨(some 5), (.mv (.tmp 0)), none⟩,
    .op ⟨(some 6), (.mv (.tmp 1)), none⟩,
    .op ⟨(some 7), (.call 111 [(.tmp 5), (.tmp 6)]), none⟩,
    .op ⟨(some 8), (.bin .geq (.tmp 7) (.av (.int .i64 0))), none⟩,
    .op ⟨(some 4), (.mv (.tmp 8)), none⟩]
def c_slices_ContainsFunc_api_RDN_api_AVA : LFun := ⟨9, (.seq (.sreg r_slices_ContainsFunc_api_RDN_api_AVA_0 [])
  (.seq (.sreg r_slices_ContainsFunc_api_RDN_api_AVA_1 [true, false, false, false, false])
  .ret)), [(.tmp 4)]⟩
attribute [push_cast] r_slices_ContainsFunc_api_RDN_api_AVA_0 r_slices_ContainsFunc_api_RDN_api_AVA_1
theorem c_slices_ContainsFunc_api_RDN_api_AVA_eq : lowF Tryz.prog (fun _ _ => 1) 88 = some c_slices_ContainsFunc_api_RDN_api_AVA.raw := by kernel_rfl

/-! slices.IndexFunc[castellan/api.RDN,castellan/api.AVA] -/
def r_slices_IndexFunc_api_RDN_api_AVA_0 : List SOp :=
   [.op ⟨(some 4), (.mv (.av (.int .i64 0))), none⟩]
def r_slices_IndexFunc_api_RDN_api_AVA_1 : List SOp :=
   [.op ⟨(some 6), (.mv (.tmp 0)), none⟩,
    .op ⟨(some 7), (.len false (.tmp 6)), none⟩,
    .op ⟨(some 8), (.mv (.av (.int .i64 0))), none⟩]
def r_slices_IndexFunc_api_RDN_api_AVA_2 : List SOp :=
   [.op ⟨(some 9), (.bin .lss (.tmp 8) (.tmp 7)), none⟩]
def r_slices_IndexFunc_api_RDN_api_AVA_3 : List SOp :=
   [.op ⟨(some 10), (.mv (.tmp 8)), none⟩,
    .op ⟨(some 5), (.mv (.tmp 10)), none⟩]
def r_slices_IndexFunc_api_RDN_api_AVA_4 : List SOp :=
   [.op ⟨(some 11), (.mv (.tmp 1)), none⟩,
    .op ⟨(some 12), (.mv (.tmp 0)), none⟩,
    .op ⟨(some 13), (.mv (.tmp 5)), none⟩,
    .op ⟨(some 14), (.iaddr 2 (.tmp 12) (.tmp 13)), none⟩,
    .op ⟨(some 15), (.load true 2 (.tmp 14)), none⟩,
    .op ⟨(some 16), (.callv (.tmp 11) [(.tmp 15)]), none⟩]
def r_slices_IndexFunc_api_RDN_api_AVA_5 : List SOp :=
   [.op ⟨(some 17), (.mv (.tmp 5)), none⟩,
    .op ⟨(some 4), (.mv (.tmp 17)), none⟩]
def r_slices_IndexFunc_api_RDN_api_AVA_6 : List SOp :=
   [.op ⟨(some 18), (.bin .add (.tmp 8) (.av (.int .i64 1))), none⟩,
    .op ⟨(some 8), (.mv (.tmp 18)), none⟩]
def r_slices_IndexFunc_api_RDN_api_AVA_7 : List SOp :=
   [.op ⟨(some 4), (.mv (.av (.int .i64 (-1)))), none⟩]
def c_slices_IndexFunc_api_RDN_api_AVA : LFun := ⟨19, (.seq (.sreg r_slices_IndexFunc_api_RDN_api_AVA_0 [])
  (.seq (.seq (.sreg r_slices_IndexFunc_api_RDN_api_AVA_1 [true, true, false])
  (.block 0 (.loop (.seq (.sreg r_slices_IndexFunc_api_RDN_api_AVA_2 [])
  (.seq (.cond (.tmp 9) .skip
  (.exit 0))
  (.seq (.block 1 (.seq (.sreg r_slices_IndexFunc_api_RDN_api_AVA_3 [true, false])
  (.seq (.sreg r_slices_IndexFunc_api_RDN_api_AVA_4 [true, false, false, false, false, false])
  (.cond (.tmp 16) (.seq (.sreg r_slices_IndexFunc_api_RDN_api_AVA_5 [true, false])
  .ret)
  .skip))))
  (.sreg r_slices_IndexFunc_api_RDN_api_AVA_6 [true, false])))))))
  (.seq (.sreg r_slices_IndexFunc_api_RDN_api_AVA_7 [])
  .ret))), [(.tmp 4)]⟩
attribute [push_cast] r_slices_IndexFunc_api_RDN_api_AVA_0 r_slices_IndexFunc_api_RDN_api_AVA_1 r_slices_IndexFunc_api_RDN_api_AVA_2 r_slices_IndexFunc_api_RDN_api_AVA_3 r_slices_IndexFunc_api_RDN_api_AVA_4 r_slices_IndexFunc_api_RDN_api_AVA_5 r_slices_IndexFunc_api_RDN_api_AVA_6 r_slices_IndexFunc_api_RDN_api_AVA_7
theorem c_slices_IndexFunc_api_RDN_api_AVA_eq : lowF Tryz.prog (fun _ _ => 1) 111 = some c_slices_IndexFunc_api_RDN_api_AVA.raw := by kernel_rfl

/-! strings.Cut -/
def r_strings_Cut_0 : List SOp :=
   [.op ⟨(some 4), (.mv (.av (.str []))), none⟩,
    .op ⟨(some 5), (.mv (.av (.str []))), none⟩,
    .op ⟨(some 6), (.mv (.av (.bool false))), none⟩]
def r_strings_Cut_1 : List SOp :=
   [.op ⟨(some 7), (.mv (.tmp 0)), none⟩,
    .op ⟨(some 8), (.mv (.tmp 1)), none⟩,
    .op ⟨(some 9), (.call 86 [(.tmp 7), (.tmp 8)]), none⟩,
    .op ⟨(some 10), (.extract (.tmp 9) 0), none⟩,
    .op ⟨(some 11), (.extract (.tmp 9) 1), none⟩,
    .op ⟨(some 12), (.extract (.tmp 9) 2), none⟩,
    .op ⟨(some 4), (.mv (.tmp 10)), none⟩,
    .op ⟨(some 5), (.mv (.tmp 11)), none⟩,
    .op ⟨(some 6), (.mv (.tmp 12)), none⟩]
def c_strings_Cut : LFun := ⟨13, (.seq (.sreg r_strings_Cut_0 [])
  (.seq (.sreg r_strings_Cut_1 [true, true, true, false, false, false, false, false, false])
  .ret)), [(.tmp 4), (.tmp 5), (.tmp 6)]⟩
attribute [push_cast] r_strings_Cut_0 r_strings_Cut_1
theorem c_strings_Cut_eq : lowF Tryz.prog (fun _ _ => 1) 59 = some c_strings_Cut.raw := by kernel_rfl

/-! internal/stringslite.Cut -/
def r_internal_stringslite_Cut_0 : List SOp :=
   [.op ⟨(some 4), (.mv (.av (.str []))), none⟩,
    .op ⟨(some 5), (.mv (.av (.str []))), none⟩,
    .op ⟨(some 6), (.mv (.av (.bool false))), none⟩]
def r_internal_stringslite_Cut_1 : List SOp :=
   [.op ⟨(some 8), (.mv (.tmp 0)), none⟩,
    .op ⟨(some 9), (.mv (.tmp 1)), none⟩,
    .op ⟨(some 10), (.call 52 [(.tmp 8), (.tmp 9)]), none⟩,
    .op ⟨(some 7), (.mv (.tmp 10)), none⟩]
def r_internal_stringslite_Cut_2 : List SOp :=
   [.op ⟨(some 11), (.mv (.tmp 7)), none⟩,
    .op ⟨(some 12), (.bin .geq (.tmp 11) (.av (.int .i64 0))), none⟩]
def r_internal_stringslite_Cut_3 : List SOp :=
   [.op ⟨(some 13), (.mv (.tmp 0)), none⟩,
    .op ⟨(some 14), (.mv (.tmp 7)), none⟩,
    .op ⟨(some 15), (.slS (.tmp 13) none (some (.tmp 14))), none⟩,
    .op ⟨(some 16), (.mv (.tmp 0)), none⟩,
    .op ⟨(some 17), (.mv (.tmp 7)), none⟩,
    .op ⟨(some 18), (.mv (.tmp 1)), none⟩,
    .op ⟨(some 19), (.len true (.tmp 18)), none⟩,
    .op ⟨(some 20), (.bin .add (.tmp 17) (.tmp 19)), none⟩,
    .op ⟨(some 21), (.slS (.tmp 16) (some (.tmp 20)) none), none⟩,
    .op ⟨(some 4), (.mv (.tmp 15)), none⟩,
    .op ⟨(some 5), (.mv (.tmp 21)), none⟩,
    .op ⟨(some 6), (.mv (.av (.bool true))), none⟩]
def r_internal_stringslite_Cut_4 : List SOp :=
   [.op ⟨(some 22), (.mv (.tmp 0)), none⟩,
    .op ⟨(some 4), (.mv (.tmp 22)), none⟩,
    .op ⟨(some 5), (.mv (.av (.str []))), none⟩,
    .op ⟨(some 6), (.mv (.av (.bool false))), none⟩]
def c_internal_stringslite_Cut : LFun := ⟨23, (.seq (.sreg r_internal_stringslite_Cut_0 [])
  (.seq (.seq (.sreg r_internal_stringslite_Cut_1 [true, false, false, false])
  (.seq (.sreg r_internal_stringslite_Cut_2 [true, false])
  (.cond (.tmp 12) (.seq (.sdreg r_internal_stringslite_Cut_3 [.pure, .pure, (.read 0 0), .pure, .pure, .pure, (.read 0 0), .pure, (.read 0 0), .pure] [true, true, true, false, false, false, false, false, false, false, false, false])
  .ret)
  .skip)))
  (.seq (.sreg r_internal_stringslite_Cut_4 [true, true, true, false])
  .ret))), [(.tmp 4), (.tmp 5), (.tmp 6)]⟩
attribute [push_cast] r_internal_stringslite_Cut_0 r_internal_stringslite_Cut_1 r_internal_stringslite_Cut_2 r_internal_stringslite_Cut_3 r_internal_stringslite_Cut_4
theorem c_internal_stringslite_Cut_eq : lowF Tryz.prog (fun _ _ => 1) 86 = some c_internal_stringslite_Cut.raw := by kernel_rfl

end Go.Proofs.YtffnflplocbpiaaGreatDoor.Av

namespace Go.Proofs.YtffnflplocbpiaaGreatDoor.Av
open Go
set_option maxHeartbeats 8000000
set_option maxRecDepth 100000

theorem wrapI32_in {n : Int} (h0 : -2147483648 ≤ n) (h1 : n < 2147483648) : IntKind.i32.wrap n = n := by
  simp only [IntKind.wrap, IntKind.bits, IntKind.signed]
  simp
  omega
theorem decU_ascii {s : List UInt8} {p : Nat} (h : p < s.length) (ha : (s.getD p 0).toNat < 128) : decU s p = ((s.getD p 0).toNat, 1) := by
  have e : s.getD p 0 = s[p] := by simp [h]
  rw [e] at ha ⊢
  exact decode_ascii ⟨⟨s⟩⟩ p h ha
theorem decU_high {s : List UInt8} {p : Nat} (h : p < s.length) (ha : 128 ≤ (s.getD p 0).toNat) : 128 ≤ (decU s p).1 := by
  have e : s.getD p 0 = s[p] := by simp [h]
  rw [e] at ha
  exact (decode_high ⟨⟨s⟩⟩ p h ha).1

def isLet (x : Int) : Bool := (decide (97 ≤ x) && decide (x ≤ 122)) || (decide (65 ≤ x) && decide (x ≤ 90))
theorem letter_k {x : Int} {L : List Blk} {K : AV → List Blk → Prop} (h : K (.bool (isLet x)) L) : ACall Tryz.prog 87 [.int .i32 x] L K := by
  refine ACall_fn c_dn_letter_eq (by simp [c_dn_letter]) ?_
  simp only [c_dn_letter, initT]
  refine wk ?_
  all_goals (first | refine Fin_pure rfl (Kto h ?_) | refine Fin_same (Kto h ?_) | refine Fin_pure (by simp only [AV.refs, AV.refsL, *]; rfl) (Kto h ?_) | refine Fin_frz (Fin_pure rfl (Kto h ?_)) | (trace_state; fail))
  all_goals (first | (simp [isLet, *]; done) | (simp [isLet, *]; omega) | (simp [isLet, *]; intros; omega) | (simp_all [Hid, isLet]; done) | (simp_all [Hid, isLet]; omega))

/-- May a character stand in a type? -/
def typC (x : Int) : Bool := isLet x || (decide (48 ≤ x) && decide (x ≤ 57)) || decide (x = 45)
def typS (s : List UInt8) : Bool := decide (1 ≤ s.length) && decide (s.length ≤ 32) && isLet ((s.getD 0 0).toNat : Int) && s.all fun c => typC (c.toNat : Int)
theorem typC_high {x : Int} (h : 128 ≤ x) : typC x = false := by
  simp only [typC, isLet, Bool.or_eq_false_iff, Bool.and_eq_false_iff, decide_eq_false_iff_not]
  omega

theorem type_k {s : List UInt8} {L : List Blk} {K : AV → List Blk → Prop} (h : K (.bool (typS s)) L) : ACall Tryz.prog 60 [.str s] L K := by
  have no : typS s = false → K (.bool false) L := fun e => by rw [← e]; exact h
  replace no := hid no
  replace h := hid h
  refine ACall_fn c_dn_Type_eq (by simp [c_dn_Type]) ?_
  simp only [c_dn_Type, initT]
  by_cases h0 : s = []
  · subst h0
    refine wk ?_
    exact Fin_same (no.out rfl)
  have hlen : 0 < s.length := List.length_pos_iff.2 h0
  by_cases h1 : (32 : Int) < (s.length : Int)
  · refine wk ?_
    exact Fin_same (no.out (by simp [typS]; omega))
  obtain ⟨c0, hc0⟩ : ∃ c, s.getD 0 0 = c := ⟨_, rfl⟩
  have hr := c0.toNat_lt
  have w0 : IntKind.i32.wrap (c0.toNat : Int) = (c0.toNat : Int) := wrapI32_in (by omega) (by omega)
  cases hl0 : isLet (c0.toNat : Int) with
  | false =>
    have kk1 := @hid _ @letter_k
    refine wk ?_
    refine Fin_same (no.out ?_)
    simp only [typS, hc0, hl0, Bool.and_false, Bool.false_and]
  | true =>
    have kk1 := @hid _ @letter_k
    refine wk ?_
    refine AW_loopT (fun n T' L' => ∃ p, n = s.length - p ∧ p ≤ s.length ∧ Hid (∀ c ∈ s.take p, typC (c.toNat : Int) = true) ∧ T' = [(20, .ptr L.length 0)] ∧ L' = L ++ [.siter s p]) (Cut_same (by repeat' first | exact SubT_nil | refine SubT_cons rfl rfl ?_ | refine SubT_consF rfl rfl ?_) (by simp)) ⟨0, rfl, Nat.zero_le _, hid (by simp), rfl, rfl⟩ ?_
    rintro _ _ _ ⟨p, rfl, hp, hall, rfl, rfl⟩
    by_cases hlt : p < s.length
    · obtain ⟨c, hc⟩ : ∃ c, s.getD p 0 = c := ⟨_, rfl⟩
      have hmem : c ∈ s := by rw [← hc]; simp [hlt]
      have htk : s.take (p + 1) = s.take p ++ [c] := by rw [List.take_succ_eq_append_getElem hlt, ← hc]; simp [hlt]
      replace htk := hid htk
      have bad : typC (c.toNat : Int) = false → K (.bool false) L := fun e => no.out (by
        have : (s.all fun c => typC (c.toNat : Int)) = false := List.all_eq_false.2 ⟨c, hmem, by rw [e]; simp⟩
        simp only [typS, this, Bool.and_false])
      replace bad := hid bad
      by_cases ha : c.toNat < 128
      · have hd := decU_ascii hlt (by rw [hc]; exact ha)
        rw [hc] at hd
        obtain ⟨x, hx⟩ : ∃ x : Nat, c.toNat = x := ⟨_, rfl⟩
        rw [hx] at hd bad
        have hx' := hid hx
        clear hx hc hmem ha hr w0
        cases hxl : isLet (x : Int) with
        | true =>
          have kk1 := @hid _ @letter_k
          refine wk ?_
          refine Nxt_mk _ _ _ (by omega) (Cut_same (by repeat' first | exact SubT_nil | refine SubT_cons rfl rfl ?_ | refine SubT_consF rfl rfl ?_) (by simp)) ⟨p + 1, rfl, hlt, hid fun d hd' => ?_, rfl, rfl⟩
          rw [htk.out] at hd'
          rcases List.mem_append.1 hd' with h | h
          · exact hall.out d h
          · rw [List.mem_singleton.1 h, hx'.out, typC, hxl]; rfl
        | false =>
          repeat' first
            | refine AW_seq ?_
            | (first | refine AW_sreg (by kernel_rfl) ?_ | refine AW_sdreg (by kernel_rfl) ?_ | refine AW_dregM ?_ | refine Nx_in ?_ | refine NxI_in (fun _ => ?_) | refine AW_region ?_ | refine AW_dreg ?_ | refine letter_k ?_ | refine CalK2_mk (letter_k ⟨rfl, rfl⟩) (letter_k ⟨rfl, rfl⟩) ?_ | refine CalK_mk (letter_k ⟨rfl, rfl⟩) ?_)
              simp (config := { maxSteps := 2000000 }) only [Kon, push_cast, reduceIte, Nat.reduceEqDiff, Nat.reduceAdd, Nat.reduceMul, Nat.reduceSub, Nat.reduceLT, Nat.reduceLeDiff, Int.reduceLT, Int.reduceLE, Int.reduceAdd, Int.reduceSub, Int.reduceNeg, Int.reduceToNat, Int.reduceEq, reduceCtorEq, *]
            | (first | refine SelK_mk (by kernel_rfl) ?_ | refine AW_skip ?_ | refine AW_exit ?_ | refine AW_ret (Back_retR ?_))
              simp only [push_cast, reduceIte, Nat.reduceEqDiff, Nat.reduceAdd, Nat.reduceMul, Nat.reduceSub, Nat.reduceLT, Nat.reduceLeDiff, Int.reduceLT, Int.reduceLE, Int.reduceAdd, Int.reduceSub, Int.reduceNeg, Int.reduceToNat, Int.reduceEq, reduceCtorEq, *]
            | exact IsB_mk
            | first | apply GQ_mkT | apply GQ_mkTN | apply GQ_mkF | apply GQ_mkFN | apply GQ_mkB | apply GQ_mkBF
            | refine AW_block ?_
            | first | refine AW_condT rfl ?_ | refine AW_condF rfl ?_ | refine AW_condAny rfl ?_ ?_ | refine AW_condB rfl (fun _ => ?_) (fun _ => ?_) | refine AW_condN rfl (fun _ => ?_) (fun _ => ?_)
            | ((first | refine ite_introN (fun _ => ?_) (fun _ => ?_) | refine ite_intro (fun _ => ?_) (fun _ => ?_)) <;> try simp (config := { maxSteps := 2000000 }) only [Kon, push_cast, reduceIte, Nat.reduceEqDiff, Nat.reduceAdd, Nat.reduceMul, Nat.reduceSub, Nat.reduceLT, Nat.reduceLeDiff, Int.reduceLT, Int.reduceLE, Int.reduceAdd, Int.reduceSub, Int.reduceNeg, Int.reduceToNat, Int.reduceEq, reduceCtorEq, *])
            | refine And.intro trivial ?_
            | refine And.intro (by omega) ?_
            | refine AW_cond rfl (fun _ => ?_) (fun _ => ?_)
            | refine And.intro ?_ ?_
          · rename_i hb
            refine Fin_pure rfl (bad.out ?_)
            simp only [typC, hxl, Bool.false_or, Bool.or_eq_false_iff, Bool.and_eq_false_iff, decide_eq_false_iff_not]
            omega
          · rename_i hb
            refine Nxt_mk _ _ _ (by omega) (Cut_same (by repeat' first | exact SubT_nil | refine SubT_cons rfl rfl ?_ | refine SubT_consF rfl rfl ?_) (by simp)) ⟨p + 1, rfl, hlt, hid fun d hd' => ?_, rfl, rfl⟩
            rw [htk.out] at hd'
            rcases List.mem_append.1 hd' with h | h
            · exact hall.out d h
            · rw [List.mem_singleton.1 h, hx'.out]
              simp only [typC, hxl, Bool.false_or, Bool.or_eq_true, Bool.and_eq_true, decide_eq_true_eq]
              omega
      · have hh := decU_high hlt (by rw [hc]; omega)
        obtain ⟨⟨x, wd⟩, hd⟩ : ∃ q, decU s p = q := ⟨_, rfl⟩
        rw [hd] at hh
        simp only at hh
        have bad' := hid (bad.out (typC_high (show (128 : Int) ≤ (c.toNat : Int) by omega)))
        have hxl : isLet (x : Int) = false := by
          have := typC_high (show (128 : Int) ≤ (x : Int) by omega)
          simp only [typC, Bool.or_eq_false_iff] at this
          exact this.1.1
        have f1 : ¬ (x : Int) < 48 := by omega
        have f2 : (57 : Int) < (x : Int) := by omega
        have f3 : ¬ (x : Int) = 45 := by omega
        clear hc hmem hr w0
        have kk1 := @hid _ @letter_k
        refine wk ?_
        exact Fin_pure rfl bad'.out
    · have hke : p = s.length := by omega
      subst hke
      have h' := h.out
      have e : typS s = true := by
        have e1 : (s.all fun c => typC (c.toNat : Int)) = true := List.all_eq_true.2 fun c hcm => hall.out c (by rw [List.take_length]; exact hcm)
        simp only [typS, e1, hc0, hl0, Bool.and_true]
        simp; omega
      rw [e] at h'
      replace h' := hid h'
      clear e
      refine wk ?_
      exact Fin_pure rfl h'.out
end Go.Proofs.YtffnflplocbpiaaGreatDoor.Av

namespace Go.Proofs.YtffnflplocbpiaaGreatDoor.Av
open Go
set_option maxHeartbeats 8000000
set_option maxRecDepth 100000

/-- A type and a value. -/
abbrev Ava := List UInt8 × List UInt8
def avaA (a : Ava) : List AV := [.str a.1, .str a.2]
def avasA (r : List Ava) : List AV := r.flatMap avaA
abbrev rdnA (r : List Ava) (cap : Option Nat) : AV := .sl (avasA r) r.length cap
def hasT (r : List Ava) (typ : List UInt8) : Bool := r.any fun a => decide (foldS a.1 = foldS typ)

theorem has1_k {a : Ava} {typ : List UInt8} {ip : Nat} (h1 : (a.1.length : Int) ≤ 100000) (h2 : (typ.length : Int) ≤ 100000) {L : List Blk} {K : AV → List Blk → Prop} (hL : L[ip]? = some (.cells [.str typ])) (h : K (.bool (decide (foldS a.1 = foldS typ))) L) :
    ACall Tryz.prog 89 [.agg (avaA a), .ptr ip 0] L K := by
  obtain ⟨t, v⟩ := a
  replace h := hid h
  have hip : ip < L.length := (List.getElem?_eq_some_iff.1 hL).1
  have g1 : (L ++ [Blk.cells [.str t, .str v]])[ip]? = some (.cells [.str typ]) := by rw [List.getElem?_append_left hip]; exact hL
  simp only [avaA]
  refine ACall_fn c_dn_has_1_eq (by simp [c_dn_has_1]) ?_
  simp only [c_dn_has_1, initT]
  have kk1 := @hid _ (fun L K => fold_k h1 (L := L) (K := K))
  have kk2 := @hid _ (fun L K => fold_k h2 (L := L) (K := K))
  refine wk ?_
  exact Fin_pure rfl h.out

theorem avasA_len (r : List Ava) : (avasA r).length = r.length * 2 := by
  induction r with
  | nil => rfl
  | cons a r ih => simp only [avasA, List.flatMap_cons, List.length_append, avaA, List.length_cons, List.length_nil] at ih ⊢; omega
theorem avasA_at : ∀ {r : List Ava} {k : Nat}, k < r.length → ((avasA r).drop (k * 2)).take 2 = avaA (r.getD k ([], []))
  | a :: r, 0, _ => rfl
  | a :: r, k + 1, h => by
    have ih := @avasA_at r k (by simpa using h)
    rw [show (k + 1) * 2 = k * 2 + 1 + 1 by omega]
    simpa [avasA, avaA] using ih

theorem indexT_k {r : List Ava} {typ : List UInt8} {cap : Option Nat} {ip : Nat} (hn : r.length ≤ 100000) (h1 : ∀ a ∈ r, (a.1.length : Int) ≤ 100000) (h2 : (typ.length : Int) ≤ 100000) {L : List Blk} {K : AV → List Blk → Prop} (hL : L[ip]? = some (.cells [.str typ]))
    (hno : hasT r typ = false → K (.int .i64 (-1)) L) (hyes : ∀ k : Nat, hasT r typ = true → K (.int .i64 k) L) : ACall Tryz.prog 111 [rdnA r cap, .func 89 [.ptr ip 0]] L K := by
  replace hno := hid hno
  replace hyes := hid hyes
  replace h1 := hid h1
  refine ACall_fn c_slices_IndexFunc_api_RDN_api_AVA_eq (by simp [c_slices_IndexFunc_api_RDN_api_AVA]) ?_
  simp only [c_slices_IndexFunc_api_RDN_api_AVA, initT]
  refine wk ?_
  refine AW_loopT (fun n T' L' => ∃ (k : Nat), n = r.length - k ∧ k ≤ r.length ∧ Hid (hasT (r.take k) typ = false) ∧ T' = [(8, .int .i64 (k : Int)), (7, .int .i64 r.length), (0, rdnA r cap), (1, .func 89 [.ptr ip 0])] ∧ L = L') (Cut_same (by repeat' first | exact SubT_nil | refine SubT_cons rfl rfl ?_ | refine SubT_consF rfl rfl ?_) (Nat.le_refl _)) ⟨0, rfl, Nat.zero_le _, hid rfl, rfl, rfl⟩ ?_
  rintro _ _ _ ⟨k, rfl, hk, hf, rfl, rfl⟩
  by_cases hlt : k < r.length
  · have g1 : (k : Int) < (r.length : Int) := by omega
    have g2 : IntKind.i64.wrap ((k : Int) + 1) = (k : Int) + 1 := wrap64_in (by omega) (by omega)
    have e1 := avasA_at hlt
    have e2 : k * 2 + 2 ≤ (avasA r).length := by rw [avasA_len]; omega
    obtain ⟨a, ha⟩ : ∃ a, r.getD k ([], []) = a := ⟨_, rfl⟩
    have ham : a ∈ r := by rw [← ha]; simp [hlt]
    have htk : r.take (k + 1) = r.take k ++ [a] := by rw [List.take_succ_eq_append_getElem hlt, ← ha]; simp [hlt]
    rw [ha] at e1
    have hs : hasT (r.take (k + 1)) typ = decide (foldS a.1 = foldS typ) := by
      have := hf.out
      simp only [hasT] at this ⊢
      rw [htk, List.any_append, this]; simp
    have hall : decide (foldS a.1 = foldS typ) = true → hasT r typ = true := fun e => List.any_eq_true.2 ⟨a, ham, e⟩
    replace hall := hid hall
    replace hs := hid hs
    replace htk := hid htk
    have ha1 := hid (h1.out a ham)
    clear ha ham
    refine wk ?_
    refine has1_k ha1.out h2 hL ?_
    refine sk ?_
    cases hd : decide (foldS a.1 = foldS typ) with
    | true =>
      have hy := hid (hyes.out k (hall.out hd))
      replace hd := hid hd
      refine wk ?_
      exact Fin_same hy.out
    | false =>
      replace hd := hid hd
      refine wk ?_
      exact Nxt_mk _ _ _ (by omega) (Cut_same (by repeat' first | exact SubT_nil | refine SubT_cons rfl rfl ?_ | refine SubT_consF rfl rfl ?_) (Nat.le_refl _)) ⟨k + 1, rfl, hlt, hid (by rw [hs.out, hd.out]), rfl, rfl⟩
  · have hke : k = r.length := by omega
    subst hke
    have g1 : ¬ (r.length : Int) < (r.length : Int) := by omega
    have hn' := hf.out
    rw [List.take_length] at hn'
    have hy := hid (hno.out hn')
    clear hn'
    refine wk ?_
    exact Fin_same hy.out
theorem containsT_k {r : List Ava} {typ : List UInt8} {cap : Option Nat} {ip : Nat} (hn : r.length ≤ 100000) (h1 : ∀ a ∈ r, (a.1.length : Int) ≤ 100000) (h2 : (typ.length : Int) ≤ 100000) {L : List Blk} {K : AV → List Blk → Prop} (hL : L[ip]? = some (.cells [.str typ])) (h : K (.bool (hasT r typ)) L) :
    ACall Tryz.prog 88 [rdnA r cap, .func 89 [.ptr ip 0]] L K := by
  replace h := hid h
  refine ACall_fn c_slices_ContainsFunc_api_RDN_api_AVA_eq (by simp [c_slices_ContainsFunc_api_RDN_api_AVA]) ?_
  simp only [c_slices_ContainsFunc_api_RDN_api_AVA, initT]
  refine wk ?_
  refine indexT_k hn h1 h2 hL (fun e => ?_) (fun k e => ?_)
  · have h' := h.out
    rw [e] at h'
    replace h' := hid h'
    refine sk ?_
    refine wk ?_
    exact Fin_same h'.out
  · have h' := h.out
    rw [e] at h'
    replace h' := hid h'
    have g : (0 : Int) ≤ (k : Int) := by omega
    refine sk ?_
    refine wk ?_
    exact Fin_same h'.out

theorem has_k {r : List Ava} {typ : List UInt8} {cap : Option Nat} (hn : r.length ≤ 100000) (h1 : ∀ a ∈ r, (a.1.length : Int) ≤ 100000) (h2 : (typ.length : Int) ≤ 100000) {L : List Blk} {K : AV → List Blk → Prop} (h : K (.bool (hasT r typ)) L) :
    ACall Tryz.prog 61 [rdnA r cap, .str typ] L K := by
  replace h := hid h
  refine ACall_fn c_dn_has_eq (by simp [c_dn_has]) ?_
  simp only [c_dn_has, initT]
  refine wk ?_
  refine containsT_k hn h1 h2 (by simp) ?_
  refine sk ?_
  refine wk ?_
  exact Fin_pure rfl h.out
end Go.Proofs.YtffnflplocbpiaaGreatDoor.Av

namespace Go.Proofs.YtffnflplocbpiaaGreatDoor.Av
open Go
set_option maxHeartbeats 8000000
set_option maxRecDepth 100000

theorem indexB_k {a : List UInt8} {c : UInt8} {L : List Blk} {K : AV → List Blk → Prop} (h : K (.int .i64 (Lib.indexByte a c)) L) : ACall Tryz.prog 90 [.str a, .int .u8 c.toNat] L K :=
  ACall_lift Tryz.func90 rfl (by kernel_rfl) (fun w0 S0 E w vs hR hv => by
    simp only [VRL, VR] at hv
    obtain ⟨_, _, rfl, rfl, _, _, rfl, rfl, rfl⟩ := hv
    exact (Tryz.strings_IndexByte ⟨⟨a⟩⟩ c.toNat w).mono fun e w' ⟨he, hw⟩ => ⟨_, he, by simp [VR], by subst hw; exact Grew.refl _⟩) h
theorem indexB_ge (a : List UInt8) (c : UInt8) : (0 ≤ Lib.indexByte a c) ↔ c ∈ a := by
  induction a with
  | nil => simp [Lib.indexByte]
  | cons b l ih =>
    have hge := Lib.indexByte_ge l c
    unfold Lib.indexByte
    by_cases hb : b = c
    · simp [hb]
    · have e1 : (b == c) = false := by simpa using hb
      rw [e1]
      simp only [Bool.false_eq_true, if_false]
      have e2 : c ∈ b :: l ↔ c ∈ l := by simp [Ne.symm hb]
      rw [e2, ← ih]
      split
      · rename_i h; simp at h; omega
      · rename_i h; simp at h; omega

theorem u8_int (c d : UInt8) : (c.toNat : Int) = (d.toNat : Int) ↔ c = d := by
  constructor
  · intro h
    exact UInt8.toNat_inj.1 (by omega)
  · rintro rfl; rfl

/-- A byte as it is written, at place i of n. -/
def wrB (i n : Nat) (c : UInt8) : List UInt8 :=
  if c = 0 then [92, 48, 48] else if (i = 0 ∧ (c = 32 ∨ c = 35)) ∨ (i + 1 = n ∧ c = 32) ∨ c ∈ [34, 43, 44, 59, 60, 62, 92] then [92, c] else [c]
def wrL (n : Nat) : Nat → List UInt8 → List UInt8
  | _, [] => []
  | i, c :: s => wrB i n c ++ wrL n (i + 1) s
def writS (s : List UInt8) : List UInt8 := wrL s.length 0 s
theorem wrB_len (i n : Nat) (c : UInt8) : (wrB i n c).length ≤ 3 := by
  unfold wrB; split
  · simp
  · split <;> simp

theorem written_k {s : List UInt8} (hs : s.length ≤ 100000) {L : List Blk} {K : AV → List Blk → Prop} (h : K (.str (writS s)) L) : ACall Tryz.prog 93 [.str s] L K := by
  replace h := hid h
  have g0 : IntKind.i64.wrap ((s.length : Int) - 1) = (s.length : Int) - 1 := wrap64_in (by omega) (by omega)
  refine ACall_fn c_dn_written_eq (by simp [c_dn_written]) ?_
  simp only [c_dn_written, initT]
  refine wk ?_
  refine AW_grow (l := []) (n := 0) 3 1 rfl (Nat.zero_mul 1).symm ?_
  refine AW_loopT (fun n T' L' => ∃ (i m : Nat) (b : List UInt8), n = s.length - i ∧ i ≤ s.length ∧ m ≤ 3 * i ∧ Hid (m = b.length ∧ b ++ wrL s.length i (s.drop i) = writS s) ∧ T' = [(10, .int .i64 (i : Int)), (9, .int .i64 s.length), (8, .sl (u8s s) s.length none), (3, .gsl (u8s b) m L.length 1), (0, .str s)] ∧ L' = L ++ [.spare m 1]) (Cut_same (by repeat' first | exact SubT_nil | refine SubT_cons rfl rfl ?_ | refine SubT_consF rfl rfl ?_) (by simp)) ⟨0, 0, [], rfl, Nat.zero_le _, by omega, hid ⟨rfl, rfl⟩, rfl, rfl⟩ ?_
  rintro _ _ _ ⟨i, m, b, rfl, hi, hm, hb, rfl, rfl⟩
  by_cases hlt : i < s.length
  · have g1 : (i : Int) < (s.length : Int) := by omega
    have g2 : IntKind.i64.wrap ((i : Int) + 1) = (i : Int) + 1 := wrap64_in (by omega) (by omega)
    obtain ⟨c, hc⟩ : ∃ c, s.getD i 0 = c := ⟨_, rfl⟩
    have g3 : (u8s s).getD i .undef = .int .u8 c.toNat := by rw [← hc]; simp [u8s, hlt]
    have hdr : s.drop i = c :: s.drop (i + 1) := by rw [List.drop_eq_getElem_cons hlt, ← hc]; simp [hlt]
    have hb2 := hb.out.2
    rw [hdr] at hb2
    simp only [wrL] at hb2
    have g4 := u8s_all
    have g5 : (u8s s).length = s.length := by simp [u8s]
    clear hc hdr
    replace hb2 := hid hb2
    repeat' first
      | refine AW_seq ?_
      | (first | refine AW_sreg (by kernel_rfl) ?_ | refine AW_sdreg (by kernel_rfl) ?_ | refine AW_dregM ?_ | refine Nx_in ?_ | refine NxI_in (fun _ => ?_) | refine AW_region ?_ | refine AW_dreg ?_ | refine indexB_k ?_ | refine CalK2_mk (indexB_k ⟨rfl, rfl⟩) (indexB_k ⟨rfl, rfl⟩) ?_ | refine CalK_mk (indexB_k ⟨rfl, rfl⟩) ?_)
        simp (config := { maxSteps := 2000000 }) only [Kon, push_cast, reduceIte, Nat.reduceEqDiff, Nat.reduceAdd, Nat.reduceMul, Nat.reduceSub, Nat.reduceLT, Nat.reduceLeDiff, Int.reduceLT, Int.reduceLE, Int.reduceAdd, Int.reduceSub, Int.reduceNeg, Int.reduceToNat, Int.reduceEq, reduceCtorEq, *]
      | (first | refine SelK_mk (by kernel_rfl) ?_ | refine AW_skip ?_ | refine AW_exit ?_ | refine AW_ret (Back_retR ?_))
        simp only [push_cast, reduceIte, Nat.reduceEqDiff, Nat.reduceAdd, Nat.reduceMul, Nat.reduceSub, Nat.reduceLT, Nat.reduceLeDiff, Int.reduceLT, Int.reduceLE, Int.reduceAdd, Int.reduceSub, Int.reduceNeg, Int.reduceToNat, Int.reduceEq, reduceCtorEq, *]
      | exact IsB_mk
      | first | apply GQ_mkT | apply GQ_mkTN | apply GQ_mkF | apply GQ_mkFN | apply GQ_mkB | apply GQ_mkBF
      | refine AW_block ?_
      | first | refine AW_condT rfl ?_ | refine AW_condF rfl ?_ | refine AW_condAny rfl ?_ ?_ | refine AW_condB rfl (fun _ => ?_) (fun _ => ?_) | refine AW_condN rfl (fun _ => ?_) (fun _ => ?_)
      | ((first | refine ite_introN (fun _ => ?_) (fun _ => ?_) | refine ite_intro (fun _ => ?_) (fun _ => ?_)) <;> try simp (config := { maxSteps := 2000000 }) only [Kon, push_cast, reduceIte, Nat.reduceEqDiff, Nat.reduceAdd, Nat.reduceMul, Nat.reduceSub, Nat.reduceLT, Nat.reduceLeDiff, Int.reduceLT, Int.reduceLE, Int.reduceAdd, Int.reduceSub, Int.reduceNeg, Int.reduceToNat, Int.reduceEq, reduceCtorEq, *])
      | refine And.intro trivial ?_
      | refine And.intro (by omega) ?_
      | refine AW_cond rfl (fun _ => ?_) (fun _ => ?_)
      | refine And.intro ?_ ?_
    · rfl
    · omega
    · rename_i h0
      have hc0 := (u8_int c 0).1 h0
      rw [show u8s b ++ AV.frzL (u8s [92, 48, 48]) = u8s (b ++ [92, 48, 48]) by simp [u8s, AV.frzL, AV.frz]]
      refine Nxt_mk _ _ _ (by omega) (Cut_same (by repeat' first | exact SubT_nil | refine SubT_cons rfl rfl ?_ | refine SubT_consF rfl rfl ?_ | refine SubT_cons rfl (congrArg (AV.int _) (by omega)) ?_ | refine SubT_cons rfl (by first | (simp_all; done) | (simp_all; omega) | (simp_all; intros; omega)) ?_) (by simp)) ⟨i + 1, m + 3, b ++ [92, 48, 48], rfl, hlt, by omega, hid ⟨by simp [hb.out.1], ?_⟩, rfl, rfl⟩
      rw [← hb2.out, wrB, if_pos hc0, List.append_assoc]
    · rename_i h0 h1
      have hc0 : ¬ c = 0 := fun e => h0 ((u8_int c 0).2 e)
      have hq : (i = 0 ∧ (c = 32 ∨ c = 35)) ∨ (i + 1 = s.length ∧ c = 32) ∨ c ∈ [34, 43, 44, 59, 60, 62, 92] := by
        rcases h1 with (⟨e1, e2⟩ | ⟨e1, e2⟩) | e
        · exact .inl ⟨by omega, e2.imp (u8_int c 32).1 (u8_int c 35).1⟩
        · exact .inr (.inl ⟨by omega, (u8_int c 32).1 e2⟩)
        · exact .inr (.inr ((indexB_ge _ _).1 e))
      rw [show u8s b ++ [AV.int IntKind.u8 92, AV.int IntKind.u8 (c.toNat : Int)] = u8s (b ++ [92, c]) by simp [u8s]]
      refine Nxt_mk _ _ _ (by omega) (Cut_same (by repeat' first | exact SubT_nil | refine SubT_cons rfl rfl ?_ | refine SubT_consF rfl rfl ?_ | refine SubT_cons rfl (congrArg (AV.int _) (by omega)) ?_ | refine SubT_cons rfl (by first | (simp_all; done) | (simp_all; omega) | (simp_all; intros; omega)) ?_) (by simp)) ⟨i + 1, m + 1 + 1, b ++ [92, c], rfl, hlt, by omega, hid ⟨by simp [hb.out.1], ?_⟩, rfl, rfl⟩
      rw [← hb2.out, wrB, if_neg hc0, if_pos hq, List.append_assoc]
    · rename_i h0 h1
      have hc0 : ¬ c = 0 := fun e => h0 ((u8_int c 0).2 e)
      have hq : ¬ ((i = 0 ∧ (c = 32 ∨ c = 35)) ∨ (i + 1 = s.length ∧ c = 32) ∨ c ∈ [34, 43, 44, 59, 60, 62, 92]) := fun hq => h1 (by
        rcases hq with ⟨e1, e2⟩ | ⟨e1, e2⟩ | e
        · exact .inl (.inl ⟨by omega, e2.imp (u8_int c 32).2 (u8_int c 35).2⟩)
        · exact .inl (.inr ⟨by omega, (u8_int c 32).2 e2⟩)
        · exact .inr ((indexB_ge _ _).2 e))
      rw [show u8s b ++ [AV.int IntKind.u8 (c.toNat : Int)] = u8s (b ++ [c]) by simp [u8s]]
      refine Nxt_mk _ _ _ (by omega) (Cut_same (by repeat' first | exact SubT_nil | refine SubT_cons rfl rfl ?_ | refine SubT_consF rfl rfl ?_ | refine SubT_cons rfl (congrArg (AV.int _) (by omega)) ?_ | refine SubT_cons rfl (by first | (simp_all; done) | (simp_all; omega) | (simp_all; intros; omega)) ?_) (by simp)) ⟨i + 1, m + 1, b ++ [c], rfl, hlt, by omega, hid ⟨by simp [hb.out.1], ?_⟩, rfl, rfl⟩
      rw [← hb2.out, wrB, if_neg hc0, if_neg hq, List.append_assoc]
  · have hke : i = s.length := by omega
    subst hke
    have g1 : ¬ (s.length : Int) < (s.length : Int) := by omega
    have e1 := u8s_all b
    have e2 := u8s_back b
    have e := hb.out.2
    rw [List.drop_length, wrL, List.append_nil] at e
    have h' := h.out
    rw [← e] at h'
    replace h' := hid h'
    clear e
    refine wk ?_
    exact Fin_pure rfl h'.out
end Go.Proofs.YtffnflplocbpiaaGreatDoor.Av

namespace Go.Proofs.YtffnflplocbpiaaGreatDoor.Av
open Go
set_option maxHeartbeats 8000000
set_option maxRecDepth 100000

abbrev specB : List UInt8 := [34, 43, 44, 59, 60, 62, 92, 32, 35, 61]
/-- The value that stands at the front of a text, behind b; what is behind it; whether no blank stands at its end. -/
def valL : List UInt8 → Bool → List UInt8 → Option (List UInt8 × List UInt8 × Bool)
  | b, bl, [] => some (b, [], !bl)
  | b, bl, c :: s => if c = 44 ∨ c = 43 then some (b, c :: s, !bl)
    else if c ≠ 92 then (if c = 0 ∨ c ∈ ([34, 59, 60, 62] : List UInt8) ∨ (b = [] ∧ (c = 32 ∨ c = 35)) then none else valL (b ++ [c]) (decide (c = 32)) s)
    else match s with
      | [] => none
      | d :: s1 => if d ∈ specB then valL (b ++ [d]) false s1 else match s1 with
        | [] => none
        | e :: s2 => match hex2 d e with
          | none => none
          | some x => valL (b ++ [x]) false s2
def valR (o : Option (List UInt8 × List UInt8 × Bool)) : AV := match o with
  | none => .tup [.str [], .str [], .bool false]
  | some (v, r, f) => .tup [.str v, .str r, .bool f]

theorem valL_nil {b : List UInt8} {bl : Bool} : valL b bl [] = some (b, [], !bl) := by rw [valL.eq_def]
theorem valL_stop {b : List UInt8} {bl : Bool} {c : UInt8} {s : List UInt8} (h : c = 44 ∨ c = 43) : valL b bl (c :: s) = some (b, c :: s, !bl) := by rw [valL.eq_def]; simp only [if_pos h]
theorem valL_plain {b : List UInt8} {bl : Bool} {c : UInt8} {s : List UInt8} (h : ¬ (c = 44 ∨ c = 43)) (h2 : c ≠ 92) : valL b bl (c :: s) = if c = 0 ∨ c ∈ ([34, 59, 60, 62] : List UInt8) ∨ (b = [] ∧ (c = 32 ∨ c = 35)) then none else valL (b ++ [c]) (decide (c = 32)) s := by
  rw [valL.eq_def]; simp only [if_neg h, if_pos h2]
theorem valL_esc0 {b : List UInt8} {bl : Bool} : valL b bl [92] = none := by rw [valL.eq_def]; rfl
theorem valL_esc1 {b : List UInt8} {bl : Bool} {d : UInt8} {s : List UInt8} (h : d ∈ specB) : valL b bl (92 :: d :: s) = valL (b ++ [d]) false s := by
  rw [valL.eq_def]
  simp only [show ¬ ((92 : UInt8) = 44 ∨ (92 : UInt8) = 43) by decide, if_false, ne_eq, not_true_eq_false, if_pos h]
theorem valL_esc2 {b : List UInt8} {bl : Bool} {d : UInt8} (h : ¬ d ∈ specB) : valL b bl [92, d] = none := by
  rw [valL.eq_def]
  simp only [show ¬ ((92 : UInt8) = 44 ∨ (92 : UInt8) = 43) by decide, if_false, ne_eq, not_true_eq_false, if_neg h]
theorem valL_hex {b : List UInt8} {bl : Bool} {d e : UInt8} {s : List UInt8} (h : ¬ d ∈ specB) : valL b bl (92 :: d :: e :: s) = match hex2 d e with | none => none | some x => valL (b ++ [x]) false s := by
  rw [valL.eq_def]
  simp only [show ¬ ((92 : UInt8) = 44 ∨ (92 : UInt8) = 43) by decide, if_false, ne_eq, not_true_eq_false, if_neg h]

theorem drop1 {s : List UInt8} {i : Nat} (h : i < s.length) : s.drop i = s.getD i 0 :: s.drop (i + 1) := by
  rw [List.drop_eq_getElem_cons h]; simp [h]

theorem value_k {s : List UInt8} (hs : s.length ≤ 100000) {L : List Blk} {K : AV → List Blk → Prop} (h : K (valR (valL [] false s)) L) : ACall Tryz.prog 62 [.str s] L K := by
  replace h := hid h
  refine ACall_fn c_dn_value_eq (by simp [c_dn_value]) ?_
  simp only [c_dn_value, initT]
  refine wk ?_
  refine AW_grow (l := []) (n := 0) 5 1 rfl (Nat.zero_mul 1).symm ?_
  refine AW_loopT (fun n T' L' => ∃ (i m : Nat) (b : List UInt8) (bl : Bool), n = s.length - i ∧ i ≤ s.length ∧ m ≤ i ∧ Hid (m = b.length ∧ valL b bl (s.drop i) = valL [] false s) ∧ T' = [(7, .int .i64 (i : Int)), (6, .bool bl), (5, .gsl (u8s b) m L.length 1), (0, .str s)] ∧ L' = L ++ [.spare m 1]) (Cut_same (by repeat' first | exact SubT_nil | refine SubT_cons rfl rfl ?_ | refine SubT_consF rfl rfl ?_) (by simp)) ⟨0, 0, [], false, rfl, Nat.zero_le _, by omega, hid ⟨rfl, rfl⟩, rfl, rfl⟩ ?_
  rintro _ _ _ ⟨i, m, b, bl, rfl, hi, hm, hb, rfl, rfl⟩
  have e1 := u8s_all b
  have e2 := u8s_back b
  by_cases hlt : i < s.length
  · have g1 : (i : Int) < (s.length : Int) := by omega
    have g2 : IntKind.i64.wrap ((i : Int) + 1) = (i : Int) + 1 := wrap64_in (by omega) (by omega)
    obtain ⟨c, hc⟩ : ∃ c, s.getD i 0 = c := ⟨_, rfl⟩
    have hdr := drop1 hlt
    rw [hc] at hdr
    have hb2 := hb.out.2
    rw [hdr] at hb2
    have hds : (s.drop i).take (s.length - i) = s.drop i := List.take_of_length_le (by simp)
    have hl1 : (i : Int) ≤ (s.length : Int) := by omega
    by_cases hcc : c = 44 ∨ c = 43
    · rw [valL_stop hcc] at hb2
      have h' := h.out
      rw [← hb2] at h'
      simp only [valR] at h'
      rw [← hdr] at h'
      replace h' := hid h'
      have k1 : ((c.toNat : Int) = 44) ∨ ((c.toNat : Int) = 43) := hcc.imp (u8_int c 44).2 (u8_int c 43).2
      clear hb2 hcc hdr
      rcases k1 with k1 | k1
      · refine wk ?_
        exact Fin_pure rfl h'.out
      · refine wk ?_
        exact Fin_pure rfl h'.out
    · have k1 : ¬ (c.toNat : Int) = 44 := fun e => hcc (.inl ((u8_int c 44).1 e))
      have k2 : ¬ (c.toNat : Int) = 43 := fun e => hcc (.inr ((u8_int c 43).1 e))
      by_cases h92 : c = 92
      · subst h92
        have g3 : IntKind.i64.wrap ((i : Int) + 2) = (i : Int) + 2 := wrap64_in (by omega) (by omega)
        have g4 : IntKind.i64.wrap ((i : Int) + 3) = (i : Int) + 3 := wrap64_in (by omega) (by omega)
        have g5 : IntKind.i64.wrap ((i : Int) + 1 + 1) = (i : Int) + 1 + 1 := wrap64_in (by omega) (by omega)
        have g6 : IntKind.i64.wrap ((i : Int) + 2 + 1) = (i : Int) + 2 + 1 := wrap64_in (by omega) (by omega)
        have t1 : ((i : Int) + 1).toNat = i + 1 := by omega
        have t3 : ((i : Int) + 3).toNat = i + 3 := by omega
        by_cases h1 : i + 1 < s.length
        · have f1 : (i : Int) + 1 < (s.length : Int) := by omega
          obtain ⟨d, hd⟩ : ∃ d, s.getD (i + 1) 0 = d := ⟨_, rfl⟩
          have hdr1 := drop1 h1
          rw [hd] at hdr1
          rw [hdr1] at hb2
          by_cases hsp : d ∈ specB
          · rw [valL_esc1 hsp] at hb2
            have f2 := (indexB_ge specB d).2 hsp
            clear hdr hdr1
            replace hb2 := hid hb2
            have kk1 := @hid _ @indexB_k
            refine wk ?_
            rw [show u8s b ++ [AV.int IntKind.u8 (d.toNat : Int)] = u8s (b ++ [d]) by simp [u8s], show decide (((UInt8.toNat 92 : Nat) : Int) = 32) = false from rfl]
            refine Nxt_mk _ _ _ (by omega) (Cut_same (by repeat' first | exact SubT_nil | refine SubT_cons rfl rfl ?_ | refine SubT_consF rfl rfl ?_ | refine SubT_cons rfl (congrArg (AV.int _) (by omega)) ?_ | refine SubT_cons rfl (by first | (simp_all; done) | (simp_all; omega) | (simp_all; intros; omega)) ?_) (by simp)) ⟨i + 1 + 1, m + 1, b ++ [d], false, rfl, h1, by omega, hid ⟨by simp [hb.out.1], hb2.out⟩, rfl, rfl⟩
          · have f2 : ¬ 0 ≤ Lib.indexByte specB d := fun e => hsp ((indexB_ge specB d).1 e)
            by_cases h2 : i + 2 < s.length
            · have f3 : (i : Int) + 2 < (s.length : Int) := by omega
              have f4 : (i : Int) + 1 ≤ (i : Int) + 3 := by omega
              have f5 : (i : Int) + 3 ≤ (s.length : Int) := by omega
              have f6 : (0 : Int) ≤ (i : Int) + 1 := by omega
              obtain ⟨e, he⟩ : ∃ e, s.getD (i + 2) 0 = e := ⟨_, rfl⟩
              have hdr2 := drop1 h2
              rw [he] at hdr2
              rw [hdr2, valL_hex hsp] at hb2
              have hcut : (s.drop (i + 1)).take (i + 3 - (i + 1)) = [d, e] := by
                rw [hdr1, hdr2, show i + 3 - (i + 1) = 2 by omega]; rfl
              clear hdr hdr1 hdr2
              replace hb2 := hid hb2
              have kk1 := @hid _ @indexB_k
              refine wk ?_
              refine unhex2_k ?_
              rcases hx : hex2 d e with _ | x
              · rw [show hexR d e = .tup [.str [], .bool false] by simp only [hexR, hx]]
                have h' := h.out
                rw [← hb2.out, hx] at h'
                simp only [valR] at h'
                replace h' := hid h'
                clear hx
                refine sk ?_
                refine wk ?_
                exact Fin_pure rfl h'.out
              · rw [show hexR d e = .tup [.str [x], .bool true] by simp only [hexR, hx]]
                have hb3 := hb2.out
                rw [hx] at hb3
                simp only at hb3
                replace hb3 := hid hb3
                have q1 : [x].getD 0 0 = x := rfl
                clear hx hb2
                refine sk ?_
                refine wk ?_
                rw [show u8s b ++ [AV.int IntKind.u8 (x.toNat : Int)] = u8s (b ++ [x]) by simp [u8s], show decide (((UInt8.toNat 92 : Nat) : Int) = 32) = false from rfl]
                refine Nxt_mk _ _ _ (by omega) (Cut_same (by repeat' first | exact SubT_nil | refine SubT_cons rfl rfl ?_ | refine SubT_consF rfl rfl ?_ | refine SubT_cons rfl (congrArg (AV.int _) (by omega)) ?_ | refine SubT_cons rfl (by first | (simp_all; done) | (simp_all; omega) | (simp_all; intros; omega)) ?_) (by simp)) ⟨i + 2 + 1, m + 1, b ++ [x], false, rfl, h2, by omega, hid ⟨by simp [hb.out.1], hb3.out⟩, rfl, rfl⟩
            · have f3 : ¬ (i : Int) + 2 < (s.length : Int) := by omega
              have hnil : s.drop (i + 1 + 1) = [] := List.drop_eq_nil_of_le (by omega)
              rw [hnil, valL_esc2 hsp] at hb2
              have h' := h.out
              rw [← hb2] at h'
              replace h' := hid h'
              clear hdr hdr1 hb2
              have kk1 := @hid _ @indexB_k
              refine wk ?_
              exact Fin_pure rfl h'.out
        · have f1 : ¬ (i : Int) + 1 < (s.length : Int) := by omega
          have f3 : ¬ (i : Int) + 2 < (s.length : Int) := by omega
          have hnil : s.drop (i + 1) = [] := List.drop_eq_nil_of_le (by omega)
          rw [hnil, valL_esc0] at hb2
          have h' := h.out
          rw [← hb2] at h'
          replace h' := hid h'
          clear hdr hb2
          have kk1 := @hid _ @indexB_k
          refine wk ?_
          exact Fin_pure rfl h'.out
      · rw [valL_plain hcc h92] at hb2
        have k3 : ¬ (c.toNat : Int) = 92 := fun e => h92 ((u8_int c 92).1 e)
        clear hdr
        replace hb2 := hid hb2
        repeat' first
          | refine AW_seq ?_
          | (first | refine AW_sreg (by kernel_rfl) ?_ | refine AW_sdreg (by kernel_rfl) ?_ | refine AW_dregM ?_ | refine Nx_in ?_ | refine NxI_in (fun _ => ?_) | refine AW_region ?_ | refine AW_dreg ?_ | refine indexB_k ?_ | refine CalK2_mk (indexB_k ⟨rfl, rfl⟩) (indexB_k ⟨rfl, rfl⟩) ?_ | refine CalK_mk (indexB_k ⟨rfl, rfl⟩) ?_)
            simp (config := { maxSteps := 2000000 }) only [Kon, push_cast, reduceIte, Nat.reduceEqDiff, Nat.reduceAdd, Nat.reduceMul, Nat.reduceSub, Nat.reduceLT, Nat.reduceLeDiff, Int.reduceLT, Int.reduceLE, Int.reduceAdd, Int.reduceSub, Int.reduceNeg, Int.reduceToNat, Int.reduceEq, reduceCtorEq, *]
          | (first | refine SelK_mk (by kernel_rfl) ?_ | refine AW_skip ?_ | refine AW_exit ?_ | refine AW_ret (Back_retR ?_))
            simp only [push_cast, reduceIte, Nat.reduceEqDiff, Nat.reduceAdd, Nat.reduceMul, Nat.reduceSub, Nat.reduceLT, Nat.reduceLeDiff, Int.reduceLT, Int.reduceLE, Int.reduceAdd, Int.reduceSub, Int.reduceNeg, Int.reduceToNat, Int.reduceEq, reduceCtorEq, *]
          | exact IsB_mk
          | first | apply GQ_mkT | apply GQ_mkTN | apply GQ_mkF | apply GQ_mkFN | apply GQ_mkB | apply GQ_mkBF
          | refine AW_block ?_
          | first | refine AW_condT rfl ?_ | refine AW_condF rfl ?_ | refine AW_condAny rfl ?_ ?_ | refine AW_condB rfl (fun _ => ?_) (fun _ => ?_) | refine AW_condN rfl (fun _ => ?_) (fun _ => ?_)
          | ((first | refine ite_introN (fun _ => ?_) (fun _ => ?_) | refine ite_intro (fun _ => ?_) (fun _ => ?_)) <;> try simp (config := { maxSteps := 2000000 }) only [Kon, push_cast, reduceIte, Nat.reduceEqDiff, Nat.reduceAdd, Nat.reduceMul, Nat.reduceSub, Nat.reduceLT, Nat.reduceLeDiff, Int.reduceLT, Int.reduceLE, Int.reduceAdd, Int.reduceSub, Int.reduceNeg, Int.reduceToNat, Int.reduceEq, reduceCtorEq, *])
          | refine And.intro trivial ?_
          | refine And.intro (by omega) ?_
          | refine AW_cond rfl (fun _ => ?_) (fun _ => ?_)
          | refine And.intro ?_ ?_
        · rename_i hx
          have hbad : c = 0 ∨ c ∈ ([34, 59, 60, 62] : List UInt8) ∨ (b = [] ∧ (c = 32 ∨ c = 35)) := by
            rcases hx with (e | e) | ⟨e, e'⟩
            · exact .inl ((u8_int c 0).1 e)
            · exact .inr (.inl ((indexB_ge _ _).1 e))
            · refine .inr (.inr ⟨List.length_eq_zero_iff.1 ?_, e'.imp (u8_int c 32).1 (u8_int c 35).1⟩)
              have := hb.out.1; omega
          have h' := h.out
          rw [← hb2.out, if_pos hbad] at h'
          exact Fin_pure rfl h'
        · rename_i hx
          have hbad : ¬ (c = 0 ∨ c ∈ ([34, 59, 60, 62] : List UInt8) ∨ (b = [] ∧ (c = 32 ∨ c = 35))) := fun e => hx (by
            rcases e with e | e | ⟨e, e'⟩
            · exact .inl (.inl ((u8_int c 0).2 e))
            · exact .inl (.inr ((indexB_ge _ _).2 e))
            · refine .inr ⟨?_, e'.imp (u8_int c 32).2 (u8_int c 35).2⟩
              have := hb.out.1; rw [e] at this; simp at this; omega)
          have hc32 : decide ((c.toNat : Int) = 32) = decide (c = 32) := by
            have := u8_int c 32
            simp only [decide_eq_decide]; exact this
          rw [show u8s b ++ [AV.int IntKind.u8 (c.toNat : Int)] = u8s (b ++ [c]) by simp [u8s], hc32]
          refine Nxt_mk _ _ _ (by omega) (Cut_same (by repeat' first | exact SubT_nil | refine SubT_cons rfl rfl ?_ | refine SubT_consF rfl rfl ?_ | refine SubT_cons rfl (congrArg (AV.int _) (by omega)) ?_ | refine SubT_cons rfl (by first | (simp_all; done) | (simp_all; omega) | (simp_all; intros; omega)) ?_) (by simp)) ⟨i + 1, m + 1, b ++ [c], decide (c = 32), rfl, hlt, by omega, hid ⟨by simp [hb.out.1], ?_⟩, rfl, rfl⟩
          rw [← hb2.out, if_neg hbad]
  · have hke : i = s.length := by omega
    subst hke
    have g1 : ¬ (s.length : Int) < (s.length : Int) := by omega
    have h' := h.out
    rw [← hb.out.2, List.drop_length, valL_nil] at h'
    simp only [valR] at h'
    replace h' := hid h'
    have hds : (s.drop s.length).take (s.length - s.length) = [] := by simp
    refine wk ?_
    exact Fin_pure rfl h'.out
end Go.Proofs.YtffnflplocbpiaaGreatDoor.Av

namespace Go.Proofs.YtffnflplocbpiaaGreatDoor.Av
open Go
set_option maxHeartbeats 8000000
set_option maxRecDepth 100000

def cutE : List UInt8 → Option (List UInt8 × List UInt8)
  | [] => none
  | c :: s => if c = 61 then some ([], s) else match cutE s with
    | none => none
    | some (a, b) => some (c :: a, b)
theorem cutE_index : ∀ s : List UInt8, (Lib.indexByte s 61 = -1 ∧ cutE s = none) ∨ ∃ n : Nat, n < s.length ∧ Lib.indexByte s 61 = (n : Int) ∧ cutE s = some (s.take n, s.drop (n + 1))
  | [] => .inl ⟨rfl, rfl⟩
  | c :: s => by
    by_cases hc : c = 61
    · subst hc
      exact .inr ⟨0, by simp, by simp [Lib.indexByte], by simp [cutE]⟩
    · have e1 : (c == 61) = false := by simpa using hc
      unfold Lib.indexByte
      rw [e1]
      simp only [Bool.false_eq_true, if_false, cutE, if_neg hc]
      rcases cutE_index s with ⟨h1, h2⟩ | ⟨n, h0, h1, h2⟩
      · exact .inl ⟨by rw [h1]; rfl, by rw [h2]⟩
      · refine .inr ⟨n + 1, by simp; omega, ?_, by rw [h2]; simp⟩
        rw [h1]
        have : ((n : Int) == -1) = false := by simp
        rw [this]; simp
def cutR (s : List UInt8) : AV := match cutE s with
  | some (a, b) => .tup [.str a, .str b, .bool true]
  | none => .tup [.str s, .str [], .bool false]
theorem index1_k {a : List UInt8} {c : UInt8} {L : List Blk} {K : AV → List Blk → Prop} (h : K (.int .i64 (Lib.indexByte a c)) L) : ACall Tryz.prog 52 [.str a, .str [c]] L K :=
  ACall_lift Tryz.func52 rfl (by kernel_rfl) (fun w0 S0 E w vs hR hv => by
    simp only [VRL, VR] at hv
    obtain ⟨_, _, rfl, rfl, _, _, rfl, rfl, rfl⟩ := hv
    exact (Tryz.stringslite_Index_one ⟨⟨a⟩⟩ c w).mono fun e w' ⟨he, hw⟩ => ⟨_, he, by simp [VR], by subst hw; exact Grew.refl _⟩) h
theorem cut0_k {s : List UInt8} (hs : s.length ≤ 100000) {L : List Blk} {K : AV → List Blk → Prop} (h : K (cutR s) L) : ACall Tryz.prog 86 [.str s, .str [61]] L K := by
  have hl : [(61 : UInt8)].length = 1 := rfl
  rcases cutE_index s with ⟨h1, h2⟩ | ⟨n, h0, h1, h2⟩
  · simp only [cutR, h2] at h
    replace h := hid h
    clear h2
    refine ACall_fn c_internal_stringslite_Cut_eq (by simp [c_internal_stringslite_Cut]) ?_
    simp only [c_internal_stringslite_Cut, initT]
    have kk1 := @hid _ @index1_k
    refine wk ?_
    exact Fin_same h.out
  · simp only [cutR, h2] at h
    replace h := hid h
    have g1 : (0 : Int) ≤ (n : Int) := by omega
    have g2 : IntKind.i64.wrap ((n : Int) + 1) = (n : Int) + 1 := wrap64_in (by omega) (by omega)
    have g3 : (n : Int) ≤ (s.length : Int) := by omega
    have g4 : (n : Int) + 1 ≤ (s.length : Int) := by omega
    have g5 : (0 : Int) ≤ (n : Int) + 1 := by omega
    have g6 : ((n : Int) + 1).toNat = n + 1 := by omega
    have g7 : (s.drop (n + 1)).take (s.length - (n + 1)) = s.drop (n + 1) := List.take_of_length_le (by simp)
    clear h2
    refine ACall_fn c_internal_stringslite_Cut_eq (by simp [c_internal_stringslite_Cut]) ?_
    simp only [c_internal_stringslite_Cut, initT]
    have kk1 := @hid _ @index1_k
    refine wk ?_
    exact Fin_same h.out
theorem cut_k {s : List UInt8} (hs : s.length ≤ 100000) {L : List Blk} {K : AV → List Blk → Prop} (h : K (cutR s) L) : ACall Tryz.prog 59 [.str s, .str [61]] L K := by
  rcases hc : cutE s with _ | ⟨a, b⟩
  all_goals
    simp only [cutR, hc] at h
    replace h := hid h
  · refine ACall_fn c_strings_Cut_eq (by simp [c_strings_Cut]) ?_
    simp only [c_strings_Cut, initT]
    refine wk ?_
    refine cut0_k hs ?_
    simp only [cutR, hc]
    refine sk ?_
    refine wk ?_
    exact Fin_same h.out
  · refine ACall_fn c_strings_Cut_eq (by simp [c_strings_Cut]) ?_
    simp only [c_strings_Cut, initT]
    refine wk ?_
    refine cut0_k hs ?_
    simp only [cutR, hc]
    refine sk ?_
    refine wk ?_
    exact Fin_same h.out
abbrev Rdn := List Ava
abbrev rdnF (r : Rdn) : AV := rdnA r none
/-- A text's name, or what is wrong. -/
def parF : Nat → List Rdn → Rdn → List UInt8 → List Rdn × Int
  | 0, _, _, _ => ([], 4)
  | f + 1, out, now, s => if out.length = 32 ∨ now.length = 8 then ([], 9) else match cutE s with
    | none => ([], 4)
    | some (typ, rest) => if typS typ = false then ([], 4) else if hasT now typ = true then ([], 21) else match valL [] false rest with
      | none => ([], 4)
      | some (v, r2, ok) => if ok = false then ([], 4) else match r2 with
        | [] => (out ++ [now ++ [(typ, v)]], 0)
        | c :: s' => if c = 44 then parF f (out ++ [now ++ [(typ, v)]]) [] s' else parF f out (now ++ [(typ, v)]) s'
def parS (s : List UInt8) : List Rdn × Int := if 4096 < s.length then ([], 5) else if s = [] then ([], 0) else parF (s.length + 1) [] [] s
def parA (p : List Rdn × Int) : AV := .tup [.sl (p.1.map rdnF) p.1.length none, .int .i64 p.2]

theorem cutE_len : ∀ {s a b : List UInt8}, cutE s = some (a, b) → b.length < s.length ∧ a.length ≤ s.length
  | [], a, b, h => by simp [cutE] at h
  | c :: s, a, b, h => by
    simp only [cutE] at h
    split at h
    · simp only [Option.some.injEq, Prod.mk.injEq] at h
      obtain ⟨rfl, rfl⟩ := h
      simp
    · split at h
      · cases h
      · rename_i a' b' hc
        simp only [Option.some.injEq, Prod.mk.injEq] at h
        obtain ⟨rfl, rfl⟩ := h
        have := cutE_len hc
        simp; omega
theorem valL_len : ∀ (n : Nat) {s b : List UInt8} {bl : Bool} {v r : List UInt8} {ok : Bool}, s.length ≤ n → valL b bl s = some (v, r, ok) → r.length ≤ s.length := by
  intro n
  induction n with
  | zero =>
    intro s b bl v r ok hn h
    obtain rfl := List.length_eq_zero_iff.1 (Nat.le_zero.1 hn)
    rw [valL_nil] at h; cases h; simp
  | succ n ih =>
    intro s b bl v r ok hn h
    cases s with
    | nil => rw [valL_nil] at h; cases h; simp
    | cons c s =>
      simp only [List.length_cons] at hn
      by_cases hc : c = 44 ∨ c = 43
      · rw [valL_stop hc] at h; cases h; simp
      by_cases h92 : c = 92
      · subst h92
        cases s with
        | nil => rw [valL_esc0] at h; cases h
        | cons d s =>
          by_cases hd : d ∈ specB
          · rw [valL_esc1 hd] at h
            have := ih (by simp at hn; omega) h
            simp; omega
          · cases s with
            | nil => rw [valL_esc2 hd] at h; cases h
            | cons e s =>
              rw [valL_hex hd] at h
              split at h
              · cases h
              · have := ih (by simp at hn; omega) h
                simp; omega
      · rw [valL_plain hc h92] at h
        split at h
        · cases h
        · have := ih (by omega) h
          simp; omega

section
variable {P : Program} {N : Nat} {own : Nat → Nat → Nat} {Q : Exit → Tm → List Blk → Prop} {T : Tm} {L : List Blk}
/-- A row that is nil, or grows already: it grows. -/
theorem AW_nilg {lc : LCode} (t sz B : Nat) {l : List AV} {n : Nat} {v : AV} (ht : look T t = some v) (hB : B < L.length) (hv : (v = .sl [] 0 (some 0) ∧ l = [] ∧ n = 0) ∨ ∃ i, B < i ∧ v = .gsl l n i sz ∧ L[i]? = some (.spare n sz))
    (h : ∀ i X, B < i → (L ++ X)[i]? = some (.spare n sz) → AW P N own lc Q ((t, .gsl l n i sz) :: T) (L ++ X)) : AW P N own lc Q T L := by
  rcases hv with ⟨rfl, rfl, rfl⟩ | ⟨i, hBi, rfl, hi⟩
  · exact AW_grow t sz ht (by simp) (h L.length [.spare 0 sz] hB (by simp))
  · have h' := h i [] hBi (by simpa using hi)
    rw [List.append_nil] at h'
    refine h'.weakT fun t' v' e => ?_
    simp only [look] at e
    split at e
    · rename_i e1; subst e1; cases e; exact ht
    · exact e
end

end Go.Proofs.YtffnflplocbpiaaGreatDoor.Av

namespace Go.Proofs.YtffnflplocbpiaaGreatDoor.Av
open Go
set_option maxHeartbeats 8000000
set_option maxRecDepth 100000

/-- A row of RDN that is nil, or grows. -/
def NowV (B : Nat) (r : Rdn) (v : AV) (L : List Blk) : Prop := (v = .sl [] 0 (some 0) ∧ avasA r = [] ∧ r.length = 0) ∨ ∃ i, B < i ∧ v = .gsl (avasA r) r.length i 2 ∧ L[i]? = some (.spare r.length 2)
theorem avasA_app (r : Rdn) (t v : List UInt8) : avasA (r ++ [(t, v)]) = avasA r ++ [.str t, .str v] := by simp [avasA, avaA]
theorem avasA_frz (r : Rdn) : AV.frzL (avasA r) = avasA r := by
  induction r with
  | nil => rfl
  | cons a r ih => simpa [avasA, avaA, AV.frzL, AV.frz] using ih
theorem err_fin {L0 X : List Blk} {e : Int} {K : AV → List Blk → Prop} (h : K (parA ([], e)) L0) : Fin L0 (.tup [.sl [] 0 (some 0), .int .i64 e]) (L0 ++ X) K := Fin_frz (Fin_pure rfl h)

theorem rdns_frz (d : List Rdn) : AV.frzL (d.map rdnF) = d.map rdnF := by
  rw [AV.frzL_eq, List.map_map]
  refine List.map_congr_left fun r _ => ?_
  simp only [Function.comp, AV.frz, avasA_frz]
theorem avas_refs (q : Nat → Bool) (r : Rdn) : AV.refsL q (avasA r) = true := by
  induction r with
  | nil => rfl
  | cons a r ih => simpa [avasA, avaA, AV.refsL, AV.refs] using ih
theorem rdns_refs (q : Nat → Bool) : ∀ d : List Rdn, AV.refsL q (d.map rdnF) = true
  | [] => rfl
  | r :: d => by simp only [List.map_cons, AV.refsL, AV.refs, avas_refs, rdns_refs q d, Bool.and_self]
theorem typS_len {s : List UInt8} (h : typS s = true) : s.length ≤ 32 := by
  simp only [typS, Bool.and_eq_true, decide_eq_true_eq] at h
  exact h.1.1.2
theorem hasG_k {r : Rdn} {typ : List UInt8} {i n : Nat} (hr : r.length = n) (hn : n ≤ 8) (h1 : ∀ a ∈ r, a.1.length ≤ 32) (h2 : typ.length ≤ 4096) {L : List Blk} {K : AV → List Blk → Prop} (h : K (.bool (hasT r typ)) L) :
    ACall Tryz.prog 61 [.gsl (avasA r) n i 2, .str typ] L K := by
  subst hr
  exact ACall_frz (by simpa only [AV.frzL, AV.frz, avasA_frz] using has_k (cap := none) (by omega) (fun a ha => by have := h1 a ha; omega) (by omega) h)
theorem parse_k {s : List UInt8} {L : List Blk} {K : AV → List Blk → Prop} (h : K (parA (parS s)) L) : ACall Tryz.prog 42 [.str s] L K := by
  refine ACall_fn c_dn_Parse_eq (by simp [c_dn_Parse]) ?_
  simp only [c_dn_Parse, initT]
  by_cases h1 : 4096 < s.length
  · have f1 : (4096 : Int) < (s.length : Int) := by omega
    rw [parS, if_pos h1] at h
    replace h := hid h
    clear h1
    refine wk ?_
    exact Fin_frz (Fin_same h.out)
  have f1 : ¬ (4096 : Int) < (s.length : Int) := by omega
  rw [parS, if_neg h1] at h
  by_cases h2 : s = []
  · rw [if_pos h2] at h
    replace h := hid h
    refine wk ?_
    exact Fin_frz (Fin_same h.out)
  rw [if_neg h2] at h
  replace h := hid h
  have hs := hid (show s.length ≤ 4096 by omega)
  clear h1
  obtain ⟨R, hR⟩ : ∃ R, parF (s.length + 1) [] [] s = R := ⟨_, rfl⟩
  rw [hR] at h
  refine wk ?_
  refine AW_grow (l := []) (n := 0) 4 1 rfl (Nat.zero_mul 1).symm ?_
  refine AW_loopT (fun n T' L' => ∃ (f m : Nat) (out : List Rdn) (now : Rdn) (u : List UInt8) (v : AV) (X : List Blk), f = n ∧ u.length ≤ 4096 ∧ m = out.length ∧ m ≤ 32 ∧ now.length ≤ 8 ∧ Hid (u.length < f ∧ parF f out now u = R ∧ (∀ a ∈ now, a.1.length ≤ 32) ∧ NowV L.length now v L') ∧ L'[L.length]? = some (.spare m 1) ∧ T' = [(5, v), (4, .gsl (out.map rdnF) m L.length 1), (0, .str u)] ∧ L' = L ++ X) (Cut_same (by repeat' first | exact SubT_nil | refine SubT_cons rfl rfl ?_ | refine SubT_consF rfl rfl ?_) (by simp)) ⟨s.length + 1, 0, [], [], s, _, [.spare 0 1], rfl, hs.out, rfl, by omega, by simp, hid ⟨by omega, hR, by simp, .inl ⟨rfl, rfl, rfl⟩⟩, by simp, rfl, rfl⟩ ?_
  clear h2
  clear hs
  rintro _ _ _ ⟨f, m, out, now, u, v, X, rfl, hu, hm, hm32, hn8, hI, ho, rfl, rfl⟩
  obtain ⟨hf, hp, ht, hv⟩ := hI.out
  clear hI
  clear hR
  obtain ⟨f, rfl⟩ : ∃ g, f = g + 1 := ⟨f - 1, by omega⟩
  have hB : L.length < (L ++ X).length := (List.getElem?_eq_some_iff.1 ho).1
  refine AW_nilg 5 2 L.length rfl hB hv fun i Y hBi hi => ?_
  rw [List.append_assoc] at hi ⊢
  have ho2 : (L ++ (X ++ Y))[L.length]? = some (.spare m 1) := by rw [← List.append_assoc, List.getElem?_append_left hB]; exact ho
  generalize X ++ Y = Z at hi ho2 ⊢
  clear ho hB hv
  have s5 : ∀ A, (L ++ Z).set i A = L ++ Z.set (i - L.length) A := fun A => List.set_append_right _ _ (by omega)
  have s4 : ∀ (W : List Blk) A, (L ++ W).set L.length A = L ++ W.set 0 A := fun W A => by rw [List.set_append_right _ _ (Nat.le_refl _), Nat.sub_self]
  have hz : i - L.length ≠ 0 := by omega
  have s54 : ∀ A, (L ++ Z.set (i - L.length) A)[L.length]? = some (.spare m 1) := fun A => by rw [← s5, List.getElem?_set_ne (by omega)]; exact ho2
  have s55 : ∀ A, (L ++ Z.set (i - L.length) A)[i]? = some A := fun A => by rw [← s5, List.getElem?_set, if_pos rfl, if_pos (List.getElem?_eq_some_iff.1 hi).1]
  have hul := hu
  obtain ⟨c, hc⟩ : ∃ c : Nat, now.length = c := ⟨_, rfl⟩
  rw [parF] at hp
  rw [hc] at hp hi hn8 ⊢
  by_cases hlim : out.length = 32 ∨ c = 8
  · rw [if_pos hlim] at hp
    have h' := h.out
    rw [← hp] at h'
    replace h' := hid h'
    have k : (m : Int) = 32 ∨ (m : Int) ≠ 32 ∧ (c : Int) = 8 := by omega
    clear hp hlim
    clear hm
    rcases k with k | ⟨k, k'⟩
    · refine wk ?_
      exact err_fin h'.out
    · refine wk ?_
      exact err_fin h'.out
  rw [if_neg hlim] at hp
  have k1 : ¬ (m : Int) = 32 := by omega
  have k2 : ¬ (c : Int) = 8 := by omega
  replace hm := hid hm
  clear hlim
  replace hp := hid hp
  replace ht := hid ht
  refine wk ?_
  refine cut_k (by omega) ?_
  rcases hcut : cutE u with _ | ⟨typ, rest⟩
  · rw [show cutR u = .tup [.str u, .str [], .bool false] by simp only [cutR, hcut]]
    have h' := h.out
    rw [← hp.out, hcut] at h'
    simp only at h'
    replace h' := hid h'
    refine sk ?_
    refine wk ?_
    exact err_fin h'.out
  rw [show cutR u = .tup [.str typ, .str rest, .bool true] by simp only [cutR, hcut]]
  have hp2 := hp.out
  rw [hcut] at hp2
  simp only at hp2
  have hlen := cutE_len hcut
  replace hp2 := hid hp2
  clear hcut hp
  refine sk ?_
  cases hty : typS typ with
  | false =>
    have h' := h.out
    rw [← hp2.out, if_pos hty] at h'
    replace h' := hid h'
    have kk1 := @hid _ @type_k
    refine wk ?_
    exact err_fin h'.out
  | true =>
    have hp3 := hp2.out
    rw [if_neg (by rw [hty]; simp)] at hp3
    replace hp3 := hid hp3
    clear hp2
    have kk1 := @hid _ @type_k
    refine wk ?_
    refine hasG_k hc hn8 ht.out (by omega) ?_
    cases hha : hasT now typ with
    | true =>
      have h' := h.out
      rw [← hp3.out, if_pos hha] at h'
      replace h' := hid h'
      refine sk ?_
      refine wk ?_
      exact err_fin h'.out
    | false =>
      have hp4 := hp3.out
      rw [if_neg (by rw [hha]; simp)] at hp4
      replace hp4 := hid hp4
      clear hp3
      refine sk ?_
      refine wk ?_
      refine value_k (by omega) ?_
      rcases hvl : valL [] false rest with _ | ⟨w, r2, okk⟩
      · have h' := h.out
        rw [← hp4.out, hvl] at h'
        simp only at h'
        replace h' := hid h'
        simp only [valR]
        refine sk ?_
        refine wk ?_
        exact err_fin h'.out
      · have hp5 := hp4.out
        rw [hvl] at hp5
        simp only at hp5
        have hl2 := valL_len _ (Nat.le_refl _) hvl
        replace hp5 := hid hp5
        clear hp4 hvl
        simp only [valR]
        refine sk ?_
        cases okk with
        | false =>
          have h' := h.out
          rw [← hp5.out, if_pos rfl] at h'
          replace h' := hid h'
          refine wk ?_
          exact err_fin h'.out
        | true =>
          have hp6 := hp5.out
          rw [if_neg (by simp)] at hp6
          replace hp6 := hid hp6
          clear hp5
          have q1 : (c + 1) * 32 ≤ 140737488355328 := by omega
          have q2 : c + 1 ≤ 140737488355328 := by omega
          have q3 : (m + 1) * 24 ≤ 140737488355328 := by omega
          have q4 : m + 1 ≤ 140737488355328 := by omega
          have e1 : avasA now ++ [AV.str typ, AV.str w] = avasA (now ++ [(typ, w)]) := (avasA_app _ _ _).symm
          have e2 : out.map rdnF ++ [AV.sl (AV.frzL (avasA now ++ [AV.str typ, AV.str w])) (c + 1) none] = (out ++ [now ++ [(typ, w)]]).map rdnF := by
            rw [e1, avasA_frz, List.map_append]
            simp [hc]
          have e3 : (out ++ [now ++ [(typ, w)]]).length = m + 1 := by simp [hm.out]
          have e4 : (now ++ [(typ, w)]).length = c + 1 := by simp [hc]
          have e5 : ∀ a ∈ now ++ [(typ, w)], a.1.length ≤ 32 := fun a ha => by
            rcases List.mem_append.1 ha with h | h
            · exact ht.out a h
            · rw [List.mem_singleton.1 h]; exact typS_len hty
          replace e1 := hid e1
          replace e2 := hid e2
          replace e3 := hid e3
          replace e4 := hid e4
          replace e5 := hid e5
          cases r2 with
          | nil =>
            have h' := h.out
            rw [← hp6.out] at h'
            simp only at h'
            replace h' := hid h'
            refine wk ?_
            rw [e2.out]
            refine Fin_frz (Fin_pure ?_ ?_)
            · simp only [AV.frz, AV.frzL, rdns_frz, AV.refs, AV.refsL, rdns_refs, Bool.and_self]
            · simp only [AV.frz, AV.frzL, rdns_frz]
              have := h'.out
              simp only [parA, e3.out] at this
              exact this
          | cons x s' =>
            simp only at hp6
            have q5 : ¬ (x :: s' = []) := by simp
            have q7 : ((s'.length : Int) + 1).toNat - 1 = s'.length := by omega
            have q8 : s'.take (((s'.length : Int) + 1).toNat - 1) = s' := by rw [q7, List.take_length]
            simp only [List.length_cons] at hl2
            clear q7
            replace q8 := hid q8
            by_cases hx : x = 44
            · subst hx
              refine wk ?_
              rw [q8.out, e2.out]
              refine Nxt_mk _ _ _ ?_ (Cut_same (by repeat' first | exact SubT_nil | refine SubT_cons rfl rfl ?_ | refine SubT_consF rfl rfl ?_) ?_) ⟨f, m + 1, out ++ [now ++ [(typ, w)]], [], s', .sl [] 0 (some 0), _, rfl, by omega, e3.out.symm, by omega, by simp, hid ⟨by omega, ?_, by simp, .inl ⟨rfl, rfl, rfl⟩⟩, ?_, rfl, rfl⟩
              · omega
              · have := (List.getElem?_eq_some_iff.1 ho2).1
                simp at this ⊢; omega
              · rw [← hp6.out, if_pos rfl]
              · have := (List.getElem?_eq_some_iff.1 ho2).1
                rw [← s4, List.getElem?_set, if_pos rfl, if_pos (by simp at this ⊢; omega)]
            · have q6 : ¬ (x.toNat : Int) = 44 := fun e => hx ((u8_int x 44).1 e)
              refine wk ?_
              rw [q8.out, e1.out]
              refine Nxt_mk _ _ _ ?_ (Cut_same (by repeat' first | exact SubT_nil | refine SubT_cons rfl rfl ?_ | refine SubT_consF rfl rfl ?_) ?_) ⟨f, m, out, now ++ [(typ, w)], s', .gsl (avasA (now ++ [(typ, w)])) (c + 1) i 2, _, rfl, by omega, hm.out, hm32, by rw [e4.out]; omega, hid ⟨by omega, ?_, e5.out, .inr ⟨i, hBi, by rw [e4.out], by rw [e4.out]; exact s55 _⟩⟩, s54 _, rfl, rfl⟩
              · omega
              · have := (List.getElem?_eq_some_iff.1 ho2).1
                simp at this ⊢; omega
              · rw [← hp6.out, if_neg hx]
end Go.Proofs.YtffnflplocbpiaaGreatDoor.Av

namespace Go.Proofs.YtffnflplocbpiaaGreatDoor.Av
open Go
set_option maxHeartbeats 8000000
set_option maxRecDepth 100000

def chkRow : Rdn → Rdn → Int
  | _, [] => 0
  | done, a :: t => if done.length = 8 then 9 else if typS a.1 = false then 20 else if hasT done a.1 = true then 21 else chkRow (done ++ [a]) t
def chkD : Nat → List Rdn → Int
  | _, [] => 0
  | i, r :: t => if i = 32 then 9 else if r = [] then 2 else if chkRow [] r ≠ 0 then chkRow [] r else chkD (i + 1) t

theorem rdn_at {d : List Rdn} {k : Nat} (h : k < d.length) : (d.map rdnF).getD k .undef = rdnF (d.getD k []) := by simp [h]
theorem avas_take {r : Rdn} {k : Nat} : (avasA r).take (k * 2) = avasA (r.take k) := by
  induction r generalizing k with
  | nil => simp [avasA]
  | cons a r ih =>
    cases k with
    | zero => simp [avasA]
    | succ k =>
      have := @ih k
      simp only [avasA] at this
      rw [show (k + 1) * 2 = k * 2 + 1 + 1 by omega]
      simp [avasA, avaA, this]

theorem hasN_k {r : Rdn} {typ : List UInt8} {n : Nat} {cap : Option Nat} (hr : r.length = n) (hn : n ≤ 8) (h1 : ∀ a ∈ r, a.1.length ≤ 32) (h2 : typ.length ≤ 32) {L : List Blk} {K : AV → List Blk → Prop} (h : K (.bool (hasT r typ)) L) :
    ACall Tryz.prog 61 [.sl (avasA r) n cap, .str typ] L K := by
  subst hr
  exact has_k (by omega) (fun a ha => by have := h1 a ha; omega) (by omega) h
theorem check_k {d : List Rdn} {cap : Option Nat} (hn : d.length ≤ 1000000) (hr : ∀ r ∈ d, r.length ≤ 1000000) {L : List Blk} {K : AV → List Blk → Prop} (h : K (.int .i64 (chkD 0 d)) L) : ACall Tryz.prog 92 [.sl (d.map rdnF) d.length cap] L K := by
  replace h := hid h
  have hat := hid (fun k => @rdn_at d k)
  replace hr := hid hr
  refine ACall_fn c_dn_check_eq (by simp [c_dn_check]) ?_
  simp only [c_dn_check, initT]
  refine wk ?_
  refine AW_loopT (fun n T' L' => ∃ (i : Nat) (X : List Blk), n = d.length - i ∧ i ≤ d.length ∧ i ≤ 32 ∧ Hid (chkD i (d.drop i) = chkD 0 d) ∧ T' = [(9, .int .i64 (i : Int)), (8, .int .i64 d.length), (7, .sl (d.map rdnF) d.length cap)] ∧ L' = L ++ X) (Cut_same (by repeat' first | exact SubT_nil | refine SubT_cons rfl rfl ?_ | refine SubT_consF rfl rfl ?_) (by simp)) ⟨0, [], rfl, Nat.zero_le _, by omega, hid rfl, rfl, by simp⟩ ?_
  rintro _ _ _ ⟨i, X, rfl, hi, hi32, he, rfl, rfl⟩
  by_cases hlt : i < d.length
  · have g1 : (i : Int) < (d.length : Int) := by omega
    have g2 : IntKind.i64.wrap ((i : Int) + 1) = (i : Int) + 1 := wrap64_in (by omega) (by omega)
    have e2 := hat.out i hlt
    have hrl := hr.out (d.getD i []) (by rw [List.getD_eq_getElem?_getD, List.getElem?_eq_getElem hlt]; exact List.getElem_mem _)
    obtain ⟨r, hri⟩ : ∃ r, d.getD i [] = r := ⟨_, rfl⟩
    have hdr : d.drop i = r :: d.drop (i + 1) := by rw [List.drop_eq_getElem_cons hlt, ← hri]; simp [hlt]
    rw [hri] at e2 hrl
    have he2 := he.out
    rw [hdr, chkD] at he2
    clear hdr hri
    by_cases h32 : i = 32
    · rw [if_pos h32] at he2
      have h' := h.out
      rw [← he2] at h'
      replace h' := hid h'
      have k1 : (i : Int) = 32 := by omega
      have g1' : (32 : Int) < (d.length : Int) := by omega
      clear h32 he2
      refine wk ?_
      exact Fin_pure rfl h'.out
    rw [if_neg h32] at he2
    have k1 : ¬ (i : Int) = 32 := by omega
    by_cases hr0 : r = []
    · rw [if_pos hr0] at he2
      subst hr0
      have h' := h.out
      rw [← he2] at h'
      replace h' := hid h'
      clear h32 he2
      refine wk ?_
      exact Fin_pure rfl h'.out
    rw [if_neg hr0] at he2
    have k2 : ¬ (r.length : Int) = 0 := by have := List.length_pos_iff.2 hr0; omega
    have herr : ∀ e : Int, chkRow [] r = e → e ≠ 0 → K (.int .i64 e) L := fun e a1 a2 => by
      rw [if_pos (by rw [a1]; exact a2), a1] at he2
      rw [he2]; exact h.out
    replace herr := hid herr
    replace he2 := hid he2
    clear h32
    refine wk ?_
    refine AW_loopT (fun n T' L' => ∃ (k : Nat) (Y : List Blk), n = r.length - k ∧ k ≤ r.length ∧ k ≤ 8 ∧ Hid (chkRow (r.take k) (r.drop k) = chkRow [] r ∧ ∀ a ∈ r.take k, a.1.length ≤ 32) ∧ T' = [(23, .int .i64 (k : Int)), (22, .int .i64 r.length), (21, rdnF r), (4, rdnF r), (9, .int .i64 (i : Int)), (8, .int .i64 d.length), (7, .sl (d.map rdnF) d.length cap)] ∧ L' = L ++ (X ++ Y)) (Cut_same (by repeat' first | exact SubT_nil | refine SubT_cons rfl rfl ?_ | refine SubT_consF rfl rfl ?_) (by simp)) ⟨0, [], rfl, Nat.zero_le _, by omega, hid ⟨rfl, by simp⟩, rfl, by simp⟩ ?_
    rintro _ _ _ ⟨k, Y, rfl, hk, hk8, hrow, rfl, rfl⟩
    by_cases hkl : k < r.length
    · have g3 : (k : Int) < (r.length : Int) := by omega
      have g4 : IntKind.i64.wrap ((k : Int) + 1) = (k : Int) + 1 := wrap64_in (by omega) (by omega)
      have e3 := avasA_at hkl
      have e4 : k * 2 + 2 ≤ (avasA r).length := by rw [avasA_len]; omega
      obtain ⟨⟨ty, va⟩, ha⟩ : ∃ a, r.getD k ([], []) = a := ⟨_, rfl⟩
      have hdk : r.drop k = (ty, va) :: r.drop (k + 1) := by rw [List.drop_eq_getElem_cons hkl, ← ha]; simp [hkl]
      have htk : r.take (k + 1) = r.take k ++ [(ty, va)] := by rw [List.take_succ_eq_append_getElem hkl, ← ha]; simp [hkl]
      rw [ha] at e3
      simp only [avaA] at e3
      obtain ⟨hr1, hr2⟩ := hrow.out
      rw [hdk, chkRow] at hr1
      have hlk : (r.take k).length = k := by simp; omega
      rw [hlk] at hr1
      clear hdk ha hrow
      have e5 : (avasA r).take (k * 2) = avasA (r.take k) := avas_take
      have g5 : (k : Int) ≤ (r.length : Int) := by omega
      replace hr1 := hid hr1
      replace hr2 := hid hr2
      replace htk := hid htk
      have e6 := hid hlk
      clear hlk
      repeat' first
        | refine AW_seq ?_
        | (first | refine AW_sreg (by kernel_rfl) ?_ | refine AW_sdreg (by kernel_rfl) ?_ | refine AW_dregM ?_ | refine Nx_in ?_ | refine NxI_in (fun _ => ?_) | refine AW_region ?_ | refine AW_dreg ?_)
          simp (config := { maxSteps := 2000000 }) only [Kon, push_cast, reduceIte, Nat.reduceEqDiff, Nat.reduceAdd, Nat.reduceMul, Nat.reduceSub, Nat.reduceLT, Nat.reduceLeDiff, Int.reduceLT, Int.reduceLE, Int.reduceAdd, Int.reduceSub, Int.reduceNeg, Int.reduceToNat, Int.reduceEq, reduceCtorEq, *]
        | (first | refine SelK_mk (by kernel_rfl) ?_ | refine AW_skip ?_ | refine AW_exit ?_ | refine AW_ret (Back_retR ?_))
          simp only [push_cast, reduceIte, Nat.reduceEqDiff, Nat.reduceAdd, Nat.reduceMul, Nat.reduceSub, Nat.reduceLT, Nat.reduceLeDiff, Int.reduceLT, Int.reduceLE, Int.reduceAdd, Int.reduceSub, Int.reduceNeg, Int.reduceToNat, Int.reduceEq, reduceCtorEq, *]
        | exact IsB_mk
        | first | apply GQ_mkT | apply GQ_mkTN | apply GQ_mkF | apply GQ_mkFN | apply GQ_mkB | apply GQ_mkBF
        | refine AW_block ?_
        | first | refine AW_condT rfl ?_ | refine AW_condF rfl ?_ | refine AW_condAny rfl ?_ ?_ | refine AW_condB rfl (fun _ => ?_) (fun _ => ?_) | refine AW_condN rfl (fun _ => ?_) (fun _ => ?_)
        | ((first | refine ite_introN (fun _ => ?_) (fun _ => ?_) | refine ite_intro (fun _ => ?_) (fun _ => ?_)) <;> try simp (config := { maxSteps := 2000000 }) only [Kon, push_cast, reduceIte, Nat.reduceEqDiff, Nat.reduceAdd, Nat.reduceMul, Nat.reduceSub, Nat.reduceLT, Nat.reduceLeDiff, Int.reduceLT, Int.reduceLE, Int.reduceAdd, Int.reduceSub, Int.reduceNeg, Int.reduceToNat, Int.reduceEq, reduceCtorEq, *])
        | refine And.intro trivial ?_
        | refine And.intro (by omega) ?_
        | refine AW_cond rfl (fun _ => ?_) (fun _ => ?_)
        | refine And.intro ?_ ?_
      · rename_i h8
        have h' := herr.out 9 (by rw [← hr1.out, if_pos (by omega)]) (by decide)
        exact Fin_pure rfl h'
      · rename_i h8
        have hr3 := hr1.out
        rw [if_neg (by omega)] at hr3
        refine type_k ?_
        cases hty : typS ty with
        | false =>
          have h' := hid (herr.out 20 (by rw [← hr3, if_pos hty]) (by decide))
          clear hr3
          refine sk ?_
          refine wk ?_
          exact Fin_pure rfl h'.out
        | true =>
          rw [if_neg (by rw [hty]; simp)] at hr3
          replace hr3 := hid hr3
          have htl := typS_len hty
          refine sk ?_
          repeat' first
            | refine AW_seq ?_
            | (first | refine AW_sreg (by kernel_rfl) ?_ | refine AW_sdreg (by kernel_rfl) ?_ | refine AW_dregM ?_ | refine Nx_in ?_ | refine NxI_in (fun _ => ?_) | refine AW_region ?_ | refine AW_dreg ?_)
              simp (config := { maxSteps := 2000000 }) only [Kon, push_cast, reduceIte, Nat.reduceEqDiff, Nat.reduceAdd, Nat.reduceMul, Nat.reduceSub, Nat.reduceLT, Nat.reduceLeDiff, Int.reduceLT, Int.reduceLE, Int.reduceAdd, Int.reduceSub, Int.reduceNeg, Int.reduceToNat, Int.reduceEq, reduceCtorEq, *]
            | (first | refine SelK_mk (by kernel_rfl) ?_ | refine AW_skip ?_ | refine AW_exit ?_ | refine AW_ret (Back_retR ?_))
              simp only [push_cast, reduceIte, Nat.reduceEqDiff, Nat.reduceAdd, Nat.reduceMul, Nat.reduceSub, Nat.reduceLT, Nat.reduceLeDiff, Int.reduceLT, Int.reduceLE, Int.reduceAdd, Int.reduceSub, Int.reduceNeg, Int.reduceToNat, Int.reduceEq, reduceCtorEq, *]
            | exact IsB_mk
            | first | apply GQ_mkT | apply GQ_mkTN | apply GQ_mkF | apply GQ_mkFN | apply GQ_mkB | apply GQ_mkBF
            | refine AW_block ?_
            | first | refine AW_condT rfl ?_ | refine AW_condF rfl ?_ | refine AW_condAny rfl ?_ ?_ | refine AW_condB rfl (fun _ => ?_) (fun _ => ?_) | refine AW_condN rfl (fun _ => ?_) (fun _ => ?_)
            | ((first | refine ite_introN (fun _ => ?_) (fun _ => ?_) | refine ite_intro (fun _ => ?_) (fun _ => ?_)) <;> try simp (config := { maxSteps := 2000000 }) only [Kon, push_cast, reduceIte, Nat.reduceEqDiff, Nat.reduceAdd, Nat.reduceMul, Nat.reduceSub, Nat.reduceLT, Nat.reduceLeDiff, Int.reduceLT, Int.reduceLE, Int.reduceAdd, Int.reduceSub, Int.reduceNeg, Int.reduceToNat, Int.reduceEq, reduceCtorEq, *])
            | refine And.intro trivial ?_
            | refine And.intro (by omega) ?_
            | refine AW_cond rfl (fun _ => ?_) (fun _ => ?_)
            | refine And.intro ?_ ?_
          refine CalK_mk (hasN_k e6.out (by omega) hr2.out htl ⟨rfl, rfl⟩) ?_
          cases hha : hasT (r.take k) ty with
          | true =>
            have h' := hid (herr.out 21 (by rw [← hr3.out, if_pos hha]) (by decide))
            refine sk ?_
            refine wk ?_
            exact Fin_pure rfl h'.out
          | false =>
            have hr4 := hr3.out
            rw [if_neg (by rw [hha]; simp), ← htk.out] at hr4
            replace hr4 := hid hr4
            clear hr3
            refine sk ?_
            refine wk ?_
            refine Nxt_mk _ _ _ (by omega) (Cut_same (by repeat' first | exact SubT_nil | refine SubT_cons rfl rfl ?_ | refine SubT_consF rfl rfl ?_) (by simp)) ⟨k + 1, Y ++ [.cells [.str ty, .str va]], rfl, hkl, by omega, hid ⟨hr4.out, fun a ha => ?_⟩, rfl, by simp⟩
            rw [htk.out] at ha
            rcases List.mem_append.1 ha with h | h
            · exact hr2.out a h
            · rw [List.mem_singleton.1 h]; exact htl
    · have hke : k = r.length := by omega
      subst hke
      have g3 : ¬ (r.length : Int) < (r.length : Int) := by omega
      have hz := hrow.out.1
      rw [List.drop_length, chkRow] at hz
      have he3 := he2.out
      rw [← hz] at he3
      simp only [ne_eq, not_true_eq_false, if_false] at he3
      replace he3 := hid he3
      clear hz
      refine wk ?_
      exact Nxt_mk _ _ _ (by omega) (Cut_same (by repeat' first | exact SubT_nil | refine SubT_cons rfl rfl ?_ | refine SubT_consF rfl rfl ?_) (by simp)) ⟨i + 1, X ++ Y, rfl, hlt, by omega, hid he3.out, rfl, rfl⟩
  · have hke : i = d.length := by omega
    subst hke
    have g1 : ¬ (d.length : Int) < (d.length : Int) := by omega
    have h' := h.out
    rw [← he.out, List.drop_length, chkD] at h'
    replace h' := hid h'
    refine wk ?_
    exact Fin_pure rfl h'.out
end Go.Proofs.YtffnflplocbpiaaGreatDoor.Av
