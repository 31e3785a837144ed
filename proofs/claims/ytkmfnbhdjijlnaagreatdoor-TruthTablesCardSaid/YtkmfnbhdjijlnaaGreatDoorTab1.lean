/- Bodies of functions, lowered: printed by a program (wip/tools/lowx.py); each is held against the program by the kernel. -/
import Derived.Test.YtkmfnbhdjijlnaaGreatDoorExE
import Derived.Test.YtkmfnbhdjijlnaaGreatDoorRows
import Derived.KernelRfl
set_option maxRecDepth 100000
set_option linter.unusedSimpArgs false
set_option linter.unusedVariables false
namespace Go.Proofs.YtkmfnbhdjijlnaaGreatDoor.Av
open Go

/-! castellan/castellanlaw21.awake -/
def r_f17_0 : List SOp :=
   [.op ⟨(some 0), (.mv (.av (.bool false))), none⟩]
def r_f17_1 : List SOp :=
   [.op ⟨(some 1), (.call 54 [(.av (.str [40, 99, 110, 61, 65, 41]))]), none⟩,
    .op ⟨(some 2), (.bin .eql (.tmp 1) (.av (.int .i64 1))), none⟩,
    .op ⟨(some 3), (.mv (.tmp 2)), none⟩,
    .op ⟨(some 4), (.call 54 [(.av (.str [40, 115, 110, 61, 120, 41]))]), (some (3, true))⟩,
    .op ⟨(some 5), (.bin .eql (.tmp 4) (.av (.int .i64 0))), (some (3, true))⟩,
    .op ⟨(some 6), (.pick (.tmp 3) (.tmp 5) (.av (.bool false))), none⟩,
    .op ⟨(some 7), (.mv (.tmp 6)), none⟩,
    .op ⟨(some 8), (.call 54 [(.av (.str [40, 122, 122, 61, 120, 41]))]), (some (7, true))⟩,
    .op ⟨(some 9), (.bin .eql (.tmp 8) (.av (.int .i64 2))), (some (7, true))⟩,
    .op ⟨(some 10), (.pick (.tmp 7) (.tmp 9) (.av (.bool false))), none⟩,
    .op ⟨(some 11), (.mv (.tmp 10)), none⟩,
    .op ⟨(some 12), (.call 54 [(.av (.str [40, 33, 40, 122, 122, 61, 120, 41, 41]))]), (some (11, true))⟩,
    .op ⟨(some 13), (.bin .eql (.tmp 12) (.av (.int .i64 2))), (some (11, true))⟩,
    .op ⟨(some 14), (.pick (.tmp 11) (.tmp 13) (.av (.bool false))), none⟩,
    .op ⟨(some 15), (.mv (.tmp 14)), none⟩,
    .op ⟨(some 16), (.call 54 [(.av (.str [40, 124, 40, 122, 122, 61, 120, 41, 40, 99, 110, 61, 97, 41, 41]))]), (some (15, true))⟩,
    .op ⟨(some 17), (.bin .eql (.tmp 16) (.av (.int .i64 1))), (some (15, true))⟩,
    .op ⟨(some 18), (.pick (.tmp 15) (.tmp 17) (.av (.bool false))), none⟩,
    .op ⟨(some 0), (.mv (.tmp 18)), none⟩]
def c_f17 : LFun := ⟨19, (.seq (.sreg r_f17_0 [])
  (.seq (.sreg r_f17_1 [true, false, false, false, false, false, false, false, false, false, false, false, false, false, false, false, false, false, false])
  .ret)), [(.tmp 0)]⟩
def o_f17 : Nat → Nat → Nat := fun _ _ => 1
theorem c_f17_eq : lowF Tryz.prog o_f17 17 = some c_f17.raw := by kernel_rfl
theorem c_f17_ok : c_f17.code.okc = true := by kernel_rfl
/-! castellan/castellanlaw21.of -/
def r_f54_0 : List SOp :=
   [.op ⟨(some 2), (.mv (.av (.int .i64 0))), none⟩]
def r_f54_1 : List SOp :=
   [.op ⟨(some 6), (.mv (.tmp 0)), none⟩,
    .op ⟨(some 7), (.call 56 [(.tmp 6)]), none⟩,
    .op ⟨(some 5), (.mv (.tmp 7)), none⟩,
    .op ⟨(some 8), (.extract (.tmp 5) 0), none⟩,
    .op ⟨(some 9), (.extract (.tmp 5) 1), none⟩,
    .op ⟨(some 3), (.alloc [(.int .i64 0), (.str []), (.str []), (.sl [] 0 (some 0)), (.sl [] 0 (some 0))]), none⟩,
    .op ⟨none, (.store 5 (.tmp 3) (.tmp 8)), none⟩,
    .op ⟨(some 4), (.mv (.tmp 9)), none⟩]
def r_f54_2 : List SOp :=
   [.op ⟨(some 10), (.call 44 []), none⟩,
    .op ⟨(some 11), (.load true 5 (.tmp 3)), none⟩,
    .op ⟨(some 12), (.bslice false 1 1 [(.str [])] [(0, 1, (.av (.str [97])))]), none⟩,
    .op ⟨(some 13), (.build [(.str []), (.sl [] 0 (some 0))] [(0, 1, (.av (.str [99, 110]))), (1, 1, (.tmp 12))]), none⟩,
    .op ⟨(some 14), (.bslice false 2 1 [(.str []), (.sl [] 0 (some 0))] [(0, 2, (.tmp 13))]), none⟩,
    .op ⟨(some 15), (.call 95 [(.tmp 10), (.tmp 11), (.tmp 14)]), none⟩,
    .op ⟨(some 2), (.mv (.tmp 15)), none⟩]
def c_f54 : LFun := ⟨16, (.seq (.sreg r_f54_0 [])
  (.seq (.sreg r_f54_1 [false, true, false, false, false, false, false])
  (.seq (.sdreg r_f54_2 [.eff, (.read 1 0), (.read 1 0), .pure, (.read 1 0)] [true, false, false, false, false, false, false])
  .ret))), [(.tmp 2)]⟩
def o_f54 : Nat → Nat → Nat := fun r i => if r = 2 ∧ i = 0 then 3 else if r = 2 ∧ i = 5 then 3 else 1
theorem c_f54_eq : lowF Tryz.prog o_f54 54 = some c_f54.raw := by kernel_rfl
theorem c_f54_ok : c_f54.code.okc = true := by kernel_rfl
/-! castellan/castellanref10.Parse -/
def r_f56_0 : List SOp :=
   [.op ⟨(some 2), (.alloc [(.int .i64 0), (.str []), (.str []), (.sl [] 0 (some 0)), (.sl [] 0 (some 0))]), none⟩,
    .op ⟨(some 3), (.mv (.av (.int .i64 0))), none⟩]
def r_f56_1 : List SOp :=
   [.op ⟨(some 6), (.mv (.tmp 0)), none⟩,
    .op ⟨(some 7), (.len true (.tmp 6)), none⟩,
    .op ⟨(some 8), (.bin .gtr (.tmp 7) (.av (.int .i64 4096))), none⟩]
def r_f56_2 : List SOp :=
   [.op ⟨(some 9), (.build [(.int .i64 0), (.str []), (.str []), (.sl [] 0 (some 0)), (.sl [] 0 (some 0))] []), none⟩,
    .op ⟨none, (.store 5 (.tmp 2) (.tmp 9)), none⟩,
    .op ⟨(some 3), (.mv (.av (.int .i64 5))), none⟩]
def r_f56_3 : List SOp :=
   [.op ⟨(some 10), (.mv (.tmp 0)), none⟩,
    .op ⟨(some 11), (.build [(.str []), (.int .i64 0), (.int .i64 0), (.int .i64 0)] [(0, 1, (.tmp 10))]), none⟩,
    .op ⟨(some 12), (.box (.tmp 11)), none⟩,
    .op ⟨(some 4), (.mv (.tmp 12)), none⟩]
def r_f56_4 : List SOp :=
   [.op ⟨(some 13), (.mv (.tmp 4)), none⟩,
    .op ⟨(some 14), (.call 96 [(.tmp 13), (.av (.int .i64 1))]), none⟩,
    .op ⟨(some 5), (.alloc [(.int .i64 0), (.str []), (.str []), (.sl [] 0 (some 0)), (.sl [] 0 (some 0))]), none⟩,
    .op ⟨none, (.store 5 (.tmp 5) (.tmp 14)), none⟩]
def r_f56_5 : List SOp :=
   [.op ⟨(some 15), (.mv (.tmp 4)), none⟩,
    .op ⟨(some 16), (.nilchk (.tmp 15)), none⟩,
    .op ⟨(some 17), (.faddr 3 (.tmp 16)), none⟩,
    .op ⟨(some 18), (.load false 1 (.tmp 17)), none⟩,
    .op ⟨(some 19), (.bin .eql (.tmp 18) (.av (.int .i64 0))), none⟩,
    .op ⟨(some 20), (.mv (.tmp 19)), none⟩,
    .grp none 20 true
      [.op ⟨(some 21), (.mv (.tmp 4)), (some (20, true))⟩,
      .op ⟨(some 22), (.nilchk (.tmp 21)), (some (20, true))⟩,
      .op ⟨(some 23), (.faddr 1 (.tmp 22)), (some (20, true))⟩,
      .op ⟨(some 24), (.load false 1 (.tmp 23)), (some (20, true))⟩,
      .op ⟨(some 25), (.mv (.tmp 0)), (some (20, true))⟩,
      .op ⟨(some 26), (.len true (.tmp 25)), (some (20, true))⟩,
      .op ⟨(some 27), (.bin .lss (.tmp 24) (.tmp 26)), (some (20, true))⟩]
      28 (.tmp 27)]
def r_f56_6 : List SOp :=
   [.op ⟨(some 29), (.mv (.tmp 4)), none⟩,
    .op ⟨(some 30), (.nilchk (.tmp 29)), none⟩,
    .op ⟨(some 31), (.faddr 3 (.tmp 30)), none⟩,
    .op ⟨none, (.store 1 (.tmp 31) (.av (.int .i64 4))), none⟩]
def r_f56_7 : List SOp :=
   [.op ⟨(some 32), (.mv (.tmp 4)), none⟩,
    .op ⟨(some 33), (.nilchk (.tmp 32)), none⟩,
    .op ⟨(some 34), (.faddr 3 (.tmp 33)), none⟩,
    .op ⟨(some 35), (.load false 1 (.tmp 34)), none⟩,
    .op ⟨(some 36), (.bin .neq (.tmp 35) (.av (.int .i64 0))), none⟩]
def r_f56_8 : List (LOper × Kd) :=
   [(⟨(some 37), (.build [(.int .i64 0), (.str []), (.str []), (.sl [] 0 (some 0)), (.sl [] 0 (some 0))] []), none⟩, .pure),
    (⟨(some 38), (.mv (.tmp 4)), none⟩, .pure),
    (⟨(some 39), (.nilchk (.tmp 38)), none⟩, (.read 0 1)),
    (⟨(some 40), (.faddr 3 (.tmp 39)), none⟩, .pure),
    (⟨(some 41), (.load false 1 (.tmp 40)), none⟩, (.read 0 1)),
    (⟨none, (.store 5 (.tmp 2) (.tmp 37)), none⟩, .eff)]
def r_f56_8t : List LOper :=
   [⟨(some 3), (.mv (.tmp 41)), none⟩]
def r_f56_9 : List SOp :=
   [.op ⟨(some 42), (.load true 5 (.tmp 5)), none⟩,
    .op ⟨none, (.store 5 (.tmp 2) (.tmp 42)), none⟩,
    .op ⟨(some 3), (.mv (.av (.int .i64 0))), none⟩]
def c_f56 : LFun := ⟨43, (.seq (.sreg r_f56_0 [])
  (.seq (.seq (.sreg r_f56_1 [true, false, false])
  (.cond (.tmp 8) (.seq (.sreg r_f56_2 [true, false])
  .ret)
  .skip))
  (.seq (.sreg r_f56_3 [true, false, false, false])
  (.seq (.sreg r_f56_4 [true, false, false])
  (.seq (.seq (.sreg r_f56_5 [true, false, false, false, false, false, false])
  (.cond (.tmp 28) (.sreg r_f56_6 [false, false, false])
  .skip))
  (.seq (.seq (.sreg r_f56_7 [true, false, false, false, false])
  (.cond (.tmp 36) (.seq (.dregM r_f56_8 r_f56_8t [true, false, false, false, false, false])
  .ret)
  .skip))
  (.seq (.sreg r_f56_9 [true, false])
  .ret))))))), [(.cell true 5 2), (.tmp 3)]⟩
def o_f56 : Nat → Nat → Nat := fun _ _ => 1
theorem c_f56_eq : lowF Tryz.prog o_f56 56 = some c_f56.raw := by kernel_rfl
theorem c_f56_ok : c_f56.code.okc = true := by kernel_rfl
/-! castellan/castellanref13.Core -/
def r_f44_0 : List SOp :=
   [.op ⟨(some 0), (.alloc [(.sl [] 0 (some 0)), (.sl [] 0 (some 0))]), none⟩]
def r_f44_1 : List SOp :=
   [.op ⟨(some 1), (.alloc [(.sl [] 0 (some 0)), (.sl [] 0 (some 0))]), none⟩]
def r_f44_2 : List SOp :=
   [.op ⟨(some 5), (.faddr 0 (.tmp 1)), none⟩,
    .op ⟨(some 6), (.load false 1 (.tmp 5)), none⟩,
    .op ⟨(some 7), (.bslice false 1 1 [(.str [])] [(0, 1, (.av (.str [111, 98, 106, 101, 99, 116, 67, 108, 97, 115, 115])))]), none⟩,
    .op ⟨(some 8), (.call 82 [(.tmp 6), (.av (.int .i64 3)), (.tmp 7)]), none⟩,
    .op ⟨(some 9), (.faddr 0 (.tmp 1)), none⟩,
    .op ⟨none, (.store 1 (.tmp 9) (.tmp 8)), none⟩]
def r_f44_3 : List SOp :=
   [.op ⟨(some 10), (.faddr 0 (.tmp 1)), none⟩,
    .op ⟨(some 11), (.load false 1 (.tmp 10)), none⟩,
    .op ⟨(some 12), (.bslice false 1 4 [(.str []), (.str []), (.str []), (.str [])] [(0, 1, (.av (.str [99, 110]))), (1, 1, (.av (.str [115, 110]))), (2, 1, (.av (.str [111, 117]))), (3, 1, (.av (.str [111])))]), none⟩,
    .op ⟨(some 13), (.call 82 [(.tmp 11), (.av (.int .i64 1)), (.tmp 12)]), none⟩,
    .op ⟨(some 14), (.faddr 0 (.tmp 1)), none⟩,
    .op ⟨none, (.store 1 (.tmp 14) (.tmp 13)), none⟩]
def r_f44_4 : List SOp :=
   [.op ⟨(some 15), (.faddr 0 (.tmp 1)), none⟩,
    .op ⟨(some 16), (.load false 1 (.tmp 15)), none⟩,
    .op ⟨(some 17), (.bslice false 1 3 [(.str []), (.str []), (.str [])] [(0, 1, (.av (.str [100, 99]))), (1, 1, (.av (.str [117, 105, 100]))), (2, 1, (.av (.str [109, 97, 105, 108])))]), none⟩,
    .op ⟨(some 18), (.call 82 [(.tmp 16), (.av (.int .i64 3)), (.tmp 17)]), none⟩,
    .op ⟨(some 19), (.faddr 0 (.tmp 1)), none⟩,
    .op ⟨none, (.store 1 (.tmp 19) (.tmp 18)), none⟩]
def r_f44_5 : List SOp :=
   [.op ⟨(some 20), (.faddr 0 (.tmp 1)), none⟩,
    .op ⟨(some 21), (.load false 1 (.tmp 20)), none⟩,
    .op ⟨(some 22), (.bslice false 1 1 [(.str [])] [(0, 1, (.av (.str [100, 101, 115, 99, 114, 105, 112, 116, 105, 111, 110])))]), none⟩,
    .op ⟨(some 23), (.call 82 [(.tmp 21), (.av (.int .i64 1)), (.tmp 22)]), none⟩,
    .op ⟨(some 24), (.faddr 0 (.tmp 1)), none⟩,
    .op ⟨none, (.store 1 (.tmp 24) (.tmp 23)), none⟩]
def r_f44_6 : List SOp :=
   [.op ⟨(some 25), (.faddr 0 (.tmp 1)), none⟩,
    .op ⟨(some 26), (.load false 1 (.tmp 25)), none⟩,
    .op ⟨(some 27), (.bslice false 1 1 [(.str [])] [(0, 1, (.av (.str [109, 101, 109, 98, 101, 114])))]), none⟩,
    .op ⟨(some 28), (.call 82 [(.tmp 26), (.av (.int .i64 6)), (.tmp 27)]), none⟩,
    .op ⟨(some 29), (.faddr 0 (.tmp 1)), none⟩,
    .op ⟨none, (.store 1 (.tmp 29) (.tmp 28)), none⟩]
def r_f44_7 : List SOp :=
   [.op ⟨(some 30), (.faddr 0 (.tmp 1)), none⟩,
    .op ⟨(some 31), (.load false 1 (.tmp 30)), none⟩,
    .op ⟨(some 32), (.bslice false 1 1 [(.str [])] [(0, 1, (.av (.str [117, 115, 101, 114, 80, 97, 115, 115, 119, 111, 114, 100])))]), none⟩,
    .op ⟨(some 33), (.call 82 [(.tmp 31), (.av (.int .i64 7)), (.tmp 32)]), none⟩,
    .op ⟨(some 34), (.faddr 0 (.tmp 1)), none⟩,
    .op ⟨none, (.store 1 (.tmp 34) (.tmp 33)), none⟩]
def r_f44_8 : List SOp :=
   [.op ⟨(some 35), (.faddr 0 (.tmp 1)), none⟩,
    .op ⟨(some 36), (.load false 1 (.tmp 35)), none⟩,
    .op ⟨(some 37), (.build [(.str []), (.int .i64 0), (.bool false), (.bool false)] [(0, 1, (.av (.str [101, 109, 112, 108, 111, 121, 101, 101, 78, 117, 109, 98, 101, 114]))), (1, 1, (.av (.int .i64 4))), (2, 1, (.av (.bool true)))]), none⟩,
    .op ⟨(some 38), (.bslice false 4 1 [(.str []), (.int .i64 0), (.bool false), (.bool false)] [(0, 4, (.tmp 37))]), none⟩,
    .op ⟨(some 39), (.app 1 4 32 [(.str []), (.int .i64 0), (.bool false), (.bool false)] (.tmp 36) (.tmp 38)), none⟩,
    .op ⟨(some 40), (.faddr 0 (.tmp 1)), none⟩,
    .op ⟨none, (.store 1 (.tmp 40) (.tmp 39)), none⟩]
def r_f44_9 : List SOp :=
   [.op ⟨(some 41), (.faddr 0 (.tmp 1)), none⟩,
    .op ⟨(some 42), (.load false 1 (.tmp 41)), none⟩,
    .op ⟨(some 43), (.build [(.str []), (.int .i64 0), (.bool false), (.bool false)] [(0, 1, (.av (.str [97, 99, 116, 105, 118, 101]))), (1, 1, (.av (.int .i64 5))), (2, 1, (.av (.bool true)))]), none⟩,
    .op ⟨(some 44), (.bslice false 4 1 [(.str []), (.int .i64 0), (.bool false), (.bool false)] [(0, 4, (.tmp 43))]), none⟩,
    .op ⟨(some 45), (.app 1 4 32 [(.str []), (.int .i64 0), (.bool false), (.bool false)] (.tmp 42) (.tmp 44)), none⟩,
    .op ⟨(some 46), (.faddr 0 (.tmp 1)), none⟩,
    .op ⟨none, (.store 1 (.tmp 46) (.tmp 45)), none⟩]
def r_f44_10 : List SOp :=
   [.op ⟨(some 47), (.bslice false 1 5 [(.str []), (.str []), (.str []), (.str []), (.str [])] [(0, 1, (.av (.str [99, 114, 101, 97, 116, 101, 100, 65, 116]))), (1, 1, (.av (.str [99, 104, 97, 110, 103, 101, 100, 65, 116]))), (2, 1, (.av (.str [112, 119, 100, 70, 97, 105, 108, 117, 114, 101]))), (3, 1, (.av (.str [112, 119, 100, 76, 111, 99, 107, 101, 100]))), (4, 1, (.av (.str [112, 119, 100, 67, 104, 97, 110, 103, 101, 100])))]), none⟩,
    .op ⟨(some 48), (.len false (.tmp 47)), none⟩,
    .op ⟨(some 49), (.mv (.av (.int .i64 0))), none⟩]
def r_f44_11 : List SOp :=
   [.op ⟨(some 50), (.bin .lss (.tmp 49) (.tmp 48)), none⟩]
def r_f44_12 : List SOp :=
   [.op ⟨(some 51), (.iaddr 1 (.tmp 47) (.tmp 49)), none⟩,
    .op ⟨(some 52), (.load false 1 (.tmp 51)), none⟩,
    .op ⟨(some 3), (.mv (.tmp 52)), none⟩]
def r_f44_13 : List SOp :=
   [.op ⟨(some 53), (.mv (.tmp 3)), none⟩,
    .op ⟨(some 54), (.build [(.str []), (.int .i64 0), (.bool false), (.bool false)] [(0, 1, (.tmp 53)), (1, 1, (.av (.int .i64 4))), (2, 1, (.av (.bool true))), (3, 1, (.av (.bool true)))]), none⟩,
    .op ⟨(some 4), (.alloc [(.str []), (.int .i64 0), (.bool false), (.bool false)]), none⟩,
    .op ⟨none, (.store 4 (.tmp 4) (.tmp 54)), none⟩]
def r_f44_14 : List SOp :=
   [.op ⟨(some 55), (.mv (.tmp 3)), none⟩,
    .op ⟨(some 56), (.bin .eql (.tmp 55) (.av (.str [112, 119, 100, 70, 97, 105, 108, 117, 114, 101]))), none⟩]
def r_f44_15 : List SOp :=
   [.op ⟨(some 57), (.faddr 1 (.tmp 4)), none⟩,
    .op ⟨none, (.store 1 (.tmp 57) (.av (.int .i64 3))), none⟩]
def r_f44_16 : List SOp :=
   [.op ⟨(some 58), (.faddr 2 (.tmp 4)), none⟩,
    .op ⟨none, (.store 1 (.tmp 58) (.av (.bool false))), none⟩]
def r_f44_17 : List SOp :=
   [.op ⟨(some 59), (.faddr 0 (.tmp 1)), none⟩,
    .op ⟨(some 60), (.load false 1 (.tmp 59)), none⟩,
    .op ⟨(some 61), (.load true 4 (.tmp 4)), none⟩,
    .op ⟨(some 62), (.bslice false 4 1 [(.str []), (.int .i64 0), (.bool false), (.bool false)] [(0, 4, (.tmp 61))]), none⟩,
    .op ⟨(some 63), (.app 1 4 32 [(.str []), (.int .i64 0), (.bool false), (.bool false)] (.tmp 60) (.tmp 62)), none⟩,
    .op ⟨(some 64), (.faddr 0 (.tmp 1)), none⟩,
    .op ⟨none, (.store 1 (.tmp 64) (.tmp 63)), none⟩]
def r_f44_18 : List SOp :=
   [.op ⟨(some 65), (.bin .add (.tmp 49) (.av (.int .i64 1))), none⟩,
    .op ⟨(some 49), (.mv (.tmp 65)), none⟩]
def r_f44_19 : List SOp :=
   [.op ⟨(some 66), (.faddr 1 (.tmp 1)), none⟩,
    .op ⟨(some 67), (.load false 1 (.tmp 66)), none⟩,
    .op ⟨(some 68), (.bslice false 1 1 [(.str [])] [(0, 1, (.av (.str [111, 98, 106, 101, 99, 116, 67, 108, 97, 115, 115])))]), none⟩,
    .op ⟨(some 69), (.bslice false 1 5 [(.str []), (.str []), (.str []), (.str []), (.str [])] [(0, 1, (.av (.str [99, 114, 101, 97, 116, 101, 100, 65, 116]))), (1, 1, (.av (.str [99, 104, 97, 110, 103, 101, 100, 65, 116]))), (2, 1, (.av (.str [112, 119, 100, 70, 97, 105, 108, 117, 114, 101]))), (3, 1, (.av (.str [112, 119, 100, 76, 111, 99, 107, 101, 100]))), (4, 1, (.av (.str [112, 119, 100, 67, 104, 97, 110, 103, 101, 100])))]), none⟩,
    .op ⟨(some 70), (.build [(.str []), (.str []), (.int .i64 0), (.sl [] 0 (some 0)), (.sl [] 0 (some 0))] [(0, 1, (.av (.str [116, 111, 112]))), (3, 1, (.tmp 68)), (4, 1, (.tmp 69))]), none⟩,
    .op ⟨(some 71), (.bslice false 5 1 [(.str []), (.str []), (.int .i64 0), (.sl [] 0 (some 0)), (.sl [] 0 (some 0))] [(0, 5, (.tmp 70))]), none⟩,
    .op ⟨(some 72), (.app 1 5 88 [(.str []), (.str []), (.int .i64 0), (.sl [] 0 (some 0)), (.sl [] 0 (some 0))] (.tmp 67) (.tmp 71)), none⟩,
    .op ⟨(some 73), (.faddr 1 (.tmp 1)), none⟩,
    .op ⟨none, (.store 1 (.tmp 73) (.tmp 72)), none⟩]
def r_f44_20 : List SOp :=
   [.op ⟨(some 74), (.faddr 1 (.tmp 1)), none⟩,
    .op ⟨(some 75), (.load false 1 (.tmp 74)), none⟩,
    .op ⟨(some 76), (.bslice false 1 1 [(.str [])] [(0, 1, (.av (.str [100, 99])))]), none⟩,
    .op ⟨(some 77), (.bslice false 1 1 [(.str [])] [(0, 1, (.av (.str [100, 101, 115, 99, 114, 105, 112, 116, 105, 111, 110])))]), none⟩,
    .op ⟨(some 78), (.build [(.str []), (.str []), (.int .i64 0), (.sl [] 0 (some 0)), (.sl [] 0 (some 0))] [(0, 1, (.av (.str [100, 111, 109, 97, 105, 110]))), (1, 1, (.av (.str [116, 111, 112]))), (2, 1, (.av (.int .i64 1))), (3, 1, (.tmp 76)), (4, 1, (.tmp 77))]), none⟩,
    .op ⟨(some 79), (.bslice false 5 1 [(.str []), (.str []), (.int .i64 0), (.sl [] 0 (some 0)), (.sl [] 0 (some 0))] [(0, 5, (.tmp 78))]), none⟩,
    .op ⟨(some 80), (.app 1 5 88 [(.str []), (.str []), (.int .i64 0), (.sl [] 0 (some 0)), (.sl [] 0 (some 0))] (.tmp 75) (.tmp 79)), none⟩,
    .op ⟨(some 81), (.faddr 1 (.tmp 1)), none⟩,
    .op ⟨none, (.store 1 (.tmp 81) (.tmp 80)), none⟩]
def r_f44_21 : List SOp :=
   [.op ⟨(some 82), (.faddr 1 (.tmp 1)), none⟩,
    .op ⟨(some 83), (.load false 1 (.tmp 82)), none⟩,
    .op ⟨(some 84), (.bslice false 1 1 [(.str [])] [(0, 1, (.av (.str [111])))]), none⟩,
    .op ⟨(some 85), (.bslice false 1 1 [(.str [])] [(0, 1, (.av (.str [100, 101, 115, 99, 114, 105, 112, 116, 105, 111, 110])))]), none⟩,
    .op ⟨(some 86), (.build [(.str []), (.str []), (.int .i64 0), (.sl [] 0 (some 0)), (.sl [] 0 (some 0))] [(0, 1, (.av (.str [111, 114, 103, 97, 110, 105, 122, 97, 116, 105, 111, 110]))), (1, 1, (.av (.str [116, 111, 112]))), (2, 1, (.av (.int .i64 1))), (3, 1, (.tmp 84)), (4, 1, (.tmp 85))]), none⟩,
    .op ⟨(some 87), (.bslice false 5 1 [(.str []), (.str []), (.int .i64 0), (.sl [] 0 (some 0)), (.sl [] 0 (some 0))] [(0, 5, (.tmp 86))]), none⟩,
    .op ⟨(some 88), (.app 1 5 88 [(.str []), (.str []), (.int .i64 0), (.sl [] 0 (some 0)), (.sl [] 0 (some 0))] (.tmp 83) (.tmp 87)), none⟩,
    .op ⟨(some 89), (.faddr 1 (.tmp 1)), none⟩,
    .op ⟨none, (.store 1 (.tmp 89) (.tmp 88)), none⟩]
def r_f44_22 : List SOp :=
   [.op ⟨(some 90), (.faddr 1 (.tmp 1)), none⟩,
    .op ⟨(some 91), (.load false 1 (.tmp 90)), none⟩,
    .op ⟨(some 92), (.bslice false 1 1 [(.str [])] [(0, 1, (.av (.str [111, 117])))]), none⟩,
    .op ⟨(some 93), (.bslice false 1 1 [(.str [])] [(0, 1, (.av (.str [100, 101, 115, 99, 114, 105, 112, 116, 105, 111, 110])))]), none⟩,
    .op ⟨(some 94), (.build [(.str []), (.str []), (.int .i64 0), (.sl [] 0 (some 0)), (.sl [] 0 (some 0))] [(0, 1, (.av (.str [111, 114, 103, 97, 110, 105, 122, 97, 116, 105, 111, 110, 97, 108, 85, 110, 105, 116]))), (1, 1, (.av (.str [116, 111, 112]))), (2, 1, (.av (.int .i64 1))), (3, 1, (.tmp 92)), (4, 1, (.tmp 93))]), none⟩,
    .op ⟨(some 95), (.bslice false 5 1 [(.str []), (.str []), (.int .i64 0), (.sl [] 0 (some 0)), (.sl [] 0 (some 0))] [(0, 5, (.tmp 94))]), none⟩,
    .op ⟨(some 96), (.app 1 5 88 [(.str []), (.str []), (.int .i64 0), (.sl [] 0 (some 0)), (.sl [] 0 (some 0))] (.tmp 91) (.tmp 95)), none⟩,
    .op ⟨(some 97), (.faddr 1 (.tmp 1)), none⟩,
    .op ⟨none, (.store 1 (.tmp 97) (.tmp 96)), none⟩]
def r_f44_23 : List SOp :=
   [.op ⟨(some 98), (.faddr 1 (.tmp 1)), none⟩,
    .op ⟨(some 99), (.load false 1 (.tmp 98)), none⟩,
    .op ⟨(some 100), (.bslice false 1 2 [(.str []), (.str [])] [(0, 1, (.av (.str [99, 110]))), (1, 1, (.av (.str [115, 110])))]), none⟩,
    .op ⟨(some 101), (.bslice false 1 2 [(.str []), (.str [])] [(0, 1, (.av (.str [100, 101, 115, 99, 114, 105, 112, 116, 105, 111, 110]))), (1, 1, (.av (.str [117, 115, 101, 114, 80, 97, 115, 115, 119, 111, 114, 100])))]), none⟩,
    .op ⟨(some 102), (.build [(.str []), (.str []), (.int .i64 0), (.sl [] 0 (some 0)), (.sl [] 0 (some 0))] [(0, 1, (.av (.str [112, 101, 114, 115, 111, 110]))), (1, 1, (.av (.str [116, 111, 112]))), (2, 1, (.av (.int .i64 1))), (3, 1, (.tmp 100)), (4, 1, (.tmp 101))]), none⟩,
    .op ⟨(some 103), (.bslice false 5 1 [(.str []), (.str []), (.int .i64 0), (.sl [] 0 (some 0)), (.sl [] 0 (some 0))] [(0, 5, (.tmp 102))]), none⟩,
    .op ⟨(some 104), (.app 1 5 88 [(.str []), (.str []), (.int .i64 0), (.sl [] 0 (some 0)), (.sl [] 0 (some 0))] (.tmp 99) (.tmp 103)), none⟩,
    .op ⟨(some 105), (.faddr 1 (.tmp 1)), none⟩,
    .op ⟨none, (.store 1 (.tmp 105) (.tmp 104)), none⟩]
def r_f44_24 : List SOp :=
   [.op ⟨(some 106), (.faddr 1 (.tmp 1)), none⟩,
    .op ⟨(some 107), (.load false 1 (.tmp 106)), none⟩,
    .op ⟨(some 108), (.bslice false 1 4 [(.str []), (.str []), (.str []), (.str [])] [(0, 1, (.av (.str [117, 105, 100]))), (1, 1, (.av (.str [109, 97, 105, 108]))), (2, 1, (.av (.str [101, 109, 112, 108, 111, 121, 101, 101, 78, 117, 109, 98, 101, 114]))), (3, 1, (.av (.str [97, 99, 116, 105, 118, 101])))]), none⟩,
    .op ⟨(some 109), (.build [(.str []), (.str []), (.int .i64 0), (.sl [] 0 (some 0)), (.sl [] 0 (some 0))] [(0, 1, (.av (.str [105, 110, 101, 116, 80, 101, 114, 115, 111, 110]))), (1, 1, (.av (.str [112, 101, 114, 115, 111, 110]))), (2, 1, (.av (.int .i64 1))), (4, 1, (.tmp 108))]), none⟩,
    .op ⟨(some 110), (.bslice false 5 1 [(.str []), (.str []), (.int .i64 0), (.sl [] 0 (some 0)), (.sl [] 0 (some 0))] [(0, 5, (.tmp 109))]), none⟩,
    .op ⟨(some 111), (.app 1 5 88 [(.str []), (.str []), (.int .i64 0), (.sl [] 0 (some 0)), (.sl [] 0 (some 0))] (.tmp 107) (.tmp 110)), none⟩,
    .op ⟨(some 112), (.faddr 1 (.tmp 1)), none⟩,
    .op ⟨none, (.store 1 (.tmp 112) (.tmp 111)), none⟩]
def r_f44_25 : List SOp :=
   [.op ⟨(some 113), (.faddr 1 (.tmp 1)), none⟩,
    .op ⟨(some 114), (.load false 1 (.tmp 113)), none⟩,
    .op ⟨(some 115), (.bslice false 1 2 [(.str []), (.str [])] [(0, 1, (.av (.str [99, 110]))), (1, 1, (.av (.str [109, 101, 109, 98, 101, 114])))]), none⟩,
    .op ⟨(some 116), (.bslice false 1 1 [(.str [])] [(0, 1, (.av (.str [100, 101, 115, 99, 114, 105, 112, 116, 105, 111, 110])))]), none⟩,
    .op ⟨(some 117), (.build [(.str []), (.str []), (.int .i64 0), (.sl [] 0 (some 0)), (.sl [] 0 (some 0))] [(0, 1, (.av (.str [103, 114, 111, 117, 112]))), (1, 1, (.av (.str [116, 111, 112]))), (2, 1, (.av (.int .i64 1))), (3, 1, (.tmp 115)), (4, 1, (.tmp 116))]), none⟩,
    .op ⟨(some 118), (.bslice false 5 1 [(.str []), (.str []), (.int .i64 0), (.sl [] 0 (some 0)), (.sl [] 0 (some 0))] [(0, 5, (.tmp 117))]), none⟩,
    .op ⟨(some 119), (.app 1 5 88 [(.str []), (.str []), (.int .i64 0), (.sl [] 0 (some 0)), (.sl [] 0 (some 0))] (.tmp 114) (.tmp 118)), none⟩,
    .op ⟨(some 120), (.faddr 1 (.tmp 1)), none⟩,
    .op ⟨none, (.store 1 (.tmp 120) (.tmp 119)), none⟩]
def r_f44_26 : List SOp :=
   [.op ⟨(some 121), (.faddr 1 (.tmp 1)), none⟩,
    .op ⟨(some 122), (.load false 1 (.tmp 121)), none⟩,
    .op ⟨(some 123), (.bslice false 1 1 [(.str [])] [(0, 1, (.av (.str [117, 115, 101, 114, 80, 97, 115, 115, 119, 111, 114, 100])))]), none⟩,
    .op ⟨(some 124), (.build [(.str []), (.str []), (.int .i64 0), (.sl [] 0 (some 0)), (.sl [] 0 (some 0))] [(0, 1, (.av (.str [115, 101, 99, 117, 114, 101, 100]))), (1, 1, (.av (.str [116, 111, 112]))), (2, 1, (.av (.int .i64 2))), (3, 1, (.tmp 123))]), none⟩,
    .op ⟨(some 125), (.bslice false 5 1 [(.str []), (.str []), (.int .i64 0), (.sl [] 0 (some 0)), (.sl [] 0 (some 0))] [(0, 5, (.tmp 124))]), none⟩,
    .op ⟨(some 126), (.app 1 5 88 [(.str []), (.str []), (.int .i64 0), (.sl [] 0 (some 0)), (.sl [] 0 (some 0))] (.tmp 122) (.tmp 125)), none⟩,
    .op ⟨(some 127), (.faddr 1 (.tmp 1)), none⟩,
    .op ⟨none, (.store 1 (.tmp 127) (.tmp 126)), none⟩]
def r_f44_27 : List SOp :=
   [.op ⟨(some 128), (.faddr 1 (.tmp 1)), none⟩,
    .op ⟨(some 129), (.load false 1 (.tmp 128)), none⟩,
    .op ⟨(some 130), (.bslice false 1 2 [(.str []), (.str [])] [(0, 1, (.av (.str [117, 105, 100]))), (1, 1, (.av (.str [109, 97, 105, 108])))]), none⟩,
    .op ⟨(some 131), (.build [(.str []), (.str []), (.int .i64 0), (.sl [] 0 (some 0)), (.sl [] 0 (some 0))] [(0, 1, (.av (.str [108, 97, 98, 101, 108, 108, 101, 100]))), (1, 1, (.av (.str [116, 111, 112]))), (2, 1, (.av (.int .i64 2))), (4, 1, (.tmp 130))]), none⟩,
    .op ⟨(some 132), (.bslice false 5 1 [(.str []), (.str []), (.int .i64 0), (.sl [] 0 (some 0)), (.sl [] 0 (some 0))] [(0, 5, (.tmp 131))]), none⟩,
    .op ⟨(some 133), (.app 1 5 88 [(.str []), (.str []), (.int .i64 0), (.sl [] 0 (some 0)), (.sl [] 0 (some 0))] (.tmp 129) (.tmp 132)), none⟩,
    .op ⟨(some 134), (.faddr 1 (.tmp 1)), none⟩,
    .op ⟨none, (.store 1 (.tmp 134) (.tmp 133)), none⟩]
def r_f44_28 : List SOp :=
   [.op ⟨(some 135), (.load true 2 (.tmp 1)), none⟩,
    .op ⟨none, (.store 2 (.tmp 0) (.tmp 135)), none⟩]
def c_f44 : LFun := ⟨136, (.seq (.sreg r_f44_0 [])
  (.seq (.sreg r_f44_1 [])
  (.seq (.sreg r_f44_2 [false, false, false, false, false])
  (.seq (.sreg r_f44_3 [false, false, false, false, false])
  (.seq (.sreg r_f44_4 [false, false, false, false, false])
  (.seq (.sreg r_f44_5 [false, false, false, false, false])
  (.seq (.sreg r_f44_6 [false, false, false, false, false])
  (.seq (.sreg r_f44_7 [false, false, false, false, false])
  (.seq (.sreg r_f44_8 [false, false, false, false, false, false])
  (.seq (.sreg r_f44_9 [false, false, false, false, false, false])
  (.seq (.seq (.sreg r_f44_10 [])
  (.block 0 (.loop (.seq (.sreg r_f44_11 [])
  (.seq (.cond (.tmp 50) .skip
  (.exit 0))
  (.seq (.block 1 (.seq (.sreg r_f44_12 [true, false, false])
  (.seq (.sreg r_f44_13 [true, false, false])
  (.seq (.seq (.sreg r_f44_14 [true, false])
  (.cond (.tmp 56) (.seq (.sreg r_f44_15 [false])
  (.sreg r_f44_16 [false]))
  .skip))
  (.sreg r_f44_17 [false, false, false, false, false, false])))))
  (.sreg r_f44_18 [true, false])))))))
  (.seq (.sreg r_f44_19 [false, false, false, false, false, false, false, false])
  (.seq (.sreg r_f44_20 [false, false, false, false, false, false, false, false])
  (.seq (.sreg r_f44_21 [false, false, false, false, false, false, false, false])
  (.seq (.sreg r_f44_22 [false, false, false, false, false, false, false, false])
  (.seq (.sreg r_f44_23 [false, false, false, false, false, false, false, false])
  (.seq (.sreg r_f44_24 [false, false, false, false, false, false, false])
  (.seq (.sreg r_f44_25 [false, false, false, false, false, false, false, false])
  (.seq (.sreg r_f44_26 [false, false, false, false, false, false, false])
  (.seq (.sreg r_f44_27 [false, false, false, false, false, false, false])
  (.seq (.sreg r_f44_28 [false])
  .ret))))))))))))))))))))), [(.cell true 2 0)]⟩
def o_f44 : Nat → Nat → Nat := fun _ _ => 1
theorem c_f44_eq : lowF Tryz.prog o_f44 44 = some c_f44.raw := by kernel_rfl
theorem c_f44_ok : c_f44.code.okc = true := by kernel_rfl
/-! castellan/truth.Of -/
def r_f95_0 : List SOp :=
   [.op ⟨(some 3), (.box (.tmp 0)), none⟩,
    .op ⟨(some 4), (.box (.tmp 1)), none⟩,
    .op ⟨(some 6), (.mv (.av (.int .i64 0))), none⟩]
def r_f95_1 : List SOp :=
   [.op ⟨(some 17), (.faddr 0 (.tmp 4)), none⟩,
    .op ⟨(some 18), (.load false 1 (.tmp 17)), none⟩]
def r_f95_2 : List SOp :=
   [.op ⟨(some 20), (.bin .eql (.tmp 18) (.av (.int .i64 0))), none⟩,
    .op ⟨(some 19), (.mv (.tmp 20)), none⟩]
def r_f95_3 : List SOp :=
   [.op ⟨(some 21), (.bin .eql (.tmp 18) (.av (.int .i64 1))), none⟩,
    .op ⟨(some 19), (.mv (.tmp 21)), none⟩]
def r_f95_4 : List SOp :=
   [.op ⟨(some 22), (.bin .eql (.tmp 18) (.av (.int .i64 2))), none⟩,
    .op ⟨(some 19), (.mv (.tmp 22)), none⟩]
def r_f95_5 : List SOp :=
   [.op ⟨(some 7), (.mv (.av (.sl [] 0 (some 0)))), none⟩]
def r_f95_6 : List SOp :=
   [.op ⟨(some 23), (.faddr 4 (.tmp 4)), none⟩,
    .op ⟨(some 24), (.load false 1 (.tmp 23)), none⟩,
    .op ⟨(some 25), (.len false (.tmp 24)), none⟩,
    .op ⟨(some 26), (.mv (.av (.int .i64 0))), none⟩]
def r_f95_7 : List SOp :=
   [.op ⟨(some 27), (.bin .lss (.tmp 26) (.tmp 25)), none⟩]
def r_f95_8 : List SOp :=
   [.op ⟨(some 28), (.iaddr 5 (.tmp 24) (.tmp 26)), none⟩,
    .op ⟨(some 29), (.load true 5 (.tmp 28)), none⟩,
    .op ⟨(some 9), (.alloc [(.int .i64 0), (.str []), (.str []), (.sl [] 0 (some 0)), (.sl [] 0 (some 0))]), none⟩,
    .op ⟨none, (.store 5 (.tmp 9) (.tmp 29)), none⟩]
def r_f95_9 : List SOp :=
   [.op ⟨(some 30), (.mv (.tmp 7)), none⟩,
    .op ⟨(some 31), (.load true 2 (.tmp 3)), none⟩,
    .op ⟨(some 32), (.load true 5 (.tmp 9)), none⟩,
    .op ⟨(some 33), (.mv (.tmp 2)), none⟩,
    .op ⟨(some 34), (.call 95 [(.tmp 31), (.tmp 32), (.tmp 33)]), none⟩,
    .op ⟨(some 35), (.bslice false 1 1 [(.int .i64 0)] [(0, 1, (.tmp 34))]), none⟩,
    .op ⟨(some 36), (.app 1 1 8 [(.int .i64 0)] (.tmp 30) (.tmp 35)), none⟩,
    .op ⟨(some 7), (.mv (.tmp 36)), none⟩]
def r_f95_10 : List SOp :=
   [.op ⟨(some 37), (.bin .add (.tmp 26) (.av (.int .i64 1))), none⟩,
    .op ⟨(some 26), (.mv (.tmp 37)), none⟩]
def r_f95_11 : List SOp :=
   [.op ⟨(some 39), (.faddr 0 (.tmp 4)), none⟩,
    .op ⟨(some 40), (.load false 1 (.tmp 39)), none⟩,
    .op ⟨(some 41), (.bin .eql (.tmp 40) (.av (.int .i64 0))), none⟩,
    .op ⟨(some 38), (.mv (.tmp 41)), none⟩]
def r_f95_12 : List SOp :=
   [.op ⟨(some 42), (.mv (.tmp 7)), none⟩,
    .op ⟨(some 43), (.call 18 [(.tmp 42)]), none⟩,
    .op ⟨(some 6), (.mv (.tmp 43)), none⟩]
def r_f95_13 : List SOp :=
   [.op ⟨(some 45), (.faddr 0 (.tmp 4)), none⟩,
    .op ⟨(some 46), (.load false 1 (.tmp 45)), none⟩,
    .op ⟨(some 47), (.bin .eql (.tmp 46) (.av (.int .i64 1))), none⟩,
    .op ⟨(some 44), (.mv (.tmp 47)), none⟩]
def r_f95_14 : List SOp :=
   [.op ⟨(some 48), (.mv (.tmp 7)), none⟩,
    .op ⟨(some 49), (.call 20 [(.tmp 48)]), none⟩,
    .op ⟨(some 6), (.mv (.tmp 49)), none⟩]
def r_f95_15 : List SOp :=
   [.op ⟨(some 51), (.mv (.tmp 7)), none⟩,
    .op ⟨(some 52), (.len false (.tmp 51)), none⟩,
    .op ⟨(some 53), (.bin .neq (.tmp 52) (.av (.int .i64 1))), none⟩,
    .op ⟨(some 50), (.mv (.tmp 53)), none⟩]
def r_f95_16 : List SOp :=
   [.op ⟨(some 6), (.mv (.av (.int .i64 2))), none⟩]
def r_f95_17 : List SOp :=
   [.op ⟨(some 54), (.mv (.tmp 7)), none⟩,
    .op ⟨(some 55), (.iaddr 1 (.tmp 54) (.av (.int .i64 0))), none⟩,
    .op ⟨(some 56), (.load false 1 (.tmp 55)), none⟩,
    .op ⟨(some 57), (.call 22 [(.tmp 56)]), none⟩,
    .op ⟨(some 6), (.mv (.tmp 57)), none⟩]
def r_f95_18 : List SOp :=
   [.op ⟨(some 59), (.load true 2 (.tmp 3)), none⟩,
    .op ⟨(some 60), (.faddr 1 (.tmp 4)), none⟩,
    .op ⟨(some 61), (.load false 1 (.tmp 60)), none⟩,
    .op ⟨(some 62), (.call 81 [(.tmp 59), (.tmp 61)]), none⟩,
    .op ⟨(some 58), (.mv (.tmp 62)), none⟩,
    .op ⟨(some 63), (.extract (.tmp 58) 0), none⟩,
    .op ⟨(some 64), (.extract (.tmp 58) 1), none⟩,
    .op ⟨(some 10), (.alloc [(.str []), (.int .i64 0), (.bool false), (.bool false)]), none⟩,
    .op ⟨none, (.store 4 (.tmp 10) (.tmp 63)), none⟩,
    .op ⟨(some 11), (.mv (.tmp 64)), none⟩]
def r_f95_19 : List SOp :=
   [.op ⟨(some 65), (.mv (.tmp 11)), none⟩,
    .op ⟨(some 66), (.un .not (.tmp 65)), none⟩,
    .op ⟨(some 67), (.mv (.tmp 66)), none⟩,
    .grp none 67 false
      [.op ⟨(some 68), (.faddr 0 (.tmp 4)), (some (67, false))⟩,
      .op ⟨(some 69), (.load false 1 (.tmp 68)), (some (67, false))⟩,
      .op ⟨(some 70), (.bin .lss (.tmp 69) (.av (.int .i64 0))), (some (67, false))⟩]
      71 (.tmp 70),
    .op ⟨(some 72), (.mv (.tmp 71)), none⟩,
    .grp none 72 false
      [.op ⟨(some 73), (.faddr 0 (.tmp 4)), (some (72, false))⟩,
      .op ⟨(some 74), (.load false 1 (.tmp 73)), (some (72, false))⟩,
      .op ⟨(some 75), (.bin .gtr (.tmp 74) (.av (.int .i64 8))), (some (72, false))⟩]
      76 (.tmp 75)]
def r_f95_20 : List SOp :=
   [.op ⟨(some 6), (.mv (.av (.int .i64 2))), none⟩]
def r_f95_21 : List SOp :=
   [.op ⟨(some 77), (.mv (.tmp 2)), none⟩,
    .op ⟨(some 78), (.faddr 1 (.tmp 4)), none⟩,
    .op ⟨(some 79), (.load false 1 (.tmp 78)), none⟩,
    .op ⟨(some 80), (.call 39 [(.tmp 77), (.tmp 79)]), none⟩,
    .op ⟨(some 12), (.mv (.tmp 80)), none⟩]
def r_f95_22 : List SOp :=
   [.op ⟨(some 82), (.faddr 1 (.tmp 10)), none⟩,
    .op ⟨(some 83), (.load false 1 (.tmp 82)), none⟩,
    .op ⟨(some 84), (.faddr 2 (.tmp 4)), none⟩,
    .op ⟨(some 85), (.load false 1 (.tmp 84)), none⟩,
    .op ⟨(some 86), (.call 49 [(.tmp 83), (.tmp 85)]), none⟩,
    .op ⟨(some 81), (.mv (.tmp 86)), none⟩,
    .op ⟨(some 87), (.extract (.tmp 81) 0), none⟩,
    .op ⟨(some 88), (.extract (.tmp 81) 1), none⟩,
    .op ⟨(some 13), (.mv (.tmp 87)), none⟩,
    .op ⟨(some 14), (.mv (.tmp 88)), none⟩]
def r_f95_23 : List SOp :=
   [.op ⟨(some 89), (.faddr 0 (.tmp 4)), none⟩,
    .op ⟨(some 90), (.load false 1 (.tmp 89)), none⟩]
def r_f95_24 : List SOp :=
   [.op ⟨(some 92), (.bin .eql (.tmp 90) (.av (.int .i64 7))), none⟩,
    .op ⟨(some 91), (.mv (.tmp 92)), none⟩]
def r_f95_25 : List SOp :=
   [.op ⟨(some 93), (.mv (.tmp 12)), none⟩,
    .op ⟨(some 94), (.len false (.tmp 93)), none⟩,
    .op ⟨(some 95), (.bin .gtr (.tmp 94) (.av (.int .i64 0))), none⟩,
    .op ⟨(some 96), (.call 153 [(.tmp 95)]), none⟩,
    .op ⟨(some 6), (.mv (.tmp 96)), none⟩]
def r_f95_26 : List SOp :=
   [.op ⟨(some 98), (.bin .eql (.tmp 90) (.av (.int .i64 3))), none⟩,
    .op ⟨(some 97), (.mv (.tmp 98)), none⟩]
def r_f95_27 : List SOp :=
   [.op ⟨(some 99), (.bin .eql (.tmp 90) (.av (.int .i64 8))), none⟩,
    .op ⟨(some 97), (.mv (.tmp 99)), none⟩]
def r_f95_28 : List SOp :=
   [.op ⟨(some 100), (.mv (.tmp 14)), none⟩,
    .op ⟨(some 101), (.un .not (.tmp 100)), none⟩]
def r_f95_29 : List SOp :=
   [.op ⟨(some 6), (.mv (.av (.int .i64 2))), none⟩]
def r_f95_30 : List SOp :=
   [.op ⟨(some 102), (.load true 2 (.tmp 3)), none⟩,
    .op ⟨(some 103), (.mv (.tmp 2)), none⟩,
    .op ⟨(some 104), (.faddr 1 (.tmp 4)), none⟩,
    .op ⟨(some 105), (.load false 1 (.tmp 104)), none⟩,
    .op ⟨(some 106), (.faddr 2 (.tmp 4)), none⟩,
    .op ⟨(some 107), (.load false 1 (.tmp 106)), none⟩,
    .op ⟨(some 108), (.call 154 [(.tmp 102), (.tmp 103), (.tmp 105), (.tmp 107)]), none⟩,
    .op ⟨(some 109), (.call 153 [(.tmp 108)]), none⟩,
    .op ⟨(some 6), (.mv (.tmp 109)), none⟩]
def r_f95_31 : List SOp :=
   [.op ⟨(some 111), (.bin .eql (.tmp 90) (.av (.int .i64 4))), none⟩,
    .op ⟨(some 110), (.mv (.tmp 111)), none⟩]
def r_f95_32 : List SOp :=
   [.op ⟨(some 112), (.faddr 1 (.tmp 10)), none⟩,
    .op ⟨(some 113), (.load false 1 (.tmp 112)), none⟩,
    .op ⟨(some 114), (.bin .gtr (.tmp 113) (.av (.int .i64 3))), none⟩,
    .op ⟨(some 115), (.mv (.tmp 114)), none⟩,
    .op ⟨(some 116), (.faddr 3 (.tmp 4)), (some (115, false))⟩,
    .op ⟨(some 117), (.load false 1 (.tmp 116)), (some (115, false))⟩,
    .op ⟨(some 118), (.build [(.int .i64 0), (.str []), (.str []), (.sl [] 0 (some 0)), (.sl [] 0 (some 0))] [(0, 1, (.av (.int .i64 4))), (1, 1, (.av (.str [97]))), (3, 1, (.tmp 117))]), (some (115, false))⟩,
    .op ⟨(some 119), (.call 155 [(.tmp 118)]), (some (115, false))⟩,
    .op ⟨(some 120), (.bin .neq (.tmp 119) (.av (.int .i64 0))), (some (115, false))⟩,
    .op ⟨(some 121), (.pick (.tmp 115) (.av (.bool true)) (.tmp 120)), none⟩]
def r_f95_33 : List SOp :=
   [.op ⟨(some 6), (.mv (.av (.int .i64 2))), none⟩]
def r_f95_34 : List SOp :=
   [.op ⟨(some 122), (.mv (.tmp 12)), none⟩,
    .op ⟨(some 123), (.mkfn 157 [(.tmp 10), (.tmp 4)]), none⟩,
    .op ⟨(some 124), (.call 156 [(.tmp 122), (.tmp 123)]), none⟩,
    .op ⟨(some 125), (.call 153 [(.tmp 124)]), none⟩,
    .op ⟨(some 6), (.mv (.tmp 125)), none⟩]
def r_f95_35 : List SOp :=
   [.op ⟨(some 127), (.faddr 1 (.tmp 10)), none⟩,
    .op ⟨(some 128), (.load false 1 (.tmp 127)), none⟩,
    .op ⟨(some 129), (.faddr 2 (.tmp 4)), none⟩,
    .op ⟨(some 130), (.load false 1 (.tmp 129)), none⟩,
    .op ⟨(some 131), (.faddr 2 (.tmp 4)), none⟩,
    .op ⟨(some 132), (.load false 1 (.tmp 131)), none⟩,
    .op ⟨(some 133), (.call 159 [(.tmp 128), (.tmp 130), (.tmp 132)]), none⟩,
    .op ⟨(some 126), (.mv (.tmp 133)), none⟩,
    .op ⟨(some 134), (.extract (.tmp 126) 0), none⟩,
    .op ⟨(some 135), (.extract (.tmp 126) 1), none⟩,
    .op ⟨(some 15), (.mv (.tmp 134)), none⟩,
    .op ⟨(some 16), (.mv (.tmp 135)), none⟩]
def r_f95_36 : List SOp :=
   [.op ⟨(some 136), (.mv (.tmp 16)), none⟩,
    .op ⟨(some 137), (.un .not (.tmp 136)), none⟩]
def r_f95_37 : List SOp :=
   [.op ⟨(some 6), (.mv (.av (.int .i64 2))), none⟩]
def r_f95_38 : List SOp :=
   [.op ⟨(some 138), (.mv (.tmp 12)), none⟩,
    .op ⟨(some 139), (.mkfn 160 [(.tmp 10), (.tmp 4)]), none⟩,
    .op ⟨(some 140), (.call 156 [(.tmp 138), (.tmp 139)]), none⟩,
    .op ⟨(some 141), (.call 153 [(.tmp 140)]), none⟩,
    .op ⟨(some 6), (.mv (.tmp 141)), none⟩]
def c_f95 : LFun := ⟨142, (.seq (.sreg r_f95_0 [])
  (.seq (.seq (.sreg r_f95_1 [true, false])
  (.block 0 (.seq (.seq (.sreg r_f95_2 [true, false])
  (.cond (.tmp 19) .skip
  (.seq (.sreg r_f95_3 [true, false])
  (.cond (.tmp 19) .skip
  (.sreg r_f95_4 [true, false])))))
  (.cond (.tmp 19) (.seq (.sreg r_f95_5 [])
  (.seq (.seq (.sreg r_f95_6 [true, true, true, false])
  (.block 1 (.loop (.seq (.sreg r_f95_7 [])
  (.seq (.cond (.tmp 27) .skip
  (.exit 1))
  (.seq (.block 2 (.seq (.sreg r_f95_8 [true, false, false])
  (.sreg r_f95_9 [true, false, false, false, false, false, false, false])))
  (.sreg r_f95_10 [true, false])))))))
  (.seq (.block 3 (.seq (.sreg r_f95_11 [true, false, false, false])
  (.cond (.tmp 38) (.seq (.sreg r_f95_12 [true, false, false])
  .ret)
  (.seq (.sreg r_f95_13 [true, false, false, false])
  (.cond (.tmp 44) (.seq (.sreg r_f95_14 [true, false, false])
  .ret)
  (.seq (.sreg r_f95_15 [true, false, false, false])
  (.cond (.tmp 50) (.seq (.sreg r_f95_16 [])
  .ret)
  .skip)))))))
  (.seq (.sreg r_f95_17 [true, false, false, false, false])
  .ret))))
  .skip))))
  (.seq (.sreg r_f95_18 [true, true, false, false, false, false, false, false, false])
  (.seq (.seq (.sreg r_f95_19 [true, false, false, false, false, false])
  (.cond (.tmp 76) (.seq (.sreg r_f95_20 [])
  .ret)
  .skip))
  (.seq (.sreg r_f95_21 [true, false, false, false, false])
  (.seq (.sreg r_f95_22 [true, false, false, false, false, false, false, false, false, false])
  (.seq (.seq (.sreg r_f95_23 [true, false])
  (.block 4 (.seq (.sreg r_f95_24 [true, false])
  (.cond (.tmp 91) (.seq (.sreg r_f95_25 [true, false, false, false, false])
  .ret)
  (.seq (.seq (.sreg r_f95_26 [true, false])
  (.cond (.tmp 97) .skip
  (.sreg r_f95_27 [true, false])))
  (.cond (.tmp 97) (.seq (.seq (.sreg r_f95_28 [true, false])
  (.cond (.tmp 101) (.seq (.sreg r_f95_29 [])
  .ret)
  .skip))
  (.seq (.sreg r_f95_30 [true, false, false, false, false, false, false, false, false])
  .ret))
  (.seq (.sreg r_f95_31 [true, false])
  (.cond (.tmp 110) (.seq (.seq (.sreg r_f95_32 [true, false, false, false, false, false, false, false, false, false])
  (.cond (.tmp 121) (.seq (.sreg r_f95_33 [])
  .ret)
  .skip))
  (.seq (.sreg r_f95_34 [true, false, false, false, false])
  .ret))
  .skip))))))))
  (.seq (.seq (.sreg r_f95_35 [true, false, false, false, false, false, false, false, false, false, false, false])
  (.seq (.sreg r_f95_36 [true, false])
  (.cond (.tmp 137) (.seq (.sreg r_f95_37 [])
  .ret)
  .skip)))
  (.seq (.sreg r_f95_38 [true, false, false, false, false])
  .ret))))))))), [(.tmp 6)]⟩
def o_f95 : Nat → Nat → Nat := fun _ _ => 1
theorem c_f95_eq : lowF Tryz.prog o_f95 95 = some c_f95.raw := by kernel_rfl
theorem c_f95_ok : c_f95.code.okc = true := by kernel_rfl
/-! (*castellan/castellanref10.Reader).Filter -/
def r_f96_0 : List SOp :=
   [.op ⟨(some 4), (.alloc [(.int .i64 0), (.str []), (.str []), (.sl [] 0 (some 0)), (.sl [] 0 (some 0))]), none⟩]
def r_f96_1 : List SOp :=
   [.op ⟨(some 7), (.mv (.tmp 0)), none⟩,
    .op ⟨(some 8), (.call 161 [(.tmp 7), (.av (.int .u8 40))]), none⟩,
    .op ⟨(some 9), (.un .not (.tmp 8)), none⟩]
def r_f96_2 : List SOp :=
   [.op ⟨(some 10), (.mv (.tmp 0)), none⟩,
    .op ⟨(some 11), (.call 162 [(.tmp 10), (.av (.int .i64 4))]), none⟩,
    .op ⟨none, (.store 5 (.tmp 4) (.tmp 11)), none⟩]
def r_f96_3 : List SOp :=
   [.op ⟨(some 12), (.mv (.tmp 0)), none⟩,
    .op ⟨(some 13), (.nilchk (.tmp 12)), none⟩,
    .op ⟨(some 14), (.faddr 2 (.tmp 13)), none⟩,
    .op ⟨(some 15), (.load false 1 (.tmp 14)), none⟩,
    .op ⟨(some 16), (.bin .add (.tmp 15) (.av (.int .i64 1))), none⟩,
    .op ⟨(some 17), (.nilchk (.tmp 12)), none⟩,
    .op ⟨(some 18), (.faddr 2 (.tmp 17)), none⟩,
    .op ⟨none, (.store 1 (.tmp 18) (.tmp 16)), none⟩]
def r_f96_4 : List SOp :=
   [.op ⟨(some 19), (.mv (.tmp 1)), none⟩,
    .op ⟨(some 20), (.bin .gtr (.tmp 19) (.av (.int .i64 64))), none⟩]
def r_f96_5 : List SOp :=
   [.op ⟨(some 21), (.mv (.tmp 0)), none⟩,
    .op ⟨(some 22), (.call 162 [(.tmp 21), (.av (.int .i64 6))]), none⟩,
    .op ⟨none, (.store 5 (.tmp 4) (.tmp 22)), none⟩]
def r_f96_6 : List SOp :=
   [.op ⟨(some 23), (.mv (.tmp 0)), none⟩,
    .op ⟨(some 24), (.nilchk (.tmp 23)), none⟩,
    .op ⟨(some 25), (.faddr 2 (.tmp 24)), none⟩,
    .op ⟨(some 26), (.load false 1 (.tmp 25)), none⟩,
    .op ⟨(some 27), (.bin .gtr (.tmp 26) (.av (.int .i64 1000))), none⟩]
def r_f96_7 : List SOp :=
   [.op ⟨(some 28), (.mv (.tmp 0)), none⟩,
    .op ⟨(some 29), (.call 162 [(.tmp 28), (.av (.int .i64 9))]), none⟩,
    .op ⟨none, (.store 5 (.tmp 4) (.tmp 29)), none⟩]
def r_f96_8 : List SOp :=
   [.op ⟨(some 5), (.mv (.av (.int .i64 0))), none⟩]
def r_f96_9 : List SOp :=
   [.op ⟨(some 30), (.mv (.tmp 5)), none⟩,
    .op ⟨(some 31), (.bin .lss (.tmp 30) (.av (.int .i64 3))), none⟩]
def r_f96_10 : List SOp :=
   [.op ⟨(some 34), (.mv (.tmp 0)), none⟩,
    .op ⟨(some 35), (.mv (.tmp 5)), none⟩,
    .op ⟨(some 36), (.idxS (.av (.str [38, 124, 33])) (.tmp 35)), none⟩,
    .op ⟨(some 37), (.call 161 [(.tmp 34), (.tmp 36)]), none⟩,
    .op ⟨(some 38), (.un .not (.tmp 37)), none⟩]
def r_f96_11 : List SOp :=
   [.op ⟨(some 39), (.mv (.tmp 5)), none⟩,
    .op ⟨(some 40), (.build [(.int .i64 0), (.str []), (.str []), (.sl [] 0 (some 0)), (.sl [] 0 (some 0))] [(0, 1, (.tmp 39))]), none⟩,
    .op ⟨(some 6), (.alloc [(.int .i64 0), (.str []), (.str []), (.sl [] 0 (some 0)), (.sl [] 0 (some 0))]), none⟩,
    .op ⟨none, (.store 5 (.tmp 6) (.tmp 40)), none⟩]
def r_f96_12 : List SOp :=
   [.op ⟨(some 41), (.mv (.tmp 5)), none⟩,
    .op ⟨(some 42), (.bin .eql (.tmp 41) (.av (.int .i64 2))), none⟩]
def r_f96_13 : List (LOper × Kd) :=
   [(⟨(some 43), (.faddr 4 (.tmp 6)), none⟩, .pure),
    (⟨(some 44), (.load false 1 (.tmp 43)), none⟩, (.read 0 1)),
    (⟨(some 45), (.mv (.tmp 0)), none⟩, .pure),
    (⟨(some 46), (.mv (.tmp 1)), none⟩, .pure),
    (⟨(some 47), (.bin .add (.tmp 46) (.av (.int .i64 1))), none⟩, .pure),
    (⟨(some 48), (.call 96 [(.tmp 45), (.tmp 47)]), none⟩, .eff),
    (⟨(some 49), (.bslice false 5 1 [(.int .i64 0), (.str []), (.str []), (.sl [] 0 (some 0)), (.sl [] 0 (some 0))] [(0, 5, (.tmp 48))]), none⟩, (.read 0 0))]
def r_f96_13t : List LOper :=
   [⟨(some 50), (.app 1 5 88 [(.int .i64 0), (.str []), (.str []), (.sl [] 0 (some 0)), (.sl [] 0 (some 0))] (.tmp 44) (.tmp 49)), none⟩,
    ⟨(some 51), (.faddr 4 (.tmp 6)), none⟩,
    ⟨none, (.store 1 (.tmp 51) (.tmp 50)), none⟩]
def r_f96_14 : List SOp :=
   [.op ⟨(some 52), (.mv (.tmp 5)), none⟩,
    .op ⟨(some 53), (.bin .lss (.tmp 52) (.av (.int .i64 2))), none⟩,
    .op ⟨(some 54), (.mv (.tmp 53)), none⟩,
    .grp none 54 true
      [.op ⟨(some 55), (.mv (.tmp 0)), (some (54, true))⟩,
      .op ⟨(some 56), (.nilchk (.tmp 55)), (some (54, true))⟩,
      .op ⟨(some 57), (.faddr 3 (.tmp 56)), (some (54, true))⟩,
      .op ⟨(some 58), (.load false 1 (.tmp 57)), (some (54, true))⟩,
      .op ⟨(some 59), (.bin .eql (.tmp 58) (.av (.int .i64 0))), (some (54, true))⟩]
      60 (.tmp 59),
    .op ⟨(some 61), (.mv (.tmp 60)), none⟩,
    .grp none 61 true
      [.op ⟨(some 62), (.mv (.tmp 0)), (some (61, true))⟩,
      .op ⟨(some 63), (.nilchk (.tmp 62)), (some (61, true))⟩,
      .op ⟨(some 64), (.faddr 1 (.tmp 63)), (some (61, true))⟩,
      .op ⟨(some 65), (.load false 1 (.tmp 64)), (some (61, true))⟩,
      .op ⟨(some 66), (.mv (.tmp 0)), (some (61, true))⟩,
      .op ⟨(some 67), (.nilchk (.tmp 66)), (some (61, true))⟩,
      .op ⟨(some 68), (.faddr 0 (.tmp 67)), (some (61, true))⟩,
      .op ⟨(some 69), (.load false 1 (.tmp 68)), (some (61, true))⟩,
      .op ⟨(some 70), (.len true (.tmp 69)), (some (61, true))⟩,
      .op ⟨(some 71), (.bin .lss (.tmp 65) (.tmp 70)), (some (61, true))⟩]
      72 (.tmp 71),
    .op ⟨(some 73), (.mv (.tmp 72)), none⟩,
    .grp none 73 true
      [.op ⟨(some 74), (.mv (.tmp 0)), (some (73, true))⟩,
      .op ⟨(some 75), (.nilchk (.tmp 74)), (some (73, true))⟩,
      .op ⟨(some 76), (.faddr 0 (.tmp 75)), (some (73, true))⟩,
      .op ⟨(some 77), (.load false 1 (.tmp 76)), (some (73, true))⟩,
      .op ⟨(some 78), (.mv (.tmp 0)), (some (73, true))⟩,
      .op ⟨(some 79), (.nilchk (.tmp 78)), (some (73, true))⟩,
      .op ⟨(some 80), (.faddr 1 (.tmp 79)), (some (73, true))⟩,
      .op ⟨(some 81), (.load false 1 (.tmp 80)), (some (73, true))⟩,
      .op ⟨(some 82), (.idxS (.tmp 77) (.tmp 81)), (some (73, true))⟩,
      .op ⟨(some 83), (.bin .eql (.tmp 82) (.av (.int .u8 40))), (some (73, true))⟩]
      84 (.tmp 83)]
def r_f96_15 : List (LOper × Kd) :=
   [(⟨(some 85), (.faddr 4 (.tmp 6)), none⟩, .pure),
    (⟨(some 86), (.load false 1 (.tmp 85)), none⟩, (.read 0 1)),
    (⟨(some 87), (.mv (.tmp 0)), none⟩, .pure),
    (⟨(some 88), (.mv (.tmp 1)), none⟩, .pure),
    (⟨(some 89), (.bin .add (.tmp 88) (.av (.int .i64 1))), none⟩, .pure),
    (⟨(some 90), (.call 96 [(.tmp 87), (.tmp 89)]), none⟩, .eff),
    (⟨(some 91), (.bslice false 5 1 [(.int .i64 0), (.str []), (.str []), (.sl [] 0 (some 0)), (.sl [] 0 (some 0))] [(0, 5, (.tmp 90))]), none⟩, (.read 0 0))]
def r_f96_15t : List LOper :=
   [⟨(some 92), (.app 1 5 88 [(.int .i64 0), (.str []), (.str []), (.sl [] 0 (some 0)), (.sl [] 0 (some 0))] (.tmp 86) (.tmp 91)), none⟩,
    ⟨(some 93), (.faddr 4 (.tmp 6)), none⟩,
    ⟨none, (.store 1 (.tmp 93) (.tmp 92)), none⟩]
def r_f96_16 : List SOp :=
   [.op ⟨(some 94), (.mv (.tmp 0)), none⟩,
    .op ⟨(some 95), (.nilchk (.tmp 94)), none⟩,
    .op ⟨(some 96), (.faddr 3 (.tmp 95)), none⟩,
    .op ⟨(some 97), (.load false 1 (.tmp 96)), none⟩,
    .op ⟨(some 98), (.bin .eql (.tmp 97) (.av (.int .i64 0))), none⟩,
    .op ⟨(some 99), (.mv (.tmp 98)), none⟩,
    .op ⟨(some 100), (.mv (.tmp 0)), (some (99, true))⟩,
    .op ⟨(some 101), (.call 161 [(.tmp 100), (.av (.int .u8 41))]), (some (99, true))⟩,
    .op ⟨(some 102), (.un .not (.tmp 101)), (some (99, true))⟩,
    .op ⟨(some 103), (.pick (.tmp 99) (.tmp 102) (.av (.bool false))), none⟩]
def r_f96_17 : List SOp :=
   [.op ⟨(some 104), (.mv (.tmp 0)), none⟩,
    .op ⟨(some 105), (.call 162 [(.tmp 104), (.av (.int .i64 4))]), none⟩,
    .op ⟨none, (.store 5 (.tmp 4) (.tmp 105)), none⟩]
def r_f96_18 : List SOp :=
   [.op ⟨(some 106), (.load true 5 (.tmp 6)), none⟩,
    .op ⟨none, (.store 5 (.tmp 4) (.tmp 106)), none⟩]
def r_f96_19 : List SOp :=
   [.op ⟨(some 32), (.mv (.tmp 5)), none⟩,
    .op ⟨(some 33), (.bin .add (.tmp 32) (.av (.int .i64 1))), none⟩,
    .op ⟨(some 5), (.mv (.tmp 33)), none⟩]
def r_f96_20 : List SOp :=
   [.op ⟨(some 107), (.mv (.tmp 0)), none⟩,
    .op ⟨(some 108), (.call 163 [(.tmp 107)]), none⟩,
    .op ⟨none, (.store 5 (.tmp 4) (.tmp 108)), none⟩]
def c_f96 : LFun := ⟨109, (.seq (.sreg r_f96_0 [])
  (.seq (.seq (.sreg r_f96_1 [true, false, false])
  (.cond (.tmp 9) (.seq (.sreg r_f96_2 [false, false])
  .ret)
  .skip))
  (.seq (.sreg r_f96_3 [false, false, false, false, false, false, false])
  (.seq (.seq (.sreg r_f96_4 [true, false])
  (.cond (.tmp 20) (.seq (.sreg r_f96_5 [false, false])
  .ret)
  .skip))
  (.seq (.seq (.sreg r_f96_6 [true, false, false, false, false])
  (.cond (.tmp 27) (.seq (.sreg r_f96_7 [false, false])
  .ret)
  .skip))
  (.seq (.seq (.sreg r_f96_8 [])
  (.block 0 (.loop (.seq (.seq (.sreg r_f96_9 [true, false])
  (.cond (.tmp 31) .skip
  (.exit 0)))
  (.seq (.block 1 (.seq (.seq (.sreg r_f96_10 [true, false, false, false, false])
  (.cond (.tmp 38) (.exit 1)
  .skip))
  (.seq (.sreg r_f96_11 [true, false, false])
  (.seq (.seq (.sreg r_f96_12 [true, false])
  (.cond (.tmp 42) (.dregM r_f96_13 r_f96_13t [false, false, false, false, false, false, false, false, false])
  .skip))
  (.seq (.block 2 (.loop (.seq (.seq (.sdreg r_f96_14 [.pure, .pure, .pure, .pure, (.read 0 0), .pure, (.read 0 0), .pure, .pure, .pure, .pure, (.read 0 0), .pure, (.read 0 0), .pure, (.read 0 0), .pure, (.read 0 0), (.read 0 0), .pure, .pure, .pure, .pure, (.read 0 0), .pure, (.read 0 0), .pure, (.read 0 0), .pure, (.read 0 0)] [true, false, false, false, false, false, false, false])
  (.cond (.tmp 84) .skip
  (.exit 2)))
  (.block 3 (.dregM r_f96_15 r_f96_15t [false, false, false, false, false, false, false, false, false])))))
  (.seq (.seq (.sreg r_f96_16 [true, false, false, false, false, false, false, false, false, false])
  (.cond (.tmp 103) (.seq (.sreg r_f96_17 [false, false])
  .ret)
  .skip))
  (.seq (.sreg r_f96_18 [false])
  .ret)))))))
  (.sreg r_f96_19 [true, false, false]))))))
  (.seq (.sreg r_f96_20 [false, false])
  .ret))))))), [(.cell true 5 4)]⟩
def o_f96 : Nat → Nat → Nat := fun r i => if r = 14 ∧ i = 5 then 3 else if r = 16 ∧ i = 5 then 3 else 1
theorem c_f96_eq : lowF Tryz.prog o_f96 96 = some c_f96.raw := by kernel_rfl
theorem c_f96_ok : c_f96.code.okc = true := by kernel_rfl
/-! castellan/castellanref13.types -/
def r_f82_0 : List SOp :=
   [.op ⟨(some 6), (.mv (.av (.sl [] 0 (some 0)))), none⟩]
def r_f82_1 : List SOp :=
   [.op ⟨(some 9), (.mv (.tmp 2)), none⟩,
    .op ⟨(some 10), (.len false (.tmp 9)), none⟩,
    .op ⟨(some 11), (.mv (.av (.int .i64 0))), none⟩]
def r_f82_2 : List SOp :=
   [.op ⟨(some 12), (.bin .lss (.tmp 11) (.tmp 10)), none⟩]
def r_f82_3 : List SOp :=
   [.op ⟨(some 13), (.iaddr 1 (.tmp 9) (.tmp 11)), none⟩,
    .op ⟨(some 14), (.load false 1 (.tmp 13)), none⟩,
    .op ⟨(some 8), (.mv (.tmp 14)), none⟩]
def r_f82_4 : List SOp :=
   [.op ⟨(some 15), (.mv (.tmp 0)), none⟩,
    .op ⟨(some 16), (.mv (.tmp 8)), none⟩,
    .op ⟨(some 17), (.mv (.tmp 1)), none⟩,
    .op ⟨(some 18), (.build [(.str []), (.int .i64 0), (.bool false), (.bool false)] [(0, 1, (.tmp 16)), (1, 1, (.tmp 17))]), none⟩,
    .op ⟨(some 19), (.bslice false 4 1 [(.str []), (.int .i64 0), (.bool false), (.bool false)] [(0, 4, (.tmp 18))]), none⟩,
    .op ⟨(some 20), (.app 1 4 32 [(.str []), (.int .i64 0), (.bool false), (.bool false)] (.tmp 15) (.tmp 19)), none⟩,
    .op ⟨(some 0), (.mv (.tmp 20)), none⟩]
def r_f82_5 : List SOp :=
   [.op ⟨(some 21), (.bin .add (.tmp 11) (.av (.int .i64 1))), none⟩,
    .op ⟨(some 11), (.mv (.tmp 21)), none⟩]
def r_f82_6 : List SOp :=
   [.op ⟨(some 22), (.mv (.tmp 0)), none⟩,
    .op ⟨(some 6), (.mv (.tmp 22)), none⟩]
def c_f82 : LFun := ⟨23, (.seq (.sreg r_f82_0 [])
  (.seq (.seq (.sreg r_f82_1 [])
  (.block 0 (.loop (.seq (.sreg r_f82_2 [])
  (.seq (.cond (.tmp 12) .skip
  (.exit 0))
  (.seq (.block 1 (.seq (.sreg r_f82_3 [true, false, false])
  (.sreg r_f82_4 [true, false, false, false, false, false, false])))
  (.sreg r_f82_5 [true, false])))))))
  (.seq (.sreg r_f82_6 [true, false])
  .ret))), [(.tmp 6)]⟩
def o_f82 : Nat → Nat → Nat := fun _ _ => 1
theorem c_f82_eq : lowF Tryz.prog o_f82 82 = some c_f82.raw := by kernel_rfl
theorem c_f82_ok : c_f82.code.okc = true := by kernel_rfl
/-! castellan/truth.And -/
def r_f18_0 : List SOp :=
   [.op ⟨(some 2), (.mv (.av (.int .i64 0))), none⟩]
def r_f18_1 : List SOp :=
   [.op ⟨(some 3), (.mv (.av (.int .i64 1))), none⟩]
def r_f18_2 : List SOp :=
   [.op ⟨(some 6), (.mv (.tmp 0)), none⟩,
    .op ⟨(some 7), (.len false (.tmp 6)), none⟩,
    .op ⟨(some 8), (.mv (.av (.int .i64 0))), none⟩]
def r_f18_3 : List SOp :=
   [.op ⟨(some 9), (.bin .lss (.tmp 8) (.tmp 7)), none⟩]
def r_f18_4 : List SOp :=
   [.op ⟨(some 10), (.iaddr 1 (.tmp 6) (.tmp 8)), none⟩,
    .op ⟨(some 11), (.load false 1 (.tmp 10)), none⟩,
    .op ⟨(some 5), (.mv (.tmp 11)), none⟩]
def r_f18_5 : List SOp :=
   [.op ⟨(some 13), (.mv (.tmp 5)), none⟩,
    .op ⟨(some 14), (.bin .eql (.tmp 13) (.av (.int .i64 0))), none⟩,
    .op ⟨(some 12), (.mv (.tmp 14)), none⟩]
def r_f18_6 : List SOp :=
   [.op ⟨(some 2), (.mv (.av (.int .i64 0))), none⟩]
def r_f18_7 : List SOp :=
   [.op ⟨(some 16), (.mv (.tmp 5)), none⟩,
    .op ⟨(some 17), (.bin .neq (.tmp 16) (.av (.int .i64 1))), none⟩,
    .op ⟨(some 15), (.mv (.tmp 17)), none⟩]
def r_f18_8 : List SOp :=
   [.op ⟨(some 3), (.mv (.av (.int .i64 2))), none⟩]
def r_f18_9 : List SOp :=
   [.op ⟨(some 18), (.bin .add (.tmp 8) (.av (.int .i64 1))), none⟩,
    .op ⟨(some 8), (.mv (.tmp 18)), none⟩]
def r_f18_10 : List SOp :=
   [.op ⟨(some 19), (.mv (.tmp 3)), none⟩,
    .op ⟨(some 2), (.mv (.tmp 19)), none⟩]
def c_f18 : LFun := ⟨20, (.seq (.sreg r_f18_0 [])
  (.seq (.sreg r_f18_1 [])
  (.seq (.seq (.sreg r_f18_2 [])
  (.block 0 (.loop (.seq (.sreg r_f18_3 [])
  (.seq (.cond (.tmp 9) .skip
  (.exit 0))
  (.seq (.block 1 (.seq (.sreg r_f18_4 [true, false, false])
  (.block 2 (.seq (.sreg r_f18_5 [true, false, false])
  (.cond (.tmp 12) (.seq (.sreg r_f18_6 [])
  .ret)
  (.seq (.sreg r_f18_7 [true, false, false])
  (.cond (.tmp 15) (.sreg r_f18_8 [])
  .skip)))))))
  (.sreg r_f18_9 [true, false])))))))
  (.seq (.sreg r_f18_10 [true, false])
  .ret)))), [(.tmp 2)]⟩
def o_f18 : Nat → Nat → Nat := fun _ _ => 1
theorem c_f18_eq : lowF Tryz.prog o_f18 18 = some c_f18.raw := by kernel_rfl
theorem c_f18_ok : c_f18.code.okc = true := by kernel_rfl
/-! castellan/truth.Or -/
def r_f20_0 : List SOp :=
   [.op ⟨(some 2), (.mv (.av (.int .i64 0))), none⟩]
def r_f20_1 : List SOp :=
   [.op ⟨(some 3), (.mv (.av (.sl [] 0 (some 0)))), none⟩]
def r_f20_2 : List SOp :=
   [.op ⟨(some 6), (.mv (.tmp 0)), none⟩,
    .op ⟨(some 7), (.len false (.tmp 6)), none⟩,
    .op ⟨(some 8), (.mv (.av (.int .i64 0))), none⟩]
def r_f20_3 : List SOp :=
   [.op ⟨(some 9), (.bin .lss (.tmp 8) (.tmp 7)), none⟩]
def r_f20_4 : List SOp :=
   [.op ⟨(some 10), (.iaddr 1 (.tmp 6) (.tmp 8)), none⟩,
    .op ⟨(some 11), (.load false 1 (.tmp 10)), none⟩,
    .op ⟨(some 5), (.mv (.tmp 11)), none⟩]
def r_f20_5 : List SOp :=
   [.op ⟨(some 12), (.mv (.tmp 3)), none⟩,
    .op ⟨(some 13), (.mv (.tmp 5)), none⟩,
    .op ⟨(some 14), (.call 22 [(.tmp 13)]), none⟩,
    .op ⟨(some 15), (.bslice false 1 1 [(.int .i64 0)] [(0, 1, (.tmp 14))]), none⟩,
    .op ⟨(some 16), (.app 1 1 8 [(.int .i64 0)] (.tmp 12) (.tmp 15)), none⟩,
    .op ⟨(some 3), (.mv (.tmp 16)), none⟩]
def r_f20_6 : List SOp :=
   [.op ⟨(some 17), (.bin .add (.tmp 8) (.av (.int .i64 1))), none⟩,
    .op ⟨(some 8), (.mv (.tmp 17)), none⟩]
def r_f20_7 : List SOp :=
   [.op ⟨(some 18), (.mv (.tmp 3)), none⟩,
    .op ⟨(some 19), (.call 18 [(.tmp 18)]), none⟩,
    .op ⟨(some 20), (.call 22 [(.tmp 19)]), none⟩,
    .op ⟨(some 2), (.mv (.tmp 20)), none⟩]
def c_f20 : LFun := ⟨21, (.seq (.sreg r_f20_0 [])
  (.seq (.sreg r_f20_1 [])
  (.seq (.seq (.sreg r_f20_2 [])
  (.block 0 (.loop (.seq (.sreg r_f20_3 [])
  (.seq (.cond (.tmp 9) .skip
  (.exit 0))
  (.seq (.block 1 (.seq (.sreg r_f20_4 [true, false, false])
  (.sreg r_f20_5 [true, false, false, false, false, false])))
  (.sreg r_f20_6 [true, false])))))))
  (.seq (.sreg r_f20_7 [true, false, false, false])
  .ret)))), [(.tmp 2)]⟩
def o_f20 : Nat → Nat → Nat := fun _ _ => 1
theorem c_f20_eq : lowF Tryz.prog o_f20 20 = some c_f20.raw := by kernel_rfl
theorem c_f20_ok : c_f20.code.okc = true := by kernel_rfl
/-! castellan/truth.Not -/
def r_f22_0 : List SOp :=
   [.op ⟨(some 2), (.mv (.av (.int .i64 0))), none⟩]
def r_f22_1 : List SOp :=
   [.op ⟨(some 3), (.mv (.tmp 0)), none⟩]
def r_f22_2 : List SOp :=
   [.op ⟨(some 5), (.bin .eql (.tmp 3) (.av (.int .i64 0))), none⟩,
    .op ⟨(some 4), (.mv (.tmp 5)), none⟩]
def r_f22_3 : List SOp :=
   [.op ⟨(some 2), (.mv (.av (.int .i64 1))), none⟩]
def r_f22_4 : List SOp :=
   [.op ⟨(some 7), (.bin .eql (.tmp 3) (.av (.int .i64 1))), none⟩,
    .op ⟨(some 6), (.mv (.tmp 7)), none⟩]
def r_f22_5 : List SOp :=
   [.op ⟨(some 2), (.mv (.av (.int .i64 0))), none⟩]
def r_f22_6 : List SOp :=
   [.op ⟨(some 2), (.mv (.av (.int .i64 2))), none⟩]
def c_f22 : LFun := ⟨8, (.seq (.sreg r_f22_0 [])
  (.seq (.seq (.sreg r_f22_1 [])
  (.block 0 (.seq (.sreg r_f22_2 [true, false])
  (.cond (.tmp 4) (.seq (.sreg r_f22_3 [])
  .ret)
  (.seq (.sreg r_f22_4 [true, false])
  (.cond (.tmp 6) (.seq (.sreg r_f22_5 [])
  .ret)
  .skip))))))
  (.seq (.sreg r_f22_6 [])
  .ret))), [(.tmp 2)]⟩
def o_f22 : Nat → Nat → Nat := fun _ _ => 1
theorem c_f22_eq : lowF Tryz.prog o_f22 22 = some c_f22.raw := by kernel_rfl
theorem c_f22_ok : c_f22.code.okc = true := by kernel_rfl
/-! castellan/schema.Find -/
def r_f81_0 : List SOp :=
   [.op ⟨(some 2), (.box (.tmp 0)), none⟩,
    .op ⟨(some 4), (.alloc [(.str []), (.int .i64 0), (.bool false), (.bool false)]), none⟩,
    .op ⟨(some 5), (.mv (.av (.bool false))), none⟩]
def r_f81_1 : List SOp :=
   [.op ⟨(some 6), (.load true 2 (.tmp 2)), none⟩,
    .op ⟨(some 7), (.build [(.sl [] 0 (some 0)), (.sl [] 0 (some 0))] [(0, 2, (.tmp 6))]), none⟩,
    .op ⟨(some 8), (.mv (.tmp 1)), none⟩,
    .op ⟨(some 9), (.call 142 [(.tmp 7), (.tmp 8)]), none⟩,
    .op ⟨(some 10), (.extract (.tmp 9) 0), none⟩,
    .op ⟨(some 11), (.extract (.tmp 9) 1), none⟩,
    .op ⟨none, (.store 4 (.tmp 4) (.tmp 10)), none⟩,
    .op ⟨(some 5), (.mv (.tmp 11)), none⟩]
def c_f81 : LFun := ⟨12, (.seq (.sreg r_f81_0 [])
  (.seq (.sreg r_f81_1 [true, false, false, false, false, false, false])
  .ret)), [(.cell true 4 4), (.tmp 5)]⟩
def o_f81 : Nat → Nat → Nat := fun _ _ => 1
theorem c_f81_eq : lowF Tryz.prog o_f81 81 = some c_f81.raw := by kernel_rfl
theorem c_f81_ok : c_f81.code.okc = true := by kernel_rfl
/-! castellan/entry.Get -/
def r_f39_0 : List SOp :=
   [.op ⟨(some 4), (.mv (.av (.sl [] 0 (some 0)))), none⟩]
def r_f39_1 : List SOp :=
   [.op ⟨(some 8), (.mv (.tmp 0)), none⟩,
    .op ⟨(some 9), (.mv (.tmp 1)), none⟩,
    .op ⟨(some 10), (.call 80 [(.tmp 8), (.tmp 9)]), none⟩,
    .op ⟨(some 7), (.mv (.tmp 10)), none⟩,
    .op ⟨(some 11), (.extract (.tmp 7) 0), none⟩,
    .op ⟨(some 12), (.extract (.tmp 7) 1), none⟩,
    .op ⟨(some 5), (.mv (.tmp 11)), none⟩,
    .op ⟨(some 6), (.mv (.tmp 12)), none⟩]
def r_f39_2 : List SOp :=
   [.op ⟨(some 13), (.mv (.tmp 6)), none⟩]
def r_f39_3 : List SOp :=
   [.op ⟨(some 14), (.mv (.tmp 0)), none⟩,
    .op ⟨(some 15), (.mv (.tmp 5)), none⟩,
    .op ⟨(some 16), (.iaddr 2 (.tmp 14) (.tmp 15)), none⟩,
    .op ⟨(some 17), (.faddr 1 (.tmp 16)), none⟩,
    .op ⟨(some 18), (.load false 1 (.tmp 17)), none⟩,
    .op ⟨(some 19), (.call 38 [(.tmp 18)]), none⟩,
    .op ⟨(some 4), (.mv (.tmp 19)), none⟩]
def r_f39_4 : List SOp :=
   [.op ⟨(some 4), (.mv (.av (.sl [] 0 (some 0)))), none⟩]
def c_f39 : LFun := ⟨20, (.seq (.sreg r_f39_0 [])
  (.seq (.seq (.sreg r_f39_1 [true, true, false, false, false, false, false, false])
  (.seq (.sreg r_f39_2 [])
  (.cond (.tmp 13) (.seq (.sreg r_f39_3 [true, false, false, false, false, false, false])
  .ret)
  .skip)))
  (.seq (.sreg r_f39_4 [])
  .ret))), [(.tmp 4)]⟩
def o_f39 : Nat → Nat → Nat := fun _ _ => 1
theorem c_f39_eq : lowF Tryz.prog o_f39 39 = some c_f39.raw := by kernel_rfl
theorem c_f39_ok : c_f39.code.okc = true := by kernel_rfl
/-! castellan/syntax.Norm -/
def r_f49_0 : List SOp :=
   [.op ⟨(some 4), (.mv (.av (.str []))), none⟩,
    .op ⟨(some 5), (.mv (.av (.bool false))), none⟩]
def r_f49_1 : List SOp :=
   [.op ⟨(some 10), (.mv (.tmp 1)), none⟩,
    .op ⟨(some 11), (.len true (.tmp 10)), none⟩,
    .op ⟨(some 12), (.bin .gtr (.tmp 11) (.av (.int .i64 4096))), none⟩]
def r_f49_2 : List SOp :=
   [.op ⟨(some 4), (.mv (.av (.str []))), none⟩,
    .op ⟨(some 5), (.mv (.av (.bool false))), none⟩]
def r_f49_3 : List SOp :=
   [.op ⟨(some 13), (.mv (.tmp 1)), none⟩,
    .op ⟨(some 6), (.mv (.tmp 13)), none⟩,
    .op ⟨(some 7), (.mv (.av (.bool false))), none⟩]
def r_f49_4 : List SOp :=
   [.op ⟨(some 14), (.mv (.tmp 0)), none⟩]
def r_f49_5 : List SOp :=
   [.op ⟨(some 16), (.bin .eql (.tmp 14) (.av (.int .i64 1))), none⟩,
    .op ⟨(some 15), (.mv (.tmp 16)), none⟩]
def r_f49_6 : List SOp :=
   [.op ⟨(some 17), (.mv (.tmp 1)), none⟩,
    .op ⟨(some 18), (.call 87 [(.tmp 17)]), none⟩,
    .op ⟨(some 19), (.mv (.tmp 1)), none⟩,
    .op ⟨(some 20), (.bin .neq (.tmp 19) (.av (.str []))), none⟩,
    .op ⟨(some 21), (.mv (.tmp 20)), none⟩,
    .op ⟨(some 22), (.mv (.tmp 1)), (some (21, true))⟩,
    .op ⟨(some 23), (.call 88 [(.tmp 22)]), (some (21, true))⟩,
    .op ⟨(some 24), (.pick (.tmp 21) (.tmp 23) (.av (.bool false))), none⟩,
    .op ⟨(some 6), (.mv (.tmp 18)), none⟩,
    .op ⟨(some 7), (.mv (.tmp 24)), none⟩]
def r_f49_7 : List SOp :=
   [.op ⟨(some 26), (.bin .eql (.tmp 14) (.av (.int .i64 2))), none⟩,
    .op ⟨(some 25), (.mv (.tmp 26)), none⟩]
def r_f49_8 : List SOp :=
   [.op ⟨(some 27), (.mv (.tmp 1)), none⟩,
    .op ⟨(some 28), (.bin .neq (.tmp 27) (.av (.str []))), none⟩,
    .op ⟨(some 29), (.mv (.tmp 28)), none⟩,
    .op ⟨(some 30), (.mv (.tmp 1)), (some (29, true))⟩,
    .op ⟨(some 31), (.call 88 [(.tmp 30)]), (some (29, true))⟩,
    .op ⟨(some 32), (.pick (.tmp 29) (.tmp 31) (.av (.bool false))), none⟩,
    .op ⟨(some 7), (.mv (.tmp 32)), none⟩]
def r_f49_9 : List SOp :=
   [.op ⟨(some 34), (.bin .eql (.tmp 14) (.av (.int .i64 3))), none⟩,
    .op ⟨(some 33), (.mv (.tmp 34)), none⟩]
def r_f49_10 : List SOp :=
   [.op ⟨(some 35), (.mv (.tmp 1)), none⟩,
    .op ⟨(some 36), (.call 87 [(.tmp 35)]), none⟩,
    .op ⟨(some 37), (.mv (.tmp 1)), none⟩,
    .op ⟨(some 38), (.call 89 [(.tmp 37), (.av (.func 90 []))]), none⟩,
    .op ⟨(some 39), (.bin .lss (.tmp 38) (.av (.int .i64 0))), none⟩,
    .op ⟨(some 6), (.mv (.tmp 36)), none⟩,
    .op ⟨(some 7), (.mv (.tmp 39)), none⟩]
def r_f49_11 : List SOp :=
   [.op ⟨(some 41), (.bin .eql (.tmp 14) (.av (.int .i64 4))), none⟩,
    .op ⟨(some 40), (.mv (.tmp 41)), none⟩]
def r_f49_12 : List SOp :=
   [.op ⟨(some 43), (.mv (.tmp 1)), none⟩,
    .op ⟨(some 44), (.call 91 [(.tmp 43)]), none⟩,
    .op ⟨(some 42), (.mv (.tmp 44)), none⟩,
    .op ⟨(some 45), (.extract (.tmp 42) 0), none⟩,
    .op ⟨(some 46), (.extract (.tmp 42) 1), none⟩,
    .op ⟨(some 7), (.mv (.tmp 46)), none⟩]
def r_f49_13 : List SOp :=
   [.op ⟨(some 48), (.bin .eql (.tmp 14) (.av (.int .i64 5))), none⟩,
    .op ⟨(some 47), (.mv (.tmp 48)), none⟩]
def r_f49_14 : List SOp :=
   [.op ⟨(some 49), (.mv (.tmp 1)), none⟩,
    .op ⟨(some 50), (.bin .eql (.tmp 49) (.av (.str [84, 82, 85, 69]))), none⟩,
    .op ⟨(some 51), (.mv (.tmp 50)), none⟩,
    .grp none 51 false
      [.op ⟨(some 52), (.mv (.tmp 1)), (some (51, false))⟩,
      .op ⟨(some 53), (.bin .eql (.tmp 52) (.av (.str [70, 65, 76, 83, 69]))), (some (51, false))⟩]
      54 (.tmp 53),
    .op ⟨(some 7), (.mv (.tmp 54)), none⟩]
def r_f49_15 : List SOp :=
   [.op ⟨(some 56), (.bin .eql (.tmp 14) (.av (.int .i64 6))), none⟩,
    .op ⟨(some 55), (.mv (.tmp 56)), none⟩]
def r_f49_16 : List SOp :=
   [.op ⟨(some 58), (.mv (.tmp 1)), none⟩,
    .op ⟨(some 59), (.call 92 [(.tmp 58)]), none⟩,
    .op ⟨(some 57), (.mv (.tmp 59)), none⟩,
    .op ⟨(some 60), (.extract (.tmp 57) 0), none⟩,
    .op ⟨(some 61), (.extract (.tmp 57) 1), none⟩,
    .op ⟨(some 8), (.mv (.tmp 60)), none⟩,
    .op ⟨(some 9), (.mv (.tmp 61)), none⟩]
def r_f49_17 : List SOp :=
   [.op ⟨(some 62), (.mv (.tmp 8)), none⟩,
    .op ⟨(some 63), (.mv (.tmp 9)), none⟩,
    .op ⟨(some 64), (.bin .eql (.tmp 63) (.av (.int .i64 0))), none⟩,
    .op ⟨(some 6), (.mv (.tmp 62)), none⟩,
    .op ⟨(some 7), (.mv (.tmp 64)), none⟩]
def r_f49_18 : List SOp :=
   [.op ⟨(some 66), (.bin .eql (.tmp 14) (.av (.int .i64 7))), none⟩,
    .op ⟨(some 65), (.mv (.tmp 66)), none⟩]
def r_f49_19 : List SOp :=
   [.op ⟨(some 7), (.mv (.av (.bool true))), none⟩]
def r_f49_20 : List SOp :=
   [.op ⟨(some 68), (.bin .eql (.tmp 14) (.av (.int .i64 8))), none⟩,
    .op ⟨(some 67), (.mv (.tmp 68)), none⟩]
def r_f49_21 : List SOp :=
   [.op ⟨(some 69), (.mv (.tmp 1)), none⟩,
    .op ⟨(some 70), (.call 93 [(.tmp 69)]), none⟩,
    .op ⟨(some 7), (.mv (.tmp 70)), none⟩]
def r_f49_22 : List SOp :=
   [.op ⟨(some 71), (.mv (.tmp 7)), none⟩,
    .op ⟨(some 72), (.un .not (.tmp 71)), none⟩]
def r_f49_23 : List SOp :=
   [.op ⟨(some 4), (.mv (.av (.str []))), none⟩,
    .op ⟨(some 5), (.mv (.av (.bool false))), none⟩]
def r_f49_24 : List SOp :=
   [.op ⟨(some 73), (.mv (.tmp 6)), none⟩,
    .op ⟨(some 4), (.mv (.tmp 73)), none⟩,
    .op ⟨(some 5), (.mv (.av (.bool true))), none⟩]
def c_f49 : LFun := ⟨74, (.seq (.sreg r_f49_0 [])
  (.seq (.seq (.sreg r_f49_1 [true, false, false])
  (.cond (.tmp 12) (.seq (.sreg r_f49_2 [])
  .ret)
  .skip))
  (.seq (.sreg r_f49_3 [true, true, false])
  (.seq (.seq (.sreg r_f49_4 [])
  (.block 0 (.seq (.sreg r_f49_5 [true, false])
  (.cond (.tmp 15) (.sreg r_f49_6 [true, true, false, false, false, false, false, false, false, false])
  (.seq (.sreg r_f49_7 [true, false])
  (.cond (.tmp 25) (.sreg r_f49_8 [true, false, false, false, false, false, false])
  (.seq (.sreg r_f49_9 [true, false])
  (.cond (.tmp 33) (.sreg r_f49_10 [true, true, false, false, false, false, false])
  (.seq (.sreg r_f49_11 [true, false])
  (.cond (.tmp 40) (.sreg r_f49_12 [true, false, false, false, false, false])
  (.seq (.sreg r_f49_13 [true, false])
  (.cond (.tmp 47) (.sreg r_f49_14 [true, false, false, false, false])
  (.seq (.sreg r_f49_15 [true, false])
  (.cond (.tmp 55) (.seq (.sreg r_f49_16 [true, true, false, false, false, false, false])
  (.sreg r_f49_17 [true, true, false, false, false]))
  (.seq (.sreg r_f49_18 [true, false])
  (.cond (.tmp 65) (.sreg r_f49_19 [])
  (.seq (.sreg r_f49_20 [true, false])
  (.cond (.tmp 67) (.sreg r_f49_21 [true, false, false])
  .skip))))))))))))))))))
  (.seq (.seq (.sreg r_f49_22 [true, false])
  (.cond (.tmp 72) (.seq (.sreg r_f49_23 [])
  .ret)
  .skip))
  (.seq (.sreg r_f49_24 [true, true, false])
  .ret)))))), [(.tmp 4), (.tmp 5)]⟩
def o_f49 : Nat → Nat → Nat := fun _ _ => 1
theorem c_f49_eq : lowF Tryz.prog o_f49 49 = some c_f49.raw := by kernel_rfl
theorem c_f49_ok : c_f49.code.okc = true := by kernel_rfl
/-! castellan/truth.one -/
def r_f153_0 : List SOp :=
   [.op ⟨(some 2), (.mv (.av (.int .i64 0))), none⟩]
def r_f153_1 : List SOp :=
   [.op ⟨(some 3), (.mv (.tmp 0)), none⟩]
def r_f153_2 : List SOp :=
   [.op ⟨(some 2), (.mv (.av (.int .i64 1))), none⟩]
def r_f153_3 : List SOp :=
   [.op ⟨(some 2), (.mv (.av (.int .i64 0))), none⟩]
def c_f153 : LFun := ⟨4, (.seq (.sreg r_f153_0 [])
  (.seq (.seq (.sreg r_f153_1 [])
  (.cond (.tmp 3) (.seq (.sreg r_f153_2 [])
  .ret)
  .skip))
  (.seq (.sreg r_f153_3 [])
  .ret))), [(.tmp 2)]⟩
def o_f153 : Nat → Nat → Nat := fun _ _ => 1
theorem c_f153_eq : lowF Tryz.prog o_f153 153 = some c_f153.raw := by kernel_rfl
theorem c_f153_ok : c_f153.code.okc = true := by kernel_rfl
/-! castellan/entry.Has -/
def r_f154_0 : List SOp :=
   [.op ⟨(some 4), (.box (.tmp 0)), none⟩,
    .op ⟨(some 8), (.mv (.av (.bool false))), none⟩]
def r_f154_1 : List SOp :=
   [.op ⟨(some 17), (.load true 2 (.tmp 4)), none⟩,
    .op ⟨(some 18), (.mv (.tmp 2)), none⟩,
    .op ⟨(some 19), (.call 81 [(.tmp 17), (.tmp 18)]), none⟩,
    .op ⟨(some 16), (.mv (.tmp 19)), none⟩,
    .op ⟨(some 20), (.extract (.tmp 16) 0), none⟩,
    .op ⟨(some 21), (.extract (.tmp 16) 1), none⟩,
    .op ⟨(some 9), (.alloc [(.str []), (.int .i64 0), (.bool false), (.bool false)]), none⟩,
    .op ⟨none, (.store 4 (.tmp 9) (.tmp 20)), none⟩,
    .op ⟨(some 10), (.mv (.tmp 21)), none⟩]
def r_f154_2 : List SOp :=
   [.op ⟨(some 23), (.mv (.tmp 1)), none⟩,
    .op ⟨(some 24), (.mv (.tmp 2)), none⟩,
    .op ⟨(some 25), (.call 80 [(.tmp 23), (.tmp 24)]), none⟩,
    .op ⟨(some 22), (.mv (.tmp 25)), none⟩,
    .op ⟨(some 26), (.extract (.tmp 22) 0), none⟩,
    .op ⟨(some 27), (.extract (.tmp 22) 1), none⟩,
    .op ⟨(some 11), (.mv (.tmp 26)), none⟩,
    .op ⟨(some 12), (.mv (.tmp 27)), none⟩]
def r_f154_3 : List SOp :=
   [.op ⟨(some 28), (.mv (.tmp 10)), none⟩,
    .op ⟨(some 29), (.un .not (.tmp 28)), none⟩,
    .op ⟨(some 30), (.mv (.tmp 29)), none⟩,
    .grp none 30 false
      [.op ⟨(some 31), (.mv (.tmp 12)), (some (30, false))⟩,
      .op ⟨(some 32), (.un .not (.tmp 31)), (some (30, false))⟩]
      33 (.tmp 32)]
def r_f154_4 : List SOp :=
   [.op ⟨(some 8), (.mv (.av (.bool false))), none⟩]
def r_f154_5 : List SOp :=
   [.op ⟨(some 35), (.load true 4 (.tmp 9)), none⟩,
    .op ⟨(some 36), (.mv (.tmp 1)), none⟩,
    .op ⟨(some 37), (.mv (.tmp 11)), none⟩,
    .op ⟨(some 38), (.iaddr 2 (.tmp 36) (.tmp 37)), none⟩,
    .op ⟨(some 39), (.faddr 1 (.tmp 38)), none⟩,
    .op ⟨(some 40), (.load false 1 (.tmp 39)), none⟩,
    .op ⟨(some 41), (.mv (.tmp 3)), none⟩,
    .op ⟨(some 42), (.call 212 [(.tmp 35), (.tmp 40), (.tmp 41)]), none⟩,
    .op ⟨(some 34), (.mv (.tmp 42)), none⟩,
    .op ⟨(some 43), (.extract (.tmp 34) 0), none⟩,
    .op ⟨(some 44), (.extract (.tmp 34) 1), none⟩,
    .op ⟨(some 45), (.extract (.tmp 34) 2), none⟩,
    .op ⟨(some 13), (.mv (.tmp 43)), none⟩,
    .op ⟨(some 14), (.mv (.tmp 44)), none⟩,
    .op ⟨(some 15), (.mv (.tmp 45)), none⟩]
def r_f154_6 : List SOp :=
   [.op ⟨(some 46), (.mv (.tmp 14)), none⟩,
    .op ⟨(some 8), (.mv (.tmp 46)), none⟩]
def c_f154 : LFun := ⟨47, (.seq (.sreg r_f154_0 [])
  (.seq (.sreg r_f154_1 [true, true, false, false, false, false, false, false])
  (.seq (.sreg r_f154_2 [true, true, false, false, false, false, false, false])
  (.seq (.seq (.sreg r_f154_3 [true, false, false, false])
  (.cond (.tmp 33) (.seq (.sreg r_f154_4 [])
  .ret)
  .skip))
  (.seq (.sdreg r_f154_5 [(.read 0 0), .pure, .pure, (.read 0 0), .pure, (.read 0 0), .pure, .eff, .pure, .pure, .pure, .pure, .pure, .pure] [false, true, false, false, false, false, false, false, false, false, false, false, false, false, false])
  (.seq (.sreg r_f154_6 [true, false])
  .ret)))))), [(.tmp 8)]⟩
def o_f154 : Nat → Nat → Nat := fun r i => if r = 5 ∧ i = 7 then 3 else 1
theorem c_f154_eq : lowF Tryz.prog o_f154 154 = some c_f154.raw := by kernel_rfl
theorem c_f154_ok : c_f154.code.okc = true := by kernel_rfl
/-! castellan/filt.Check -/
def r_f155_0 : List SOp :=
   [.op ⟨(some 1), (.box (.tmp 0)), none⟩,
    .op ⟨(some 2), (.mv (.av (.int .i64 0))), none⟩]
def r_f155_1 : List SOp :=
   [.op ⟨(some 3), (.alloc [(.int .i64 0)]), none⟩,
    .op ⟨(some 4), (.load true 5 (.tmp 1)), none⟩,
    .op ⟨(some 5), (.call 213 [(.tmp 3), (.tmp 4), (.av (.int .i64 1))]), none⟩,
    .op ⟨(some 2), (.mv (.tmp 5)), none⟩]
def c_f155 : LFun := ⟨6, (.seq (.sreg r_f155_0 [])
  (.seq (.sreg r_f155_1 [true, false, false, false])
  .ret)), [(.tmp 2)]⟩
def o_f155 : Nat → Nat → Nat := fun _ _ => 1
theorem c_f155_eq : lowF Tryz.prog o_f155 155 = some c_f155.raw := by kernel_rfl
theorem c_f155_ok : c_f155.code.okc = true := by kernel_rfl
/-! castellan/truth.Of$1 -/
def r_f157_0 : List SOp :=
   [.op ⟨(some 4), (.mv (.av (.bool false))), none⟩]
def r_f157_1 : List SOp :=
   [.op ⟨(some 8), (.faddr 1 (.tmp 1)), none⟩,
    .op ⟨(some 9), (.load false 1 (.tmp 8)), none⟩,
    .op ⟨(some 10), (.mv (.tmp 0)), none⟩,
    .op ⟨(some 11), (.faddr 3 (.tmp 2)), none⟩,
    .op ⟨(some 12), (.load false 1 (.tmp 11)), none⟩,
    .op ⟨(some 13), (.call 158 [(.tmp 9), (.tmp 10), (.tmp 12)]), none⟩,
    .op ⟨(some 7), (.mv (.tmp 13)), none⟩,
    .op ⟨(some 14), (.extract (.tmp 7) 0), none⟩,
    .op ⟨(some 15), (.extract (.tmp 7) 1), none⟩,
    .op ⟨(some 5), (.mv (.tmp 14)), none⟩,
    .op ⟨(some 6), (.mv (.tmp 15)), none⟩]
def r_f157_2 : List SOp :=
   [.op ⟨(some 16), (.mv (.tmp 5)), none⟩,
    .op ⟨(some 4), (.mv (.tmp 16)), none⟩]
def c_f157 : LFun := ⟨17, (.seq (.sreg r_f157_0 [])
  (.seq (.sreg r_f157_1 [false, true, false, false, false, false, false, false, false, false, false])
  (.seq (.sreg r_f157_2 [true, false])
  .ret))), [(.tmp 4)]⟩
def o_f157 : Nat → Nat → Nat := fun _ _ => 1
theorem c_f157_eq : lowF Tryz.prog o_f157 157 = some c_f157.raw := by kernel_rfl
theorem c_f157_ok : c_f157.code.okc = true := by kernel_rfl
/-! slices.ContainsFunc[[]string,string] -/
def r_f156_0 : List SOp :=
   [.op ⟨(some 4), (.mv (.av (.bool false))), none⟩]
def r_f156_1 : List SOp :=
   [.op ⟨(some 5), (.mv (.tmp 0)), none⟩,
    .op ⟨(some 6), (.mv (.tmp 1)), none⟩,
    .op ⟨(some 7), (.call 214 [(.tmp 5), (.tmp 6)]), none⟩,
    .op ⟨(some 8), (.bin .geq (.tmp 7) (.av (.int .i64 0))), none⟩,
    .op ⟨(some 4), (.mv (.tmp 8)), none⟩]
def c_f156 : LFun := ⟨9, (.seq (.sreg r_f156_0 [])
  (.seq (.sreg r_f156_1 [true, false, false, false, false])
  .ret)), [(.tmp 4)]⟩
def o_f156 : Nat → Nat → Nat := fun _ _ => 1
theorem c_f156_eq : lowF Tryz.prog o_f156 156 = some c_f156.raw := by kernel_rfl
theorem c_f156_ok : c_f156.code.okc = true := by kernel_rfl
/-! castellan/syntax.Order -/
def r_f159_0 : List SOp :=
   [.op ⟨(some 6), (.mv (.av (.int .i64 0))), none⟩,
    .op ⟨(some 7), (.mv (.av (.bool false))), none⟩]
def r_f159_1 : List SOp :=
   [.op ⟨(some 17), (.mv (.tmp 0)), none⟩,
    .op ⟨(some 18), (.mv (.tmp 1)), none⟩,
    .op ⟨(some 19), (.call 49 [(.tmp 17), (.tmp 18)]), none⟩,
    .op ⟨(some 16), (.mv (.tmp 19)), none⟩,
    .op ⟨(some 20), (.extract (.tmp 16) 0), none⟩,
    .op ⟨(some 21), (.extract (.tmp 16) 1), none⟩,
    .op ⟨(some 8), (.mv (.tmp 20)), none⟩,
    .op ⟨(some 9), (.mv (.tmp 21)), none⟩]
def r_f159_2 : List SOp :=
   [.op ⟨(some 23), (.mv (.tmp 0)), none⟩,
    .op ⟨(some 24), (.mv (.tmp 2)), none⟩,
    .op ⟨(some 25), (.call 49 [(.tmp 23), (.tmp 24)]), none⟩,
    .op ⟨(some 22), (.mv (.tmp 25)), none⟩,
    .op ⟨(some 26), (.extract (.tmp 22) 0), none⟩,
    .op ⟨(some 27), (.extract (.tmp 22) 1), none⟩,
    .op ⟨(some 10), (.mv (.tmp 26)), none⟩,
    .op ⟨(some 11), (.mv (.tmp 27)), none⟩]
def r_f159_3 : List SOp :=
   [.op ⟨(some 28), (.mv (.tmp 9)), none⟩,
    .op ⟨(some 29), (.un .not (.tmp 28)), none⟩,
    .op ⟨(some 30), (.mv (.tmp 29)), none⟩,
    .grp none 30 false
      [.op ⟨(some 31), (.mv (.tmp 11)), (some (30, false))⟩,
      .op ⟨(some 32), (.un .not (.tmp 31)), (some (30, false))⟩]
      33 (.tmp 32),
    .op ⟨(some 34), (.mv (.tmp 33)), none⟩,
    .grp none 34 false
      [.op ⟨(some 35), (.mv (.tmp 0)), (some (34, false))⟩,
      .op ⟨(some 36), (.bin .eql (.tmp 35) (.av (.int .i64 5))), (some (34, false))⟩]
      37 (.tmp 36),
    .op ⟨(some 38), (.mv (.tmp 37)), none⟩,
    .grp none 38 false
      [.op ⟨(some 39), (.mv (.tmp 0)), (some (38, false))⟩,
      .op ⟨(some 40), (.bin .eql (.tmp 39) (.av (.int .i64 6))), (some (38, false))⟩]
      41 (.tmp 40),
    .op ⟨(some 42), (.mv (.tmp 41)), none⟩,
    .grp none 42 false
      [.op ⟨(some 43), (.mv (.tmp 0)), (some (42, false))⟩,
      .op ⟨(some 44), (.bin .eql (.tmp 43) (.av (.int .i64 7))), (some (42, false))⟩]
      45 (.tmp 44)]
def r_f159_4 : List SOp :=
   [.op ⟨(some 6), (.mv (.av (.int .i64 0))), none⟩,
    .op ⟨(some 7), (.mv (.av (.bool false))), none⟩]
def r_f159_5 : List SOp :=
   [.op ⟨(some 46), (.mv (.tmp 0)), none⟩,
    .op ⟨(some 47), (.bin .eql (.tmp 46) (.av (.int .i64 4))), none⟩]
def r_f159_6 : List SOp :=
   [.op ⟨(some 49), (.mv (.tmp 8)), none⟩,
    .op ⟨(some 50), (.call 91 [(.tmp 49)]), none⟩,
    .op ⟨(some 48), (.mv (.tmp 50)), none⟩,
    .op ⟨(some 51), (.extract (.tmp 48) 0), none⟩,
    .op ⟨(some 52), (.extract (.tmp 48) 1), none⟩,
    .op ⟨(some 12), (.mv (.tmp 51)), none⟩,
    .op ⟨(some 13), (.mv (.tmp 52)), none⟩]
def r_f159_7 : List SOp :=
   [.op ⟨(some 54), (.mv (.tmp 10)), none⟩,
    .op ⟨(some 55), (.call 91 [(.tmp 54)]), none⟩,
    .op ⟨(some 53), (.mv (.tmp 55)), none⟩,
    .op ⟨(some 56), (.extract (.tmp 53) 0), none⟩,
    .op ⟨(some 57), (.extract (.tmp 53) 1), none⟩,
    .op ⟨(some 14), (.mv (.tmp 56)), none⟩,
    .op ⟨(some 15), (.mv (.tmp 57)), none⟩]
def r_f159_8 : List SOp :=
   [.op ⟨(some 58), (.mv (.tmp 12)), none⟩,
    .op ⟨(some 59), (.mv (.tmp 14)), none⟩,
    .op ⟨(some 60), (.call 218 [(.tmp 58), (.tmp 59)]), none⟩,
    .op ⟨(some 6), (.mv (.tmp 60)), none⟩,
    .op ⟨(some 7), (.mv (.av (.bool true))), none⟩]
def r_f159_9 : List SOp :=
   [.op ⟨(some 61), (.mv (.tmp 8)), none⟩,
    .op ⟨(some 62), (.mv (.tmp 10)), none⟩,
    .op ⟨(some 63), (.call 141 [(.tmp 61), (.tmp 62)]), none⟩,
    .op ⟨(some 6), (.mv (.tmp 63)), none⟩,
    .op ⟨(some 7), (.mv (.av (.bool true))), none⟩]
def c_f159 : LFun := ⟨64, (.seq (.sreg r_f159_0 [])
  (.seq (.sreg r_f159_1 [true, true, false, false, false, false, false, false])
  (.seq (.sreg r_f159_2 [true, true, false, false, false, false, false, false])
  (.seq (.seq (.sreg r_f159_3 [true, false, false, false, false, false, false, false, false, false])
  (.cond (.tmp 45) (.seq (.sreg r_f159_4 [])
  .ret)
  .skip))
  (.seq (.seq (.sreg r_f159_5 [true, false])
  (.cond (.tmp 47) (.seq (.sreg r_f159_6 [false, true, false, false, false, false, false])
  (.seq (.sreg r_f159_7 [false, true, false, false, false, false, false])
  (.seq (.sreg r_f159_8 [true, true, false, false, false])
  .ret)))
  .skip))
  (.seq (.sreg r_f159_9 [true, true, false, false, false])
  .ret)))))), [(.tmp 6), (.tmp 7)]⟩
def o_f159 : Nat → Nat → Nat := fun _ _ => 1
theorem c_f159_eq : lowF Tryz.prog o_f159 159 = some c_f159.raw := by kernel_rfl
theorem c_f159_ok : c_f159.code.okc = true := by kernel_rfl
/-! castellan/truth.Of$2 -/
def r_f160_0 : List SOp :=
   [.op ⟨(some 4), (.mv (.av (.bool false))), none⟩]
def r_f160_1 : List SOp :=
   [.op ⟨(some 8), (.faddr 1 (.tmp 1)), none⟩,
    .op ⟨(some 9), (.load false 1 (.tmp 8)), none⟩,
    .op ⟨(some 10), (.mv (.tmp 0)), none⟩,
    .op ⟨(some 11), (.faddr 2 (.tmp 2)), none⟩,
    .op ⟨(some 12), (.load false 1 (.tmp 11)), none⟩,
    .op ⟨(some 13), (.call 159 [(.tmp 9), (.tmp 10), (.tmp 12)]), none⟩,
    .op ⟨(some 7), (.mv (.tmp 13)), none⟩,
    .op ⟨(some 14), (.extract (.tmp 7) 0), none⟩,
    .op ⟨(some 15), (.extract (.tmp 7) 1), none⟩,
    .op ⟨(some 5), (.mv (.tmp 14)), none⟩,
    .op ⟨(some 6), (.mv (.tmp 15)), none⟩]
def r_f160_2 : List SOp :=
   [.op ⟨(some 16), (.mv (.tmp 5)), none⟩,
    .op ⟨(some 17), (.bin .eql (.tmp 16) (.av (.int .i64 0))), none⟩,
    .op ⟨(some 18), (.mv (.tmp 17)), none⟩,
    .grp none 18 false
      [.op ⟨(some 19), (.mv (.tmp 5)), (some (18, false))⟩,
      .op ⟨(some 20), (.bin .gtr (.tmp 19) (.av (.int .i64 0))), (some (18, false))⟩,
      .op ⟨(some 21), (.faddr 0 (.tmp 2)), (some (18, false))⟩,
      .op ⟨(some 22), (.load false 1 (.tmp 21)), (some (18, false))⟩,
      .op ⟨(some 23), (.bin .eql (.tmp 22) (.av (.int .i64 5))), (some (18, false))⟩,
      .op ⟨(some 24), (.eqk false .bool (.tmp 20) (.tmp 23)), (some (18, false))⟩]
      25 (.tmp 24),
    .op ⟨(some 4), (.mv (.tmp 25)), none⟩]
def c_f160 : LFun := ⟨26, (.seq (.sreg r_f160_0 [])
  (.seq (.sreg r_f160_1 [false, true, false, false, false, false, false, false, false, false, false])
  (.seq (.sreg r_f160_2 [true, false, false, false, false])
  .ret))), [(.tmp 4)]⟩
def o_f160 : Nat → Nat → Nat := fun _ _ => 1
theorem c_f160_eq : lowF Tryz.prog o_f160 160 = some c_f160.raw := by kernel_rfl
theorem c_f160_ok : c_f160.code.okc = true := by kernel_rfl
/-! (*castellan/castellanref10.Reader).is -/
def r_f161_0 : List SOp :=
   [.op ⟨(some 4), (.mv (.av (.bool false))), none⟩]
def r_f161_1 : List SOp :=
   [.op ⟨(some 5), (.mv (.tmp 0)), none⟩,
    .op ⟨(some 6), (.nilchk (.tmp 5)), none⟩,
    .op ⟨(some 7), (.faddr 1 (.tmp 6)), none⟩,
    .op ⟨(some 8), (.load false 1 (.tmp 7)), none⟩,
    .op ⟨(some 9), (.mv (.tmp 0)), none⟩,
    .op ⟨(some 10), (.nilchk (.tmp 9)), none⟩,
    .op ⟨(some 11), (.faddr 0 (.tmp 10)), none⟩,
    .op ⟨(some 12), (.load false 1 (.tmp 11)), none⟩,
    .op ⟨(some 13), (.len true (.tmp 12)), none⟩,
    .op ⟨(some 14), (.bin .lss (.tmp 8) (.tmp 13)), none⟩,
    .op ⟨(some 15), (.mv (.tmp 14)), none⟩,
    .grp none 15 true
      [.op ⟨(some 16), (.mv (.tmp 0)), (some (15, true))⟩,
      .op ⟨(some 17), (.nilchk (.tmp 16)), (some (15, true))⟩,
      .op ⟨(some 18), (.faddr 0 (.tmp 17)), (some (15, true))⟩,
      .op ⟨(some 19), (.load false 1 (.tmp 18)), (some (15, true))⟩,
      .op ⟨(some 20), (.mv (.tmp 0)), (some (15, true))⟩,
      .op ⟨(some 21), (.nilchk (.tmp 20)), (some (15, true))⟩,
      .op ⟨(some 22), (.faddr 1 (.tmp 21)), (some (15, true))⟩,
      .op ⟨(some 23), (.load false 1 (.tmp 22)), (some (15, true))⟩,
      .op ⟨(some 24), (.idxS (.tmp 19) (.tmp 23)), (some (15, true))⟩,
      .op ⟨(some 25), (.mv (.tmp 1)), (some (15, true))⟩,
      .op ⟨(some 26), (.bin .eql (.tmp 24) (.tmp 25)), (some (15, true))⟩]
      27 (.tmp 26)]
def r_f161_2 : List SOp :=
   [.op ⟨(some 28), (.mv (.tmp 0)), none⟩,
    .op ⟨(some 29), (.nilchk (.tmp 28)), none⟩,
    .op ⟨(some 30), (.faddr 1 (.tmp 29)), none⟩,
    .op ⟨(some 31), (.load false 1 (.tmp 30)), none⟩,
    .op ⟨(some 32), (.bin .add (.tmp 31) (.av (.int .i64 1))), none⟩,
    .op ⟨(some 33), (.nilchk (.tmp 28)), none⟩,
    .op ⟨(some 34), (.faddr 1 (.tmp 33)), none⟩,
    .op ⟨none, (.store 1 (.tmp 34) (.tmp 32)), none⟩]
def r_f161_3 : List SOp :=
   [.op ⟨(some 4), (.mv (.av (.bool true))), none⟩]
def r_f161_4 : List SOp :=
   [.op ⟨(some 4), (.mv (.av (.bool false))), none⟩]
def c_f161 : LFun := ⟨35, (.seq (.sreg r_f161_0 [])
  (.seq (.seq (.sdreg r_f161_1 [.pure, (.read 0 0), .pure, (.read 0 0), .pure, (.read 0 0), .pure, (.read 0 0), (.read 0 0), .pure, .pure, .pure, (.read 0 0), .pure, (.read 0 0), .pure, (.read 0 0), .pure, (.read 0 0), (.read 0 0), .pure] [true, false, false, false, false, false, false, false, false, false, false, false])
  (.cond (.tmp 27) (.seq (.sreg r_f161_2 [false, false, false, false, false, false, false])
  (.seq (.sreg r_f161_3 [])
  .ret))
  .skip))
  (.seq (.sreg r_f161_4 [])
  .ret))), [(.tmp 4)]⟩
def o_f161 : Nat → Nat → Nat := fun _ _ => 1
theorem c_f161_eq : lowF Tryz.prog o_f161 161 = some c_f161.raw := by kernel_rfl
theorem c_f161_ok : c_f161.code.okc = true := by kernel_rfl
/-! (*castellan/castellanref10.Reader).bad -/
def r_f162_0 : List SOp :=
   [.op ⟨(some 4), (.alloc [(.int .i64 0), (.str []), (.str []), (.sl [] 0 (some 0)), (.sl [] 0 (some 0))]), none⟩]
def r_f162_1 : List SOp :=
   [.op ⟨(some 5), (.mv (.tmp 0)), none⟩,
    .op ⟨(some 6), (.nilchk (.tmp 5)), none⟩,
    .op ⟨(some 7), (.faddr 3 (.tmp 6)), none⟩,
    .op ⟨(some 8), (.load false 1 (.tmp 7)), none⟩,
    .op ⟨(some 9), (.bin .eql (.tmp 8) (.av (.int .i64 0))), none⟩]
def r_f162_2 : List SOp :=
   [.op ⟨(some 10), (.mv (.tmp 0)), none⟩,
    .op ⟨(some 11), (.mv (.tmp 1)), none⟩,
    .op ⟨(some 12), (.nilchk (.tmp 10)), none⟩,
    .op ⟨(some 13), (.faddr 3 (.tmp 12)), none⟩,
    .op ⟨none, (.store 1 (.tmp 13) (.tmp 11)), none⟩]
def r_f162_3 : List SOp :=
   [.op ⟨(some 14), (.build [(.int .i64 0), (.str []), (.str []), (.sl [] 0 (some 0)), (.sl [] 0 (some 0))] []), none⟩,
    .op ⟨none, (.store 5 (.tmp 4) (.tmp 14)), none⟩]
def c_f162 : LFun := ⟨15, (.seq (.sreg r_f162_0 [])
  (.seq (.seq (.sreg r_f162_1 [true, false, false, false, false])
  (.cond (.tmp 9) (.sreg r_f162_2 [false, false, false, false])
  .skip))
  (.seq (.sreg r_f162_3 [false])
  .ret))), [(.cell true 5 4)]⟩
def o_f162 : Nat → Nat → Nat := fun _ _ => 1
theorem c_f162_eq : lowF Tryz.prog o_f162 162 = some c_f162.raw := by kernel_rfl
theorem c_f162_ok : c_f162.code.okc = true := by kernel_rfl
/-! (*castellan/castellanref10.Reader).item -/
def r_f163_0 : List SOp :=
   [.op ⟨(some 2), (.alloc [(.int .i64 0), (.str []), (.str []), (.sl [] 0 (some 0)), (.sl [] 0 (some 0))]), none⟩]
def r_f163_1 : List SOp :=
   [.op ⟨(some 14), (.mv (.tmp 0)), none⟩,
    .op ⟨(some 15), (.nilchk (.tmp 14)), none⟩,
    .op ⟨(some 16), (.faddr 1 (.tmp 15)), none⟩,
    .op ⟨(some 17), (.load false 1 (.tmp 16)), none⟩,
    .op ⟨(some 3), (.mv (.tmp 17)), none⟩]
def r_f163_2 : List (LOper × Kd) :=
   [(⟨(some 18), (.mv (.tmp 0)), none⟩, .pure),
    (⟨(some 19), (.nilchk (.tmp 18)), none⟩, (.read 0 0)),
    (⟨(some 20), (.faddr 1 (.tmp 19)), none⟩, .pure),
    (⟨(some 21), (.load false 1 (.tmp 20)), none⟩, (.read 0 0)),
    (⟨(some 22), (.mv (.tmp 0)), none⟩, .pure),
    (⟨(some 23), (.nilchk (.tmp 22)), none⟩, (.read 0 0)),
    (⟨(some 24), (.faddr 0 (.tmp 23)), none⟩, .pure),
    (⟨(some 25), (.load false 1 (.tmp 24)), none⟩, (.read 0 0)),
    (⟨(some 26), (.len true (.tmp 25)), none⟩, (.read 0 0)),
    (⟨(some 27), (.bin .lss (.tmp 21) (.tmp 26)), none⟩, .pure),
    (⟨(some 28), (.mv (.tmp 27)), none⟩, .pure),
    (⟨(some 29), (.mv (.tmp 0)), (some (28, true))⟩, .pure),
    (⟨(some 30), (.nilchk (.tmp 29)), (some (28, true))⟩, (.read 0 0)),
    (⟨(some 31), (.faddr 0 (.tmp 30)), (some (28, true))⟩, .pure),
    (⟨(some 32), (.load false 1 (.tmp 31)), (some (28, true))⟩, (.read 0 0)),
    (⟨(some 33), (.mv (.tmp 3)), (some (28, true))⟩, .pure),
    (⟨(some 34), (.mv (.tmp 0)), (some (28, true))⟩, .pure),
    (⟨(some 35), (.nilchk (.tmp 34)), (some (28, true))⟩, (.read 0 0)),
    (⟨(some 36), (.faddr 1 (.tmp 35)), (some (28, true))⟩, .pure),
    (⟨(some 37), (.load false 1 (.tmp 36)), (some (28, true))⟩, (.read 0 0)),
    (⟨(some 38), (.bin .add (.tmp 37) (.av (.int .i64 1))), (some (28, true))⟩, .pure)]
def r_f163_2t : List LOper :=
   [⟨(some 39), (.slS (.tmp 32) (some (.tmp 33)) (some (.tmp 38))), (some (28, true))⟩,
    ⟨(some 40), (.call 219 [(.tmp 39)]), (some (28, true))⟩,
    ⟨(some 41), (.pick (.tmp 28) (.tmp 40) (.av (.bool false))), none⟩]
def r_f163_3 : List SOp :=
   [.op ⟨(some 42), (.mv (.tmp 0)), none⟩,
    .op ⟨(some 43), (.nilchk (.tmp 42)), none⟩,
    .op ⟨(some 44), (.faddr 1 (.tmp 43)), none⟩,
    .op ⟨(some 45), (.load false 1 (.tmp 44)), none⟩,
    .op ⟨(some 46), (.bin .add (.tmp 45) (.av (.int .i64 1))), none⟩,
    .op ⟨(some 47), (.nilchk (.tmp 42)), none⟩,
    .op ⟨(some 48), (.faddr 1 (.tmp 47)), none⟩,
    .op ⟨none, (.store 1 (.tmp 48) (.tmp 46)), none⟩]
def r_f163_4 : List (LOper × Kd) :=
   [(⟨(some 49), (.mv (.tmp 0)), none⟩, .pure),
    (⟨(some 50), (.nilchk (.tmp 49)), none⟩, (.read 0 1)),
    (⟨(some 51), (.faddr 0 (.tmp 50)), none⟩, .pure),
    (⟨(some 52), (.load false 1 (.tmp 51)), none⟩, (.read 0 1)),
    (⟨(some 53), (.mv (.tmp 3)), none⟩, .pure),
    (⟨(some 54), (.mv (.tmp 0)), none⟩, .pure),
    (⟨(some 55), (.nilchk (.tmp 54)), none⟩, (.read 0 1)),
    (⟨(some 56), (.faddr 1 (.tmp 55)), none⟩, .pure),
    (⟨(some 57), (.load false 1 (.tmp 56)), none⟩, (.read 0 1)),
    (⟨(some 58), (.slS (.tmp 52) (some (.tmp 53)) (some (.tmp 57))), none⟩, (.read 0 1)),
    (⟨(some 59), (.build [(.int .i64 0), (.str []), (.str []), (.sl [] 0 (some 0)), (.sl [] 0 (some 0))] [(1, 1, (.tmp 58))]), none⟩, .pure),
    (⟨(some 4), (.alloc [(.int .i64 0), (.str []), (.str []), (.sl [] 0 (some 0)), (.sl [] 0 (some 0))]), none⟩, .eff)]
def r_f163_4t : List LOper :=
   [⟨none, (.store 5 (.tmp 4) (.tmp 59)), none⟩]
def r_f163_5 : List SOp :=
   [.op ⟨(some 60), (.faddr 1 (.tmp 4)), none⟩,
    .op ⟨(some 61), (.load false 1 (.tmp 60)), none⟩,
    .op ⟨(some 62), (.bin .eql (.tmp 61) (.av (.str []))), none⟩]
def r_f163_6 : List SOp :=
   [.op ⟨(some 63), (.mv (.tmp 0)), none⟩,
    .op ⟨(some 64), (.call 162 [(.tmp 63), (.av (.int .i64 4))]), none⟩,
    .op ⟨none, (.store 5 (.tmp 2) (.tmp 64)), none⟩]
def r_f163_7 : List SOp :=
   [.op ⟨(some 65), (.faddr 0 (.tmp 4)), none⟩,
    .op ⟨none, (.store 1 (.tmp 65) (.av (.int .i64 3))), none⟩]
def r_f163_8 : List SOp :=
   [.op ⟨(some 66), (.mv (.tmp 0)), none⟩,
    .op ⟨(some 67), (.call 161 [(.tmp 66), (.av (.int .u8 62))]), none⟩]
def r_f163_9 : List SOp :=
   [.op ⟨(some 68), (.faddr 0 (.tmp 4)), none⟩,
    .op ⟨none, (.store 1 (.tmp 68) (.av (.int .i64 5))), none⟩]
def r_f163_10 : List SOp :=
   [.op ⟨(some 69), (.mv (.tmp 0)), none⟩,
    .op ⟨(some 70), (.call 161 [(.tmp 69), (.av (.int .u8 60))]), none⟩]
def r_f163_11 : List SOp :=
   [.op ⟨(some 71), (.faddr 0 (.tmp 4)), none⟩,
    .op ⟨none, (.store 1 (.tmp 71) (.av (.int .i64 6))), none⟩]
def r_f163_12 : List SOp :=
   [.op ⟨(some 72), (.mv (.tmp 0)), none⟩,
    .op ⟨(some 73), (.call 161 [(.tmp 72), (.av (.int .u8 126))]), none⟩]
def r_f163_13 : List SOp :=
   [.op ⟨(some 74), (.faddr 0 (.tmp 4)), none⟩,
    .op ⟨none, (.store 1 (.tmp 74) (.av (.int .i64 8))), none⟩]
def r_f163_14 : List SOp :=
   [.op ⟨(some 75), (.mv (.tmp 0)), none⟩,
    .op ⟨(some 76), (.call 161 [(.tmp 75), (.av (.int .u8 61))]), none⟩,
    .op ⟨(some 77), (.un .not (.tmp 76)), none⟩]
def r_f163_15 : List SOp :=
   [.op ⟨(some 78), (.mv (.tmp 0)), none⟩,
    .op ⟨(some 79), (.call 162 [(.tmp 78), (.av (.int .i64 4))]), none⟩,
    .op ⟨none, (.store 5 (.tmp 2) (.tmp 79)), none⟩]
def r_f163_16 : List SOp :=
   [.op ⟨(some 5), (.mv (.av (.int .i64 0))), none⟩]
def r_f163_17 : List SOp :=
   [.op ⟨(some 6), (.mv (.av (.sl [] 0 (some 0)))), none⟩]
def r_f163_18 : List SOp :=
   [.op ⟨(some 7), (.mv (.av (.sl [] 0 (some 0)))), none⟩]
def r_f163_19 : List SOp :=
   [.op ⟨(some 80), (.mv (.tmp 0)), none⟩,
    .op ⟨(some 81), (.call 161 [(.tmp 80), (.av (.int .u8 41))]), none⟩,
    .op ⟨(some 82), (.un .not (.tmp 81)), none⟩]
def r_f163_20 : List SOp :=
   [.op ⟨(some 83), (.mv (.tmp 0)), none⟩,
    .op ⟨(some 84), (.nilchk (.tmp 83)), none⟩,
    .op ⟨(some 85), (.faddr 1 (.tmp 84)), none⟩,
    .op ⟨(some 86), (.load false 1 (.tmp 85)), none⟩,
    .op ⟨(some 87), (.mv (.tmp 0)), none⟩,
    .op ⟨(some 88), (.nilchk (.tmp 87)), none⟩,
    .op ⟨(some 89), (.faddr 0 (.tmp 88)), none⟩,
    .op ⟨(some 90), (.load false 1 (.tmp 89)), none⟩,
    .op ⟨(some 91), (.len true (.tmp 90)), none⟩,
    .op ⟨(some 92), (.bin .eql (.tmp 86) (.tmp 91)), none⟩]
def r_f163_21 : List SOp :=
   [.op ⟨(some 93), (.mv (.tmp 0)), none⟩,
    .op ⟨(some 94), (.call 162 [(.tmp 93), (.av (.int .i64 4))]), none⟩,
    .op ⟨none, (.store 5 (.tmp 2) (.tmp 94)), none⟩]
def r_f163_22 : List SOp :=
   [.op ⟨(some 95), (.mv (.tmp 0)), none⟩,
    .op ⟨(some 96), (.nilchk (.tmp 95)), none⟩,
    .op ⟨(some 97), (.faddr 0 (.tmp 96)), none⟩,
    .op ⟨(some 98), (.load false 1 (.tmp 97)), none⟩,
    .op ⟨(some 99), (.mv (.tmp 0)), none⟩,
    .op ⟨(some 100), (.nilchk (.tmp 99)), none⟩,
    .op ⟨(some 101), (.faddr 1 (.tmp 100)), none⟩,
    .op ⟨(some 102), (.load false 1 (.tmp 101)), none⟩,
    .op ⟨(some 103), (.idxS (.tmp 98) (.tmp 102)), none⟩,
    .op ⟨(some 8), (.mv (.tmp 103)), none⟩]
def r_f163_23 : List SOp :=
   [.op ⟨(some 104), (.mv (.tmp 0)), none⟩,
    .op ⟨(some 105), (.nilchk (.tmp 104)), none⟩,
    .op ⟨(some 106), (.faddr 1 (.tmp 105)), none⟩,
    .op ⟨(some 107), (.load false 1 (.tmp 106)), none⟩,
    .op ⟨(some 108), (.bin .add (.tmp 107) (.av (.int .i64 1))), none⟩,
    .op ⟨(some 109), (.nilchk (.tmp 104)), none⟩,
    .op ⟨(some 110), (.faddr 1 (.tmp 109)), none⟩,
    .op ⟨none, (.store 1 (.tmp 110) (.tmp 108)), none⟩]
def r_f163_24 : List SOp :=
   [.op ⟨(some 111), (.mv (.tmp 8)), none⟩,
    .op ⟨(some 112), (.bin .eql (.tmp 111) (.av (.int .u8 42))), none⟩]
def r_f163_25 : List SOp :=
   [.op ⟨(some 113), (.mv (.tmp 5)), none⟩,
    .op ⟨(some 114), (.bin .add (.tmp 113) (.av (.int .i64 1))), none⟩,
    .op ⟨(some 5), (.mv (.tmp 114)), none⟩]
def r_f163_26 : List SOp :=
   [.op ⟨(some 115), (.mv (.tmp 6)), none⟩,
    .op ⟨(some 116), (.mv (.tmp 7)), none⟩,
    .op ⟨(some 117), (.b2s (.tmp 116)), none⟩,
    .op ⟨(some 118), (.bslice false 1 1 [(.str [])] [(0, 1, (.tmp 117))]), none⟩,
    .op ⟨(some 119), (.app 1 1 16 [(.str [])] (.tmp 115) (.tmp 118)), none⟩,
    .op ⟨(some 6), (.mv (.tmp 119)), none⟩]
def r_f163_27 : List SOp :=
   [.op ⟨(some 7), (.mv (.av (.sl [] 0 (some 0)))), none⟩]
def r_f163_28 : List SOp :=
   [.op ⟨(some 120), (.mv (.tmp 8)), none⟩,
    .op ⟨(some 121), (.bin .eql (.tmp 120) (.av (.int .u8 92))), none⟩]
def r_f163_29 : List SOp :=
   [.op ⟨(some 122), (.mv (.tmp 0)), none⟩,
    .op ⟨(some 123), (.nilchk (.tmp 122)), none⟩,
    .op ⟨(some 124), (.faddr 1 (.tmp 123)), none⟩,
    .op ⟨(some 125), (.load false 1 (.tmp 124)), none⟩,
    .op ⟨(some 126), (.bin .add (.tmp 125) (.av (.int .i64 2))), none⟩,
    .op ⟨(some 127), (.mv (.tmp 0)), none⟩,
    .op ⟨(some 128), (.nilchk (.tmp 127)), none⟩,
    .op ⟨(some 129), (.faddr 0 (.tmp 128)), none⟩,
    .op ⟨(some 130), (.load false 1 (.tmp 129)), none⟩,
    .op ⟨(some 131), (.len true (.tmp 130)), none⟩,
    .op ⟨(some 132), (.bin .gtr (.tmp 126) (.tmp 131)), none⟩]
def r_f163_30 : List SOp :=
   [.op ⟨(some 133), (.mv (.tmp 0)), none⟩,
    .op ⟨(some 134), (.call 162 [(.tmp 133), (.av (.int .i64 4))]), none⟩,
    .op ⟨none, (.store 5 (.tmp 2) (.tmp 134)), none⟩]
def r_f163_31 : List SOp :=
   [.op ⟨(some 136), (.mv (.tmp 0)), none⟩,
    .op ⟨(some 137), (.nilchk (.tmp 136)), none⟩,
    .op ⟨(some 138), (.faddr 0 (.tmp 137)), none⟩,
    .op ⟨(some 139), (.load false 1 (.tmp 138)), none⟩,
    .op ⟨(some 140), (.mv (.tmp 0)), none⟩,
    .op ⟨(some 141), (.nilchk (.tmp 140)), none⟩,
    .op ⟨(some 142), (.faddr 1 (.tmp 141)), none⟩,
    .op ⟨(some 143), (.load false 1 (.tmp 142)), none⟩,
    .op ⟨(some 144), (.mv (.tmp 0)), none⟩,
    .op ⟨(some 145), (.nilchk (.tmp 144)), none⟩,
    .op ⟨(some 146), (.faddr 1 (.tmp 145)), none⟩,
    .op ⟨(some 147), (.load false 1 (.tmp 146)), none⟩,
    .op ⟨(some 148), (.bin .add (.tmp 147) (.av (.int .i64 2))), none⟩,
    .op ⟨(some 149), (.slS (.tmp 139) (some (.tmp 143)) (some (.tmp 148))), none⟩,
    .op ⟨(some 150), (.call 220 [(.tmp 149)]), none⟩,
    .op ⟨(some 135), (.mv (.tmp 150)), none⟩,
    .op ⟨(some 151), (.extract (.tmp 135) 0), none⟩,
    .op ⟨(some 152), (.extract (.tmp 135) 1), none⟩,
    .op ⟨(some 9), (.mv (.tmp 151)), none⟩,
    .op ⟨(some 10), (.mv (.tmp 152)), none⟩]
def r_f163_32 : List SOp :=
   [.op ⟨(some 153), (.mv (.tmp 10)), none⟩,
    .op ⟨(some 154), (.un .not (.tmp 153)), none⟩]
def r_f163_33 : List SOp :=
   [.op ⟨(some 155), (.mv (.tmp 0)), none⟩,
    .op ⟨(some 156), (.call 162 [(.tmp 155), (.av (.int .i64 4))]), none⟩,
    .op ⟨none, (.store 5 (.tmp 2) (.tmp 156)), none⟩]
def r_f163_34 : List SOp :=
   [.op ⟨(some 157), (.mv (.tmp 7)), none⟩,
    .op ⟨(some 158), (.mv (.tmp 9)), none⟩,
    .op ⟨(some 159), (.idxS (.tmp 158) (.av (.int .i64 0))), none⟩,
    .op ⟨(some 160), (.bslice false 1 1 [(.int .u8 0)] [(0, 1, (.tmp 159))]), none⟩,
    .op ⟨(some 161), (.app 1 1 1 [(.int .u8 0)] (.tmp 157) (.tmp 160)), none⟩,
    .op ⟨(some 7), (.mv (.tmp 161)), none⟩]
def r_f163_35 : List SOp :=
   [.op ⟨(some 162), (.mv (.tmp 0)), none⟩,
    .op ⟨(some 163), (.nilchk (.tmp 162)), none⟩,
    .op ⟨(some 164), (.faddr 1 (.tmp 163)), none⟩,
    .op ⟨(some 165), (.load false 1 (.tmp 164)), none⟩,
    .op ⟨(some 166), (.bin .add (.tmp 165) (.av (.int .i64 2))), none⟩,
    .op ⟨(some 167), (.nilchk (.tmp 162)), none⟩,
    .op ⟨(some 168), (.faddr 1 (.tmp 167)), none⟩,
    .op ⟨none, (.store 1 (.tmp 168) (.tmp 166)), none⟩]
def r_f163_36 : List SOp :=
   [.op ⟨(some 169), (.mv (.tmp 8)), none⟩,
    .op ⟨(some 170), (.bin .eql (.tmp 169) (.av (.int .u8 0))), none⟩,
    .op ⟨(some 171), (.mv (.tmp 170)), none⟩,
    .grp none 171 false
      [.op ⟨(some 172), (.mv (.tmp 8)), (some (171, false))⟩,
      .op ⟨(some 173), (.bin .eql (.tmp 172) (.av (.int .u8 40))), (some (171, false))⟩]
      174 (.tmp 173)]
def r_f163_37 : List SOp :=
   [.op ⟨(some 175), (.mv (.tmp 0)), none⟩,
    .op ⟨(some 176), (.call 162 [(.tmp 175), (.av (.int .i64 4))]), none⟩,
    .op ⟨none, (.store 5 (.tmp 2) (.tmp 176)), none⟩]
def r_f163_38 : List SOp :=
   [.op ⟨(some 177), (.mv (.tmp 7)), none⟩,
    .op ⟨(some 178), (.mv (.tmp 8)), none⟩,
    .op ⟨(some 179), (.bslice false 1 1 [(.int .u8 0)] [(0, 1, (.tmp 178))]), none⟩,
    .op ⟨(some 180), (.app 1 1 1 [(.int .u8 0)] (.tmp 177) (.tmp 179)), none⟩,
    .op ⟨(some 7), (.mv (.tmp 180)), none⟩]
def r_f163_39 : List SOp :=
   [.op ⟨(some 181), (.mv (.tmp 6)), none⟩,
    .op ⟨(some 182), (.mv (.tmp 7)), none⟩,
    .op ⟨(some 183), (.b2s (.tmp 182)), none⟩,
    .op ⟨(some 184), (.bslice false 1 1 [(.str [])] [(0, 1, (.tmp 183))]), none⟩,
    .op ⟨(some 185), (.app 1 1 16 [(.str [])] (.tmp 181) (.tmp 184)), none⟩,
    .op ⟨(some 6), (.mv (.tmp 185)), none⟩]
def r_f163_40 : List SOp :=
   [.op ⟨(some 186), (.mv (.tmp 5)), none⟩,
    .op ⟨(some 187), (.bin .eql (.tmp 186) (.av (.int .i64 0))), none⟩]
def r_f163_41 : List SOp :=
   [.op ⟨(some 188), (.mv (.tmp 6)), none⟩,
    .op ⟨(some 189), (.iaddr 1 (.tmp 188) (.av (.int .i64 0))), none⟩,
    .op ⟨(some 190), (.load false 1 (.tmp 189)), none⟩,
    .op ⟨(some 191), (.faddr 2 (.tmp 4)), none⟩,
    .op ⟨none, (.store 1 (.tmp 191) (.tmp 190)), none⟩]
def r_f163_42 : List SOp :=
   [.op ⟨(some 192), (.load true 5 (.tmp 4)), none⟩,
    .op ⟨none, (.store 5 (.tmp 2) (.tmp 192)), none⟩]
def r_f163_43 : List SOp :=
   [.op ⟨(some 193), (.faddr 0 (.tmp 4)), none⟩,
    .op ⟨(some 194), (.load false 1 (.tmp 193)), none⟩,
    .op ⟨(some 195), (.bin .neq (.tmp 194) (.av (.int .i64 3))), none⟩]
def r_f163_44 : List SOp :=
   [.op ⟨(some 196), (.mv (.tmp 0)), none⟩,
    .op ⟨(some 197), (.call 162 [(.tmp 196), (.av (.int .i64 4))]), none⟩,
    .op ⟨none, (.store 5 (.tmp 2) (.tmp 197)), none⟩]
def r_f163_45 : List SOp :=
   [.op ⟨(some 198), (.mv (.tmp 5)), none⟩,
    .op ⟨(some 199), (.bin .eql (.tmp 198) (.av (.int .i64 1))), none⟩,
    .op ⟨(some 200), (.mv (.tmp 199)), none⟩,
    .grp none 200 true
      [.op ⟨(some 201), (.mv (.tmp 6)), (some (200, true))⟩,
      .op ⟨(some 202), (.iaddr 1 (.tmp 201) (.av (.int .i64 0))), (some (200, true))⟩,
      .op ⟨(some 203), (.load false 1 (.tmp 202)), (some (200, true))⟩,
      .op ⟨(some 204), (.bin .eql (.tmp 203) (.av (.str []))), (some (200, true))⟩]
      205 (.tmp 204),
    .op ⟨(some 206), (.mv (.tmp 205)), none⟩,
    .grp none 206 true
      [.op ⟨(some 207), (.mv (.tmp 6)), (some (206, true))⟩,
      .op ⟨(some 208), (.iaddr 1 (.tmp 207) (.av (.int .i64 1))), (some (206, true))⟩,
      .op ⟨(some 209), (.load false 1 (.tmp 208)), (some (206, true))⟩,
      .op ⟨(some 210), (.bin .eql (.tmp 209) (.av (.str []))), (some (206, true))⟩]
      211 (.tmp 210)]
def r_f163_46 : List SOp :=
   [.op ⟨(some 212), (.faddr 0 (.tmp 4)), none⟩,
    .op ⟨none, (.store 1 (.tmp 212) (.av (.int .i64 7))), none⟩]
def r_f163_47 : List SOp :=
   [.op ⟨(some 213), (.load true 5 (.tmp 4)), none⟩,
    .op ⟨none, (.store 5 (.tmp 2) (.tmp 213)), none⟩]
def r_f163_48 : List SOp :=
   [.op ⟨(some 214), (.faddr 0 (.tmp 4)), none⟩,
    .op ⟨none, (.store 1 (.tmp 214) (.av (.int .i64 4))), none⟩]
def r_f163_49 : List SOp :=
   [.op ⟨(some 215), (.mv (.tmp 6)), none⟩,
    .op ⟨(some 216), (.len false (.tmp 215)), none⟩,
    .op ⟨(some 217), (.mv (.av (.int .i64 0))), none⟩]
def r_f163_50 : List SOp :=
   [.op ⟨(some 218), (.bin .lss (.tmp 217) (.tmp 216)), none⟩]
def r_f163_51 : List SOp :=
   [.op ⟨(some 219), (.mv (.tmp 217)), none⟩,
    .op ⟨(some 220), (.iaddr 1 (.tmp 215) (.tmp 217)), none⟩,
    .op ⟨(some 221), (.load false 1 (.tmp 220)), none⟩,
    .op ⟨(some 11), (.mv (.tmp 219)), none⟩,
    .op ⟨(some 12), (.mv (.tmp 221)), none⟩]
def r_f163_52 : List SOp :=
   [.op ⟨(some 222), (.mv (.tmp 11)), none⟩,
    .op ⟨(some 223), (.bin .gtr (.tmp 222) (.av (.int .i64 0))), none⟩,
    .op ⟨(some 224), (.mv (.tmp 223)), none⟩,
    .grp none 224 true
      [.op ⟨(some 225), (.mv (.tmp 11)), (some (224, true))⟩,
      .op ⟨(some 226), (.mv (.tmp 5)), (some (224, true))⟩,
      .op ⟨(some 227), (.bin .lss (.tmp 225) (.tmp 226)), (some (224, true))⟩]
      228 (.tmp 227),
    .op ⟨(some 229), (.mv (.tmp 228)), none⟩,
    .grp none 229 true
      [.op ⟨(some 230), (.mv (.tmp 12)), (some (229, true))⟩,
      .op ⟨(some 231), (.bin .eql (.tmp 230) (.av (.str []))), (some (229, true))⟩]
      232 (.tmp 231)]
def r_f163_53 : List SOp :=
   [.op ⟨(some 233), (.mv (.tmp 0)), none⟩,
    .op ⟨(some 234), (.call 162 [(.tmp 233), (.av (.int .i64 4))]), none⟩,
    .op ⟨none, (.store 5 (.tmp 2) (.tmp 234)), none⟩]
def r_f163_54 : List SOp :=
   [.op ⟨(some 235), (.mv (.tmp 12)), none⟩,
    .op ⟨(some 236), (.bin .neq (.tmp 235) (.av (.str []))), none⟩]
def r_f163_55 : List SOp :=
   [.op ⟨(some 13), (.mv (.av (.int .i64 1))), none⟩]
def r_f163_56 : List SOp :=
   [.op ⟨(some 237), (.mv (.tmp 11)), none⟩,
    .op ⟨(some 238), (.bin .eql (.tmp 237) (.av (.int .i64 0))), none⟩]
def r_f163_57 : List SOp :=
   [.op ⟨(some 13), (.mv (.av (.int .i64 0))), none⟩]
def r_f163_58 : List SOp :=
   [.op ⟨(some 239), (.mv (.tmp 11)), none⟩,
    .op ⟨(some 240), (.mv (.tmp 5)), none⟩,
    .op ⟨(some 241), (.bin .eql (.tmp 239) (.tmp 240)), none⟩]
def r_f163_59 : List SOp :=
   [.op ⟨(some 13), (.mv (.av (.int .i64 2))), none⟩]
def r_f163_60 : List SOp :=
   [.op ⟨(some 242), (.faddr 3 (.tmp 4)), none⟩,
    .op ⟨(some 243), (.load false 1 (.tmp 242)), none⟩,
    .op ⟨(some 244), (.mv (.tmp 13)), none⟩,
    .op ⟨(some 245), (.mv (.tmp 12)), none⟩,
    .op ⟨(some 246), (.build [(.int .i64 0), (.str [])] [(0, 1, (.tmp 244)), (1, 1, (.tmp 245))]), none⟩,
    .op ⟨(some 247), (.bslice false 2 1 [(.int .i64 0), (.str [])] [(0, 2, (.tmp 246))]), none⟩,
    .op ⟨(some 248), (.app 1 2 24 [(.int .i64 0), (.str [])] (.tmp 243) (.tmp 247)), none⟩,
    .op ⟨(some 249), (.faddr 3 (.tmp 4)), none⟩,
    .op ⟨none, (.store 1 (.tmp 249) (.tmp 248)), none⟩]
def r_f163_61 : List SOp :=
   [.op ⟨(some 250), (.bin .add (.tmp 217) (.av (.int .i64 1))), none⟩,
    .op ⟨(some 217), (.mv (.tmp 250)), none⟩]
def r_f163_62 : List SOp :=
   [.op ⟨(some 251), (.load true 5 (.tmp 4)), none⟩,
    .op ⟨none, (.store 5 (.tmp 2) (.tmp 251)), none⟩]
def c_f163 : LFun := ⟨252, (.seq (.sreg r_f163_0 [])
  (.seq (.sreg r_f163_1 [true, false, false, false, false])
  (.seq (.block 0 (.loop (.seq (.seq (.dregM r_f163_2 r_f163_2t [true, false, false, false, false, false, false, false, false, false, false, false, false, false, false, false, false, false, false, false, false, false, false, false])
  (.cond (.tmp 41) .skip
  (.exit 0)))
  (.block 1 (.sreg r_f163_3 [false, false, false, false, false, false, false])))))
  (.seq (.dregM r_f163_4 r_f163_4t [true, false, false, false, false, false, false, false, false, false, false, false])
  (.seq (.seq (.sreg r_f163_5 [true, false, false])
  (.cond (.tmp 62) (.seq (.sreg r_f163_6 [false, false])
  .ret)
  .skip))
  (.seq (.sreg r_f163_7 [false])
  (.seq (.seq (.sreg r_f163_8 [true, false])
  (.cond (.tmp 67) (.sreg r_f163_9 [false])
  (.seq (.sreg r_f163_10 [true, false])
  (.cond (.tmp 70) (.sreg r_f163_11 [false])
  (.seq (.sreg r_f163_12 [true, false])
  (.cond (.tmp 73) (.sreg r_f163_13 [false])
  .skip))))))
  (.seq (.seq (.sreg r_f163_14 [true, false, false])
  (.cond (.tmp 77) (.seq (.sreg r_f163_15 [false, false])
  .ret)
  .skip))
  (.seq (.sreg r_f163_16 [])
  (.seq (.sreg r_f163_17 [])
  (.seq (.sreg r_f163_18 [])
  (.seq (.block 2 (.loop (.seq (.seq (.sreg r_f163_19 [true, false, false])
  (.cond (.tmp 82) .skip
  (.exit 2)))
  (.block 3 (.seq (.seq (.sdreg r_f163_20 [.pure, (.read 0 0), .pure, (.read 0 0), .pure, (.read 0 0), .pure, (.read 0 0), (.read 0 0)] [true, false, false, false, false, false, false, false, false, false])
  (.cond (.tmp 92) (.seq (.sreg r_f163_21 [false, false])
  .ret)
  .skip))
  (.seq (.sdreg r_f163_22 [.pure, (.read 0 0), .pure, (.read 0 0), .pure, (.read 0 0), .pure, (.read 0 0)] [true, false, false, false, false, false, false, false, false, false])
  (.seq (.sreg r_f163_23 [false, false, false, false, false, false, false])
  (.seq (.sreg r_f163_24 [true, false])
  (.cond (.tmp 112) (.seq (.sreg r_f163_25 [true, false, false])
  (.seq (.sreg r_f163_26 [true, false, false, false, false, false])
  (.sreg r_f163_27 [])))
  (.seq (.sreg r_f163_28 [true, false])
  (.cond (.tmp 121) (.seq (.seq (.sdreg r_f163_29 [.pure, (.read 0 0), .pure, (.read 0 0), .pure, .pure, (.read 0 0), .pure, (.read 0 0), (.read 0 0)] [true, false, false, false, false, false, false, false, false, false, false])
  (.cond (.tmp 132) (.seq (.sreg r_f163_30 [false, false])
  .ret)
  .skip))
  (.seq (.sdreg r_f163_31 [.pure, (.read 0 0), .pure, (.read 0 0), .pure, (.read 0 0), .pure, (.read 0 0), .pure, (.read 0 0), .pure, (.read 0 0), .pure, (.read 0 0), .eff, .pure, .pure, .pure, .pure] [true, true, false, false, false, false, false, false, false, false, false, false, false, false, false, false, false, false, false, false])
  (.seq (.seq (.sreg r_f163_32 [true, false])
  (.cond (.tmp 154) (.seq (.sreg r_f163_33 [false, false])
  .ret)
  .skip))
  (.seq (.sreg r_f163_34 [true, false, false, false, false, false])
  (.sreg r_f163_35 [false, false, false, false, false, false, false])))))
  (.seq (.sreg r_f163_36 [true, false, false, false])
  (.cond (.tmp 174) (.seq (.sreg r_f163_37 [false, false])
  .ret)
  (.sreg r_f163_38 [true, false, false, false, false]))))))))))))))
  (.seq (.sreg r_f163_39 [true, false, false, false, false, false])
  (.seq (.seq (.sreg r_f163_40 [true, false])
  (.cond (.tmp 187) (.seq (.sreg r_f163_41 [false, false, false, false])
  (.seq (.sreg r_f163_42 [false])
  .ret))
  .skip))
  (.seq (.seq (.sreg r_f163_43 [true, false, false])
  (.cond (.tmp 195) (.seq (.sreg r_f163_44 [false, false])
  .ret)
  .skip))
  (.seq (.seq (.sreg r_f163_45 [true, false, false, false, false, false])
  (.cond (.tmp 211) (.seq (.sreg r_f163_46 [false])
  (.seq (.sreg r_f163_47 [false])
  .ret))
  .skip))
  (.seq (.sreg r_f163_48 [false])
  (.seq (.seq (.sreg r_f163_49 [])
  (.block 4 (.loop (.seq (.sreg r_f163_50 [])
  (.seq (.cond (.tmp 218) .skip
  (.exit 4))
  (.seq (.block 5 (.seq (.sreg r_f163_51 [true, true, false, false, false])
  (.seq (.seq (.sreg r_f163_52 [true, false, false, false, false, false])
  (.cond (.tmp 232) (.seq (.sreg r_f163_53 [false, false])
  .ret)
  .skip))
  (.seq (.sreg r_f163_54 [true, false])
  (.cond (.tmp 236) (.seq (.sreg r_f163_55 [])
  (.seq (.seq (.sreg r_f163_56 [true, false])
  (.cond (.tmp 238) (.sreg r_f163_57 [])
  (.seq (.sreg r_f163_58 [true, false, false])
  (.cond (.tmp 241) (.sreg r_f163_59 [])
  .skip))))
  (.sreg r_f163_60 [false, false, false, false, false, false, false, false])))
  .skip)))))
  (.sreg r_f163_61 [true, false])))))))
  (.seq (.sreg r_f163_62 [false])
  .ret))))))))))))))))))), [(.cell true 5 2)]⟩
def o_f163 : Nat → Nat → Nat := fun r i => if r = 2 ∧ i = 22 then 3 else if r = 31 ∧ i = 14 then 3 else 1
theorem c_f163_eq : lowF Tryz.prog o_f163 163 = some c_f163.raw := by kernel_rfl
theorem c_f163_ok : c_f163.code.okc = true := by kernel_rfl
/-! (castellan/schema.book).kind -/
def r_f142_0 : List SOp :=
   [.op ⟨(some 2), (.box (.tmp 0)), none⟩,
    .op ⟨(some 3), (.box (.tmp 1)), none⟩,
    .op ⟨(some 4), (.alloc [(.str []), (.int .i64 0), (.bool false), (.bool false)]), none⟩,
    .op ⟨(some 5), (.mv (.av (.bool false))), none⟩]
def r_f142_1 : List SOp :=
   [.op ⟨(some 7), (.faddr 0 (.tmp 2)), none⟩,
    .op ⟨(some 8), (.faddr 0 (.tmp 7)), none⟩,
    .op ⟨(some 9), (.load false 1 (.tmp 8)), none⟩,
    .op ⟨(some 10), (.mkfn 193 [(.tmp 3)]), none⟩,
    .op ⟨(some 11), (.call 192 [(.tmp 9), (.tmp 10)]), none⟩,
    .op ⟨(some 6), (.mv (.tmp 11)), none⟩]
def r_f142_2 : List SOp :=
   [.op ⟨(some 12), (.mv (.tmp 6)), none⟩,
    .op ⟨(some 13), (.bin .lss (.tmp 12) (.av (.int .i64 0))), none⟩]
def r_f142_3 : List SOp :=
   [.op ⟨(some 14), (.build [(.str []), (.int .i64 0), (.bool false), (.bool false)] []), none⟩,
    .op ⟨none, (.store 4 (.tmp 4) (.tmp 14)), none⟩,
    .op ⟨(some 5), (.mv (.av (.bool false))), none⟩]
def r_f142_4 : List SOp :=
   [.op ⟨(some 15), (.faddr 0 (.tmp 2)), none⟩,
    .op ⟨(some 16), (.faddr 0 (.tmp 15)), none⟩,
    .op ⟨(some 17), (.load false 1 (.tmp 16)), none⟩,
    .op ⟨(some 18), (.mv (.tmp 6)), none⟩,
    .op ⟨(some 19), (.iaddr 4 (.tmp 17) (.tmp 18)), none⟩,
    .op ⟨(some 20), (.load true 4 (.tmp 19)), none⟩,
    .op ⟨none, (.store 4 (.tmp 4) (.tmp 20)), none⟩,
    .op ⟨(some 5), (.mv (.av (.bool true))), none⟩]
def c_f142 : LFun := ⟨21, (.seq (.sreg r_f142_0 [])
  (.seq (.sreg r_f142_1 [true, false, false, false, false, false])
  (.seq (.seq (.sreg r_f142_2 [true, false])
  (.cond (.tmp 13) (.seq (.sreg r_f142_3 [true, false])
  .ret)
  .skip))
  (.seq (.sreg r_f142_4 [true, false, false, false, false, false, false])
  .ret)))), [(.cell true 4 4), (.tmp 5)]⟩
def o_f142 : Nat → Nat → Nat := fun _ _ => 1
theorem c_f142_eq : lowF Tryz.prog o_f142 142 = some c_f142.raw := by kernel_rfl
theorem c_f142_ok : c_f142.code.okc = true := by kernel_rfl
/-! castellan/entry.place -/
def r_f80_0 : List SOp :=
   [.op ⟨(some 4), (.mv (.av (.int .i64 0))), none⟩,
    .op ⟨(some 5), (.mv (.av (.bool false))), none⟩]
def r_f80_1 : List SOp :=
   [.op ⟨(some 6), (.mv (.tmp 0)), none⟩,
    .op ⟨(some 7), (.mv (.tmp 1)), none⟩,
    .op ⟨(some 8), (.call 45 [(.tmp 7)]), none⟩,
    .op ⟨(some 9), (.call 139 [(.tmp 6), (.tmp 8), (.av (.func 140 []))]), none⟩,
    .op ⟨(some 10), (.extract (.tmp 9) 0), none⟩,
    .op ⟨(some 11), (.extract (.tmp 9) 1), none⟩,
    .op ⟨(some 4), (.mv (.tmp 10)), none⟩,
    .op ⟨(some 5), (.mv (.tmp 11)), none⟩]
def c_f80 : LFun := ⟨12, (.seq (.sreg r_f80_0 [])
  (.seq (.sreg r_f80_1 [true, true, false, false, false, false, false, false])
  .ret)), [(.tmp 4), (.tmp 5)]⟩
def o_f80 : Nat → Nat → Nat := fun _ _ => 1
theorem c_f80_eq : lowF Tryz.prog o_f80 80 = some c_f80.raw := by kernel_rfl
theorem c_f80_ok : c_f80.code.okc = true := by kernel_rfl
/-! slices.Clone[[]string,string] -/
def r_f38_0 : List SOp :=
   [.op ⟨(some 2), (.mv (.av (.sl [] 0 (some 0)))), none⟩]
def r_f38_1 : List SOp :=
   [.op ⟨(some 3), (.mv (.tmp 0)), none⟩,
    .op ⟨(some 4), (.slnil false (.tmp 3)), none⟩]
def r_f38_2 : List SOp :=
   [.op ⟨(some 2), (.mv (.av (.sl [] 0 (some 0)))), none⟩]
def r_f38_3 : List SOp :=
   [.op ⟨(some 5), (.bslice false 1 0 [] []), none⟩,
    .op ⟨(some 6), (.mv (.tmp 0)), none⟩,
    .op ⟨(some 7), (.app 1 1 16 [(.str [])] (.tmp 5) (.tmp 6)), none⟩,
    .op ⟨(some 2), (.mv (.tmp 7)), none⟩]
def c_f38 : LFun := ⟨8, (.seq (.sreg r_f38_0 [])
  (.seq (.seq (.sreg r_f38_1 [true, false])
  (.cond (.tmp 4) (.seq (.sreg r_f38_2 [])
  .ret)
  .skip))
  (.seq (.sreg r_f38_3 [true, false, false, false])
  .ret))), [(.tmp 2)]⟩
def o_f38 : Nat → Nat → Nat := fun _ _ => 1
theorem c_f38_eq : lowF Tryz.prog o_f38 38 = some c_f38.raw := by kernel_rfl
theorem c_f38_ok : c_f38.code.okc = true := by kernel_rfl
/-! castellan/octet.Prep -/
def r_f87_0 : List SOp :=
   [.op ⟨(some 2), (.mv (.av (.str []))), none⟩]
def r_f87_1 : List SOp :=
   [.op ⟨(some 3), (.mv (.av (.sl [] 0 (some 0)))), none⟩]
def r_f87_2 : List SOp :=
   [.op ⟨(some 6), (.mv (.tmp 0)), none⟩,
    .op ⟨(some 7), (.call 45 [(.tmp 6)]), none⟩,
    .op ⟨(some 8), (.s2b (.tmp 7)), none⟩,
    .op ⟨(some 9), (.len false (.tmp 8)), none⟩,
    .op ⟨(some 10), (.mv (.av (.int .i64 0))), none⟩]
def r_f87_3 : List SOp :=
   [.op ⟨(some 11), (.bin .lss (.tmp 10) (.tmp 9)), none⟩]
def r_f87_4 : List SOp :=
   [.op ⟨(some 12), (.iaddr 1 (.tmp 8) (.tmp 10)), none⟩,
    .op ⟨(some 13), (.load false 1 (.tmp 12)), none⟩,
    .op ⟨(some 5), (.mv (.tmp 13)), none⟩]
def r_f87_5 : List SOp :=
   [.op ⟨(some 14), (.mv (.tmp 5)), none⟩,
    .op ⟨(some 15), (.bin .eql (.tmp 14) (.av (.int .u8 32))), none⟩,
    .op ⟨(some 16), (.mv (.tmp 15)), none⟩,
    .grp none 16 true
      [.op ⟨(some 17), (.mv (.tmp 3)), (some (16, true))⟩,
      .op ⟨(some 18), (.len false (.tmp 17)), (some (16, true))⟩,
      .op ⟨(some 19), (.bin .eql (.tmp 18) (.av (.int .i64 0))), (some (16, true))⟩,
      .op ⟨(some 20), (.mv (.tmp 19)), (some (16, true))⟩,
      .grp (some (16, true)) 20 false
        [.op ⟨(some 21), (.mv (.tmp 3)), (some (20, false))⟩,
        .op ⟨(some 22), (.mv (.tmp 3)), (some (20, false))⟩,
        .op ⟨(some 23), (.len false (.tmp 22)), (some (20, false))⟩,
        .op ⟨(some 24), (.bin .sub (.tmp 23) (.av (.int .i64 1))), (some (20, false))⟩,
        .op ⟨(some 25), (.iaddr 1 (.tmp 21) (.tmp 24)), (some (20, false))⟩,
        .op ⟨(some 26), (.load false 1 (.tmp 25)), (some (20, false))⟩,
        .op ⟨(some 27), (.bin .eql (.tmp 26) (.av (.int .u8 32))), (some (20, false))⟩]
        28 (.tmp 27)]
      29 (.tmp 28)]
def r_f87_6 : List SOp :=
   [.op ⟨(some 30), (.mv (.tmp 3)), none⟩,
    .op ⟨(some 31), (.mv (.tmp 5)), none⟩,
    .op ⟨(some 32), (.bslice false 1 1 [(.int .u8 0)] [(0, 1, (.tmp 31))]), none⟩,
    .op ⟨(some 33), (.app 1 1 1 [(.int .u8 0)] (.tmp 30) (.tmp 32)), none⟩,
    .op ⟨(some 3), (.mv (.tmp 33)), none⟩]
def r_f87_7 : List SOp :=
   [.op ⟨(some 34), (.bin .add (.tmp 10) (.av (.int .i64 1))), none⟩,
    .op ⟨(some 10), (.mv (.tmp 34)), none⟩]
def r_f87_8 : List SOp :=
   [.op ⟨(some 35), (.mv (.tmp 3)), none⟩,
    .op ⟨(some 36), (.len false (.tmp 35)), none⟩,
    .op ⟨(some 37), (.bin .gtr (.tmp 36) (.av (.int .i64 0))), none⟩,
    .op ⟨(some 38), (.mv (.tmp 37)), none⟩,
    .grp none 38 true
      [.op ⟨(some 39), (.mv (.tmp 3)), (some (38, true))⟩,
      .op ⟨(some 40), (.mv (.tmp 3)), (some (38, true))⟩,
      .op ⟨(some 41), (.len false (.tmp 40)), (some (38, true))⟩,
      .op ⟨(some 42), (.bin .sub (.tmp 41) (.av (.int .i64 1))), (some (38, true))⟩,
      .op ⟨(some 43), (.iaddr 1 (.tmp 39) (.tmp 42)), (some (38, true))⟩,
      .op ⟨(some 44), (.load false 1 (.tmp 43)), (some (38, true))⟩,
      .op ⟨(some 45), (.bin .eql (.tmp 44) (.av (.int .u8 32))), (some (38, true))⟩]
      46 (.tmp 45)]
def r_f87_9 : List SOp :=
   [.op ⟨(some 47), (.mv (.tmp 3)), none⟩,
    .op ⟨(some 48), (.mv (.tmp 3)), none⟩,
    .op ⟨(some 49), (.len false (.tmp 48)), none⟩,
    .op ⟨(some 50), (.bin .sub (.tmp 49) (.av (.int .i64 1))), none⟩,
    .op ⟨(some 51), (.slV 1 (.tmp 47) none (some (.tmp 50)) none), none⟩,
    .op ⟨(some 3), (.mv (.tmp 51)), none⟩]
def r_f87_10 : List SOp :=
   [.op ⟨(some 52), (.mv (.tmp 3)), none⟩,
    .op ⟨(some 53), (.b2s (.tmp 52)), none⟩,
    .op ⟨(some 2), (.mv (.tmp 53)), none⟩]
def c_f87 : LFun := ⟨54, (.seq (.sreg r_f87_0 [])
  (.seq (.sreg r_f87_1 [])
  (.seq (.seq (.sreg r_f87_2 [true, true, true, false, false])
  (.block 0 (.loop (.seq (.sreg r_f87_3 [])
  (.seq (.cond (.tmp 11) .skip
  (.exit 0))
  (.seq (.block 1 (.seq (.sreg r_f87_4 [true, false, false])
  (.seq (.seq (.sreg r_f87_5 [true, false, false, false])
  (.cond (.tmp 29) (.exit 1)
  .skip))
  (.sreg r_f87_6 [true, false, false, false, false]))))
  (.sreg r_f87_7 [true, false])))))))
  (.seq (.seq (.sreg r_f87_8 [true, false, false, false, false])
  (.cond (.tmp 46) (.sreg r_f87_9 [true, false, false, false, false, false])
  .skip))
  (.seq (.sreg r_f87_10 [true, false, false])
  .ret))))), [(.tmp 2)]⟩
def o_f87 : Nat → Nat → Nat := fun _ _ => 1
theorem c_f87_eq : lowF Tryz.prog o_f87 87 = some c_f87.raw := by kernel_rfl
theorem c_f87_ok : c_f87.code.okc = true := by kernel_rfl
/-! unicode/utf8.ValidString -/
def r_f88_0 : List SOp :=
   [.op ⟨(some 2), (.mv (.av (.bool false))), none⟩]
def r_f88_1 : List SOp :=
   [.op ⟨(some 7), (.mv (.tmp 0)), none⟩,
    .op ⟨(some 8), (.len true (.tmp 7)), none⟩,
    .op ⟨(some 9), (.bin .gtr (.tmp 8) (.av (.int .i64 0))), none⟩]
def r_f88_2 : List SOp :=
   [.op ⟨(some 10), (.mv (.tmp 0)), none⟩,
    .op ⟨(some 11), (.idxS (.tmp 10) (.av (.int .i64 0))), none⟩,
    .op ⟨(some 3), (.mv (.tmp 11)), none⟩]
def r_f88_3 : List SOp :=
   [.op ⟨(some 12), (.mv (.tmp 3)), none⟩,
    .op ⟨(some 13), (.bin .lss (.tmp 12) (.av (.int .u8 128))), none⟩]
def r_f88_4 : List SOp :=
   [.op ⟨(some 14), (.mv (.tmp 0)), none⟩,
    .op ⟨(some 15), (.slS (.tmp 14) (some (.av (.int .i64 1))) none), none⟩,
    .op ⟨(some 0), (.mv (.tmp 15)), none⟩]
def r_f88_5 : List SOp :=
   [.op ⟨(some 16), (.mv (.tmp 0)), none⟩,
    .op ⟨(some 17), (.len true (.tmp 16)), none⟩,
    .op ⟨(some 18), (.bin .gtr (.tmp 17) (.av (.int .i64 8))), none⟩,
    .op ⟨(some 19), (.mv (.tmp 18)), none⟩,
    .op ⟨(some 20), (.mv (.tmp 0)), (some (19, true))⟩,
    .op ⟨(some 21), (.call 147 [(.tmp 20)]), (some (19, true))⟩,
    .op ⟨(some 22), (.bin .and (.tmp 21) (.av (.int .u64 9259542123273814144))), (some (19, true))⟩,
    .op ⟨(some 23), (.bin .eql (.tmp 22) (.av (.int .u64 0))), (some (19, true))⟩,
    .op ⟨(some 24), (.pick (.tmp 19) (.tmp 23) (.av (.bool false))), none⟩]
def r_f88_6 : List SOp :=
   [.op ⟨(some 25), (.mv (.tmp 0)), none⟩,
    .op ⟨(some 26), (.slS (.tmp 25) (some (.av (.int .i64 8))) none), none⟩,
    .op ⟨(some 0), (.mv (.tmp 26)), none⟩]
def r_f88_7 : List (LOper × Kd) :=
   [(⟨(some 27), (.mv (.tmp 0)), none⟩, .pure),
    (⟨(some 28), (.len true (.tmp 27)), none⟩, (.read 0 0)),
    (⟨(some 29), (.bin .gtr (.tmp 28) (.av (.int .i64 16))), none⟩, .pure),
    (⟨(some 30), (.mv (.tmp 29)), none⟩, .pure),
    (⟨(some 31), (.mv (.tmp 0)), (some (30, true))⟩, .pure),
    (⟨(some 32), (.call 147 [(.tmp 31)]), (some (30, true))⟩, .eff),
    (⟨(some 33), (.mv (.tmp 0)), (some (30, true))⟩, .pure),
    (⟨(some 34), (.slS (.tmp 33) (some (.av (.int .i64 8))) none), (some (30, true))⟩, (.read 1 0))]
def r_f88_7t : List LOper :=
   [⟨(some 35), (.call 147 [(.tmp 34)]), (some (30, true))⟩,
    ⟨(some 36), (.bin .or (.tmp 32) (.tmp 35)), (some (30, true))⟩,
    ⟨(some 37), (.bin .and (.tmp 36) (.av (.int .u64 9259542123273814144))), (some (30, true))⟩,
    ⟨(some 38), (.bin .eql (.tmp 37) (.av (.int .u64 0))), (some (30, true))⟩,
    ⟨(some 39), (.pick (.tmp 30) (.tmp 38) (.av (.bool false))), none⟩]
def r_f88_8 : List SOp :=
   [.op ⟨(some 40), (.mv (.tmp 0)), none⟩,
    .op ⟨(some 41), (.slS (.tmp 40) (some (.av (.int .i64 16))) none), none⟩,
    .op ⟨(some 0), (.mv (.tmp 41)), none⟩]
def r_f88_9 : List (LOper × Kd) :=
   [(⟨(some 42), (.mv (.tmp 0)), none⟩, .pure),
    (⟨(some 43), (.len true (.tmp 42)), none⟩, (.read 0 0)),
    (⟨(some 44), (.bin .gtr (.tmp 43) (.av (.int .i64 32))), none⟩, .pure),
    (⟨(some 45), (.mv (.tmp 44)), none⟩, .pure),
    (⟨(some 46), (.mv (.tmp 0)), (some (45, true))⟩, .pure),
    (⟨(some 47), (.call 147 [(.tmp 46)]), (some (45, true))⟩, .eff),
    (⟨(some 48), (.mv (.tmp 0)), (some (45, true))⟩, .pure),
    (⟨(some 49), (.slS (.tmp 48) (some (.av (.int .i64 8))) none), (some (45, true))⟩, (.read 1 0)),
    (⟨(some 50), (.call 147 [(.tmp 49)]), (some (45, true))⟩, .eff),
    (⟨(some 51), (.bin .or (.tmp 47) (.tmp 50)), (some (45, true))⟩, .pure),
    (⟨(some 52), (.mv (.tmp 0)), (some (45, true))⟩, .pure),
    (⟨(some 53), (.slS (.tmp 52) (some (.av (.int .i64 16))) none), (some (45, true))⟩, (.read 2 0)),
    (⟨(some 54), (.call 147 [(.tmp 53)]), (some (45, true))⟩, .eff),
    (⟨(some 55), (.mv (.tmp 0)), (some (45, true))⟩, .pure),
    (⟨(some 56), (.slS (.tmp 55) (some (.av (.int .i64 24))) none), (some (45, true))⟩, (.read 3 0)),
    (⟨(some 57), (.call 147 [(.tmp 56)]), (some (45, true))⟩, .eff),
    (⟨(some 58), (.bin .or (.tmp 54) (.tmp 57)), (some (45, true))⟩, .pure)]
def r_f88_9t : List LOper :=
   [⟨(some 59), (.bin .or (.tmp 51) (.tmp 58)), (some (45, true))⟩,
    ⟨(some 60), (.bin .and (.tmp 59) (.av (.int .u64 9259542123273814144))), (some (45, true))⟩,
    ⟨(some 61), (.bin .eql (.tmp 60) (.av (.int .u64 0))), (some (45, true))⟩,
    ⟨(some 62), (.pick (.tmp 45) (.tmp 61) (.av (.bool false))), none⟩]
def r_f88_10 : List SOp :=
   [.op ⟨(some 63), (.mv (.tmp 0)), none⟩,
    .op ⟨(some 64), (.slS (.tmp 63) (some (.av (.int .i64 32))) none), none⟩,
    .op ⟨(some 0), (.mv (.tmp 64)), none⟩]
def r_f88_11 : List SOp :=
   [.op ⟨(some 65), (.mv (.tmp 3)), none⟩,
    .op ⟨(some 66), (.iaddrA 256 1 (.av (.gptr 0 0)) (.tmp 65)), none⟩,
    .op ⟨(some 67), (.load false 1 (.tmp 66)), none⟩,
    .op ⟨(some 4), (.mv (.tmp 67)), none⟩]
def r_f88_12 : List SOp :=
   [.op ⟨(some 68), (.mv (.tmp 4)), none⟩,
    .op ⟨(some 69), (.bin .and (.tmp 68) (.av (.int .u8 7))), none⟩,
    .op ⟨(some 70), (.conv .i64 (.tmp 69)), none⟩,
    .op ⟨(some 5), (.mv (.tmp 70)), none⟩]
def r_f88_13 : List SOp :=
   [.op ⟨(some 71), (.mv (.tmp 4)), none⟩,
    .op ⟨(some 72), (.bin .shr (.tmp 71) (.av (.int .u64 4))), none⟩,
    .op ⟨(some 73), (.iaddrA 16 2 (.av (.gptr 1 0)) (.tmp 72)), none⟩,
    .op ⟨(some 74), (.load true 2 (.tmp 73)), none⟩,
    .op ⟨(some 6), (.alloc [(.int .u8 0), (.int .u8 0)]), none⟩,
    .op ⟨none, (.store 2 (.tmp 6) (.tmp 74)), none⟩]
def r_f88_14 : List SOp :=
   [.op ⟨(some 75), (.mv (.tmp 5)), none⟩]
def r_f88_15 : List SOp :=
   [.op ⟨(some 77), (.bin .eql (.tmp 75) (.av (.int .i64 2))), none⟩,
    .op ⟨(some 76), (.mv (.tmp 77)), none⟩]
def r_f88_16 : List SOp :=
   [.op ⟨(some 78), (.mv (.tmp 0)), none⟩,
    .op ⟨(some 79), (.len true (.tmp 78)), none⟩,
    .op ⟨(some 80), (.bin .lss (.tmp 79) (.av (.int .i64 2))), none⟩,
    .op ⟨(some 81), (.mv (.tmp 80)), none⟩,
    .grp none 81 false
      [.op ⟨(some 82), (.mv (.tmp 0)), (some (81, false))⟩,
      .op ⟨(some 83), (.idxS (.tmp 82) (.av (.int .i64 1))), (some (81, false))⟩,
      .op ⟨(some 84), (.faddr 0 (.tmp 6)), (some (81, false))⟩,
      .op ⟨(some 85), (.load false 1 (.tmp 84)), (some (81, false))⟩,
      .op ⟨(some 86), (.bin .lss (.tmp 83) (.tmp 85)), (some (81, false))⟩]
      87 (.tmp 86),
    .op ⟨(some 88), (.mv (.tmp 87)), none⟩,
    .grp none 88 false
      [.op ⟨(some 89), (.faddr 1 (.tmp 6)), (some (88, false))⟩,
      .op ⟨(some 90), (.load false 1 (.tmp 89)), (some (88, false))⟩,
      .op ⟨(some 91), (.mv (.tmp 0)), (some (88, false))⟩,
      .op ⟨(some 92), (.idxS (.tmp 91) (.av (.int .i64 1))), (some (88, false))⟩,
      .op ⟨(some 93), (.bin .lss (.tmp 90) (.tmp 92)), (some (88, false))⟩]
      94 (.tmp 93)]
def r_f88_17 : List SOp :=
   [.op ⟨(some 2), (.mv (.av (.bool false))), none⟩]
def r_f88_18 : List SOp :=
   [.op ⟨(some 95), (.mv (.tmp 0)), none⟩,
    .op ⟨(some 96), (.slS (.tmp 95) (some (.av (.int .i64 2))) none), none⟩,
    .op ⟨(some 0), (.mv (.tmp 96)), none⟩]
def r_f88_19 : List SOp :=
   [.op ⟨(some 98), (.bin .eql (.tmp 75) (.av (.int .i64 3))), none⟩,
    .op ⟨(some 97), (.mv (.tmp 98)), none⟩]
def r_f88_20 : List SOp :=
   [.op ⟨(some 99), (.mv (.tmp 0)), none⟩,
    .op ⟨(some 100), (.len true (.tmp 99)), none⟩,
    .op ⟨(some 101), (.bin .lss (.tmp 100) (.av (.int .i64 3))), none⟩,
    .op ⟨(some 102), (.mv (.tmp 101)), none⟩,
    .grp none 102 false
      [.op ⟨(some 103), (.mv (.tmp 0)), (some (102, false))⟩,
      .op ⟨(some 104), (.idxS (.tmp 103) (.av (.int .i64 1))), (some (102, false))⟩,
      .op ⟨(some 105), (.faddr 0 (.tmp 6)), (some (102, false))⟩,
      .op ⟨(some 106), (.load false 1 (.tmp 105)), (some (102, false))⟩,
      .op ⟨(some 107), (.bin .lss (.tmp 104) (.tmp 106)), (some (102, false))⟩]
      108 (.tmp 107),
    .op ⟨(some 109), (.mv (.tmp 108)), none⟩,
    .grp none 109 false
      [.op ⟨(some 110), (.faddr 1 (.tmp 6)), (some (109, false))⟩,
      .op ⟨(some 111), (.load false 1 (.tmp 110)), (some (109, false))⟩,
      .op ⟨(some 112), (.mv (.tmp 0)), (some (109, false))⟩,
      .op ⟨(some 113), (.idxS (.tmp 112) (.av (.int .i64 1))), (some (109, false))⟩,
      .op ⟨(some 114), (.bin .lss (.tmp 111) (.tmp 113)), (some (109, false))⟩]
      115 (.tmp 114),
    .op ⟨(some 116), (.mv (.tmp 115)), none⟩,
    .grp none 116 false
      [.op ⟨(some 117), (.mv (.tmp 0)), (some (116, false))⟩,
      .op ⟨(some 118), (.idxS (.tmp 117) (.av (.int .i64 2))), (some (116, false))⟩,
      .op ⟨(some 119), (.bin .lss (.tmp 118) (.av (.int .u8 128))), (some (116, false))⟩]
      120 (.tmp 119),
    .op ⟨(some 121), (.mv (.tmp 120)), none⟩,
    .grp none 121 false
      [.op ⟨(some 122), (.mv (.tmp 0)), (some (121, false))⟩,
      .op ⟨(some 123), (.idxS (.tmp 122) (.av (.int .i64 2))), (some (121, false))⟩,
      .op ⟨(some 124), (.bin .lss (.av (.int .u8 191)) (.tmp 123)), (some (121, false))⟩]
      125 (.tmp 124)]
def r_f88_21 : List SOp :=
   [.op ⟨(some 2), (.mv (.av (.bool false))), none⟩]
def r_f88_22 : List SOp :=
   [.op ⟨(some 126), (.mv (.tmp 0)), none⟩,
    .op ⟨(some 127), (.slS (.tmp 126) (some (.av (.int .i64 3))) none), none⟩,
    .op ⟨(some 0), (.mv (.tmp 127)), none⟩]
def r_f88_23 : List SOp :=
   [.op ⟨(some 129), (.bin .eql (.tmp 75) (.av (.int .i64 4))), none⟩,
    .op ⟨(some 128), (.mv (.tmp 129)), none⟩]
def r_f88_24 : List SOp :=
   [.op ⟨(some 130), (.mv (.tmp 0)), none⟩,
    .op ⟨(some 131), (.len true (.tmp 130)), none⟩,
    .op ⟨(some 132), (.bin .lss (.tmp 131) (.av (.int .i64 4))), none⟩,
    .op ⟨(some 133), (.mv (.tmp 132)), none⟩,
    .grp none 133 false
      [.op ⟨(some 134), (.mv (.tmp 0)), (some (133, false))⟩,
      .op ⟨(some 135), (.idxS (.tmp 134) (.av (.int .i64 1))), (some (133, false))⟩,
      .op ⟨(some 136), (.faddr 0 (.tmp 6)), (some (133, false))⟩,
      .op ⟨(some 137), (.load false 1 (.tmp 136)), (some (133, false))⟩,
      .op ⟨(some 138), (.bin .lss (.tmp 135) (.tmp 137)), (some (133, false))⟩]
      139 (.tmp 138),
    .op ⟨(some 140), (.mv (.tmp 139)), none⟩,
    .grp none 140 false
      [.op ⟨(some 141), (.faddr 1 (.tmp 6)), (some (140, false))⟩,
      .op ⟨(some 142), (.load false 1 (.tmp 141)), (some (140, false))⟩,
      .op ⟨(some 143), (.mv (.tmp 0)), (some (140, false))⟩,
      .op ⟨(some 144), (.idxS (.tmp 143) (.av (.int .i64 1))), (some (140, false))⟩,
      .op ⟨(some 145), (.bin .lss (.tmp 142) (.tmp 144)), (some (140, false))⟩]
      146 (.tmp 145),
    .op ⟨(some 147), (.mv (.tmp 146)), none⟩,
    .grp none 147 false
      [.op ⟨(some 148), (.mv (.tmp 0)), (some (147, false))⟩,
      .op ⟨(some 149), (.idxS (.tmp 148) (.av (.int .i64 2))), (some (147, false))⟩,
      .op ⟨(some 150), (.bin .lss (.tmp 149) (.av (.int .u8 128))), (some (147, false))⟩]
      151 (.tmp 150),
    .op ⟨(some 152), (.mv (.tmp 151)), none⟩,
    .grp none 152 false
      [.op ⟨(some 153), (.mv (.tmp 0)), (some (152, false))⟩,
      .op ⟨(some 154), (.idxS (.tmp 153) (.av (.int .i64 2))), (some (152, false))⟩,
      .op ⟨(some 155), (.bin .lss (.av (.int .u8 191)) (.tmp 154)), (some (152, false))⟩]
      156 (.tmp 155),
    .op ⟨(some 157), (.mv (.tmp 156)), none⟩,
    .grp none 157 false
      [.op ⟨(some 158), (.mv (.tmp 0)), (some (157, false))⟩,
      .op ⟨(some 159), (.idxS (.tmp 158) (.av (.int .i64 3))), (some (157, false))⟩,
      .op ⟨(some 160), (.bin .lss (.tmp 159) (.av (.int .u8 128))), (some (157, false))⟩]
      161 (.tmp 160),
    .op ⟨(some 162), (.mv (.tmp 161)), none⟩,
    .grp none 162 false
      [.op ⟨(some 163), (.mv (.tmp 0)), (some (162, false))⟩,
      .op ⟨(some 164), (.idxS (.tmp 163) (.av (.int .i64 3))), (some (162, false))⟩,
      .op ⟨(some 165), (.bin .lss (.av (.int .u8 191)) (.tmp 164)), (some (162, false))⟩]
      166 (.tmp 165)]
def r_f88_25 : List SOp :=
   [.op ⟨(some 2), (.mv (.av (.bool false))), none⟩]
def r_f88_26 : List SOp :=
   [.op ⟨(some 167), (.mv (.tmp 0)), none⟩,
    .op ⟨(some 168), (.slS (.tmp 167) (some (.av (.int .i64 4))) none), none⟩,
    .op ⟨(some 0), (.mv (.tmp 168)), none⟩]
def r_f88_27 : List SOp :=
   [.op ⟨(some 2), (.mv (.av (.bool false))), none⟩]
def r_f88_28 : List SOp :=
   [.op ⟨(some 2), (.mv (.av (.bool true))), none⟩]
def c_f88 : LFun := ⟨169, (.seq (.sreg r_f88_0 [])
  (.seq (.block 0 (.loop (.seq (.seq (.sreg r_f88_1 [true, false, false])
  (.cond (.tmp 9) .skip
  (.exit 0)))
  (.block 1 (.seq (.sreg r_f88_2 [true, false, false])
  (.seq (.seq (.sreg r_f88_3 [true, false])
  (.cond (.tmp 13) (.seq (.sreg r_f88_4 [true, false, false])
  (.seq (.seq (.sreg r_f88_5 [true, false, false, false, false, false, false, false, false])
  (.cond (.tmp 24) (.seq (.sreg r_f88_6 [true, false, false])
  (.seq (.dregM r_f88_7 r_f88_7t [true, false, false, false, false, false, false, false, false, false, false, false, false])
  (.cond (.tmp 39) (.seq (.sreg r_f88_8 [true, false, false])
  (.block 2 (.loop (.seq (.seq (.dregM r_f88_9 r_f88_9t [true, false, false, false, false, false, false, false, false, false, false, false, false, false, false, false, false, false, false, false, false])
  (.cond (.tmp 62) .skip
  (.exit 2)))
  (.block 3 (.sreg r_f88_10 [true, false, false]))))))
  .skip)))
  .skip))
  (.exit 1)))
  .skip))
  (.seq (.sreg r_f88_11 [true, false, false, false])
  (.seq (.sreg r_f88_12 [true, false, false, false])
  (.seq (.sreg r_f88_13 [true, false, false, false, false])
  (.seq (.sreg r_f88_14 [])
  (.block 4 (.seq (.sreg r_f88_15 [true, false])
  (.cond (.tmp 76) (.seq (.seq (.sdreg r_f88_16 [.pure, (.read 0 0), .pure, .pure, .pure, (.read 0 0), .pure, (.read 0 0), .pure, .pure, .pure, .pure, (.read 0 0), .pure, (.read 0 0)] [true, false, false, false, false, false, false])
  (.cond (.tmp 94) (.seq (.sreg r_f88_17 [])
  .ret)
  .skip))
  (.sreg r_f88_18 [true, false, false]))
  (.seq (.sreg r_f88_19 [true, false])
  (.cond (.tmp 97) (.seq (.seq (.sdreg r_f88_20 [.pure, (.read 0 0), .pure, .pure, .pure, (.read 0 0), .pure, (.read 0 0), .pure, .pure, .pure, .pure, (.read 0 0), .pure, (.read 0 0)] [true, false, false, false, false, false, false, false, false, false, false])
  (.cond (.tmp 125) (.seq (.sreg r_f88_21 [])
  .ret)
  .skip))
  (.sreg r_f88_22 [true, false, false]))
  (.seq (.sreg r_f88_23 [true, false])
  (.cond (.tmp 128) (.seq (.seq (.sdreg r_f88_24 [.pure, (.read 0 0), .pure, .pure, .pure, (.read 0 0), .pure, (.read 0 0), .pure, .pure, .pure, .pure, (.read 0 0), .pure, (.read 0 0)] [true, false, false, false, false, false, false, false, false, false, false, false, false, false, false])
  (.cond (.tmp 166) (.seq (.sreg r_f88_25 [])
  .ret)
  .skip))
  (.sreg r_f88_26 [true, false, false]))
  (.seq (.sreg r_f88_27 [])
  .ret))))))))))))))))))
  (.seq (.sreg r_f88_28 [])
  .ret))), [(.tmp 2)]⟩
def o_f88 : Nat → Nat → Nat := fun r i => if r = 7 ∧ i = 5 then 3 else if r = 7 ∧ i = 8 then 3 else if r = 9 ∧ i = 5 then 3 else if r = 9 ∧ i = 8 then 3 else if r = 9 ∧ i = 12 then 3 else if r = 9 ∧ i = 15 then 3 else 1
theorem c_f88_eq : lowF Tryz.prog o_f88 88 = some c_f88.raw := by kernel_rfl
theorem c_f88_ok : c_f88.code.okc = true := by kernel_rfl
/-! strings.IndexFunc -/
def r_f89_0 : List SOp :=
   [.op ⟨(some 4), (.mv (.av (.int .i64 0))), none⟩]
def r_f89_1 : List SOp :=
   [.op ⟨(some 5), (.mv (.tmp 0)), none⟩,
    .op ⟨(some 6), (.mv (.tmp 1)), none⟩,
    .op ⟨(some 7), (.call 148 [(.tmp 5), (.tmp 6), (.av (.bool true))]), none⟩,
    .op ⟨(some 4), (.mv (.tmp 7)), none⟩]
def c_f89 : LFun := ⟨8, (.seq (.sreg r_f89_0 [])
  (.seq (.sreg r_f89_1 [true, false, false, false])
  .ret)), [(.tmp 4)]⟩
def o_f89 : Nat → Nat → Nat := fun _ _ => 1
theorem c_f89_eq : lowF Tryz.prog o_f89 89 = some c_f89.raw := by kernel_rfl
theorem c_f89_ok : c_f89.code.okc = true := by kernel_rfl
/-! castellan/syntax.Norm$1 -/
def r_f90_0 : List SOp :=
   [.op ⟨(some 2), (.mv (.av (.bool false))), none⟩]
def r_f90_1 : List SOp :=
   [.op ⟨(some 3), (.mv (.tmp 0)), none⟩,
    .op ⟨(some 4), (.bin .geq (.tmp 3) (.av (.int .i32 128))), none⟩,
    .op ⟨(some 2), (.mv (.tmp 4)), none⟩]
def c_f90 : LFun := ⟨5, (.seq (.sreg r_f90_0 [])
  (.seq (.sreg r_f90_1 [true, false, false])
  .ret)), [(.tmp 2)]⟩
def o_f90 : Nat → Nat → Nat := fun _ _ => 1
theorem c_f90_eq : lowF Tryz.prog o_f90 90 = some c_f90.raw := by kernel_rfl
theorem c_f90_ok : c_f90.code.okc = true := by kernel_rfl
/-! castellan/syntax.number -/
def r_f91_0 : List SOp :=
   [.op ⟨(some 2), (.mv (.av (.int .i64 0))), none⟩,
    .op ⟨(some 3), (.mv (.av (.bool false))), none⟩]
def r_f91_1 : List SOp :=
   [.op ⟨(some 7), (.mv (.tmp 0)), none⟩,
    .op ⟨(some 8), (.call 149 [(.tmp 7), (.av (.int .i64 10)), (.av (.int .i64 64))]), none⟩,
    .op ⟨(some 6), (.mv (.tmp 8)), none⟩,
    .op ⟨(some 9), (.extract (.tmp 6) 0), none⟩,
    .op ⟨(some 10), (.extract (.tmp 6) 1), none⟩,
    .op ⟨(some 4), (.mv (.tmp 9)), none⟩,
    .op ⟨(some 5), (.mv (.tmp 10)), none⟩]
def r_f91_2 : List SOp :=
   [.op ⟨(some 11), (.mv (.tmp 4)), none⟩,
    .op ⟨(some 12), (.mv (.tmp 5)), none⟩,
    .op ⟨(some 13), (.eqk false .iface (.tmp 12) (.av .nilif)), none⟩,
    .op ⟨(some 14), (.mv (.tmp 13)), none⟩,
    .op ⟨(some 15), (.mv (.tmp 4)), (some (14, true))⟩,
    .op ⟨(some 16), (.call 150 [(.tmp 15), (.av (.int .i64 10))]), (some (14, true))⟩,
    .op ⟨(some 17), (.mv (.tmp 0)), (some (14, true))⟩,
    .op ⟨(some 18), (.bin .eql (.tmp 16) (.tmp 17)), (some (14, true))⟩,
    .op ⟨(some 19), (.pick (.tmp 14) (.tmp 18) (.av (.bool false))), none⟩,
    .op ⟨(some 2), (.mv (.tmp 11)), none⟩,
    .op ⟨(some 3), (.mv (.tmp 19)), none⟩]
def c_f91 : LFun := ⟨20, (.seq (.sreg r_f91_0 [])
  (.seq (.sreg r_f91_1 [true, true, false, false, false, false, false])
  (.seq (.sreg r_f91_2 [true, true, false, false, false, false, false, false, false, false, false])
  .ret))), [(.tmp 2), (.tmp 3)]⟩
def o_f91 : Nat → Nat → Nat := fun _ _ => 1
theorem c_f91_eq : lowF Tryz.prog o_f91 91 = some c_f91.raw := by kernel_rfl
theorem c_f91_ok : c_f91.code.okc = true := by kernel_rfl
/-! castellan/dn.Key -/
def r_f92_0 : List SOp :=
   [.op ⟨(some 2), (.mv (.av (.str []))), none⟩,
    .op ⟨(some 3), (.mv (.av (.int .i64 0))), none⟩]
def r_f92_1 : List SOp :=
   [.op ⟨(some 7), (.mv (.tmp 0)), none⟩,
    .op ⟨(some 8), (.call 151 [(.tmp 7)]), none⟩,
    .op ⟨(some 6), (.mv (.tmp 8)), none⟩,
    .op ⟨(some 9), (.extract (.tmp 6) 0), none⟩,
    .op ⟨(some 10), (.extract (.tmp 6) 1), none⟩,
    .op ⟨(some 4), (.mv (.tmp 9)), none⟩,
    .op ⟨(some 5), (.mv (.tmp 10)), none⟩]
def r_f92_2 : List SOp :=
   [.op ⟨(some 11), (.mv (.tmp 5)), none⟩,
    .op ⟨(some 12), (.bin .neq (.tmp 11) (.av (.int .i64 0))), none⟩]
def r_f92_3 : List SOp :=
   [.op ⟨(some 13), (.mv (.tmp 5)), none⟩,
    .op ⟨(some 2), (.mv (.av (.str []))), none⟩,
    .op ⟨(some 3), (.mv (.tmp 13)), none⟩]
def r_f92_4 : List SOp :=
   [.op ⟨(some 14), (.mv (.tmp 4)), none⟩,
    .op ⟨(some 15), (.call 129 [(.tmp 14)]), none⟩,
    .op ⟨(some 16), (.extract (.tmp 15) 0), none⟩,
    .op ⟨(some 17), (.extract (.tmp 15) 1), none⟩,
    .op ⟨(some 2), (.mv (.tmp 16)), none⟩,
    .op ⟨(some 3), (.mv (.tmp 17)), none⟩]
def c_f92 : LFun := ⟨18, (.seq (.sreg r_f92_0 [])
  (.seq (.sreg r_f92_1 [true, true, false, false, false, false, false])
  (.seq (.seq (.sreg r_f92_2 [true, false])
  (.cond (.tmp 12) (.seq (.sreg r_f92_3 [true, true, false])
  .ret)
  .skip))
  (.seq (.sreg r_f92_4 [true, true, false, false, false, false])
  .ret)))), [(.tmp 2), (.tmp 3)]⟩
def o_f92 : Nat → Nat → Nat := fun _ _ => 1
theorem c_f92_eq : lowF Tryz.prog o_f92 92 = some c_f92.raw := by kernel_rfl
theorem c_f92_ok : c_f92.code.okc = true := by kernel_rfl
/-! castellan/syntax.moment -/
def r_f93_0 : List SOp :=
   [.op ⟨(some 1), (.box (.tmp 0)), none⟩,
    .op ⟨(some 2), (.mv (.av (.bool false))), none⟩]
def r_f93_1 : List SOp :=
   [.op ⟨(some 10), (.load false 1 (.tmp 1)), none⟩,
    .op ⟨(some 11), (.len true (.tmp 10)), none⟩,
    .op ⟨(some 12), (.bin .neq (.tmp 11) (.av (.int .i64 15))), none⟩,
    .op ⟨(some 13), (.mv (.tmp 12)), none⟩,
    .grp none 13 false
      [.op ⟨(some 14), (.load false 1 (.tmp 1)), (some (13, false))⟩,
      .op ⟨(some 15), (.idxS (.tmp 14) (.av (.int .i64 14))), (some (13, false))⟩,
      .op ⟨(some 16), (.bin .neq (.tmp 15) (.av (.int .u8 90))), (some (13, false))⟩]
      17 (.tmp 16)]
def r_f93_2 : List SOp :=
   [.op ⟨(some 2), (.mv (.av (.bool false))), none⟩]
def r_f93_3 : List SOp :=
   [.op ⟨(some 18), (.load false 1 (.tmp 1)), none⟩,
    .op ⟨(some 19), (.slS (.tmp 18) none (some (.av (.int .i64 14)))), none⟩,
    .op ⟨(some 20), (.s2b (.tmp 19)), none⟩,
    .op ⟨(some 21), (.len false (.tmp 20)), none⟩,
    .op ⟨(some 22), (.mv (.av (.int .i64 0))), none⟩]
def r_f93_4 : List SOp :=
   [.op ⟨(some 23), (.bin .lss (.tmp 22) (.tmp 21)), none⟩]
def r_f93_5 : List SOp :=
   [.op ⟨(some 24), (.iaddr 1 (.tmp 20) (.tmp 22)), none⟩,
    .op ⟨(some 25), (.load false 1 (.tmp 24)), none⟩,
    .op ⟨(some 4), (.mv (.tmp 25)), none⟩]
def r_f93_6 : List SOp :=
   [.op ⟨(some 26), (.mv (.tmp 4)), none⟩,
    .op ⟨(some 27), (.bin .lss (.tmp 26) (.av (.int .u8 48))), none⟩,
    .op ⟨(some 28), (.mv (.tmp 27)), none⟩,
    .grp none 28 false
      [.op ⟨(some 29), (.mv (.tmp 4)), (some (28, false))⟩,
      .op ⟨(some 30), (.bin .gtr (.tmp 29) (.av (.int .u8 57))), (some (28, false))⟩]
      31 (.tmp 30)]
def r_f93_7 : List SOp :=
   [.op ⟨(some 2), (.mv (.av (.bool false))), none⟩]
def r_f93_8 : List SOp :=
   [.op ⟨(some 32), (.bin .add (.tmp 22) (.av (.int .i64 1))), none⟩,
    .op ⟨(some 22), (.mv (.tmp 32)), none⟩]
def r_f93_9 : List SOp :=
   [.op ⟨(some 33), (.mkfn 152 [(.tmp 1)]), none⟩,
    .op ⟨(some 5), (.mv (.tmp 33)), none⟩]
def r_f93_10 : List SOp :=
   [.op ⟨(some 34), (.mv (.tmp 5)), none⟩,
    .op ⟨(some 35), (.callv (.tmp 34) [(.av (.int .i64 0))]), none⟩,
    .op ⟨(some 36), (.bin .mul (.tmp 35) (.av (.int .i64 100))), none⟩,
    .op ⟨(some 37), (.mv (.tmp 5)), none⟩,
    .op ⟨(some 38), (.callv (.tmp 37) [(.av (.int .i64 2))]), none⟩,
    .op ⟨(some 39), (.bin .add (.tmp 36) (.tmp 38)), none⟩,
    .op ⟨(some 40), (.mv (.tmp 5)), none⟩,
    .op ⟨(some 41), (.callv (.tmp 40) [(.av (.int .i64 4))]), none⟩,
    .op ⟨(some 42), (.mv (.tmp 5)), none⟩,
    .op ⟨(some 43), (.callv (.tmp 42) [(.av (.int .i64 6))]), none⟩,
    .op ⟨(some 6), (.mv (.tmp 39)), none⟩,
    .op ⟨(some 7), (.mv (.tmp 41)), none⟩,
    .op ⟨(some 8), (.mv (.tmp 43)), none⟩]
def r_f93_11 : List SOp :=
   [.op ⟨(some 44), (.mv (.tmp 7)), none⟩,
    .op ⟨(some 45), (.bin .lss (.tmp 44) (.av (.int .i64 1))), none⟩,
    .op ⟨(some 46), (.mv (.tmp 45)), none⟩,
    .op ⟨(some 47), (.mv (.tmp 7)), (some (46, false))⟩,
    .op ⟨(some 48), (.bin .gtr (.tmp 47) (.av (.int .i64 12))), (some (46, false))⟩,
    .op ⟨(some 49), (.pick (.tmp 46) (.av (.bool true)) (.tmp 48)), none⟩,
    .op ⟨(some 50), (.mv (.tmp 49)), none⟩,
    .op ⟨(some 51), (.mv (.tmp 8)), (some (50, false))⟩,
    .op ⟨(some 52), (.bin .lss (.tmp 51) (.av (.int .i64 1))), (some (50, false))⟩,
    .op ⟨(some 53), (.pick (.tmp 50) (.av (.bool true)) (.tmp 52)), none⟩,
    .op ⟨(some 54), (.mv (.tmp 53)), none⟩,
    .op ⟨(some 55), (.mv (.tmp 5)), (some (54, false))⟩,
    .op ⟨(some 56), (.callv (.tmp 55) [(.av (.int .i64 8))]), (some (54, false))⟩,
    .op ⟨(some 57), (.bin .gtr (.tmp 56) (.av (.int .i64 23))), (some (54, false))⟩,
    .op ⟨(some 58), (.pick (.tmp 54) (.av (.bool true)) (.tmp 57)), none⟩,
    .op ⟨(some 59), (.mv (.tmp 58)), none⟩,
    .op ⟨(some 60), (.mv (.tmp 5)), (some (59, false))⟩,
    .op ⟨(some 61), (.callv (.tmp 60) [(.av (.int .i64 10))]), (some (59, false))⟩,
    .op ⟨(some 62), (.bin .gtr (.tmp 61) (.av (.int .i64 59))), (some (59, false))⟩,
    .op ⟨(some 63), (.pick (.tmp 59) (.av (.bool true)) (.tmp 62)), none⟩,
    .op ⟨(some 64), (.mv (.tmp 63)), none⟩,
    .op ⟨(some 65), (.mv (.tmp 5)), (some (64, false))⟩,
    .op ⟨(some 66), (.callv (.tmp 65) [(.av (.int .i64 12))]), (some (64, false))⟩,
    .op ⟨(some 67), (.bin .gtr (.tmp 66) (.av (.int .i64 59))), (some (64, false))⟩,
    .op ⟨(some 68), (.pick (.tmp 64) (.av (.bool true)) (.tmp 67)), none⟩]
def r_f93_12 : List SOp :=
   [.op ⟨(some 2), (.mv (.av (.bool false))), none⟩]
def r_f93_13 : List SOp :=
   [.op ⟨(some 69), (.mv (.tmp 7)), none⟩,
    .op ⟨(some 70), (.bin .sub (.tmp 69) (.av (.int .i64 1))), none⟩,
    .op ⟨(some 71), (.iaddrA 12 1 (.av (.gptr 2 0)) (.tmp 70)), none⟩,
    .op ⟨(some 72), (.load false 1 (.tmp 71)), none⟩,
    .op ⟨(some 9), (.mv (.tmp 72)), none⟩]
def r_f93_14 : List SOp :=
   [.op ⟨(some 73), (.mv (.tmp 7)), none⟩,
    .op ⟨(some 74), (.bin .eql (.tmp 73) (.av (.int .i64 2))), none⟩,
    .op ⟨(some 75), (.mv (.tmp 74)), none⟩,
    .grp none 75 true
      [.op ⟨(some 76), (.mv (.tmp 6)), (some (75, true))⟩,
      .op ⟨(some 77), (.bin .rem (.tmp 76) (.av (.int .i64 4))), (some (75, true))⟩,
      .op ⟨(some 78), (.bin .eql (.tmp 77) (.av (.int .i64 0))), (some (75, true))⟩,
      .op ⟨(some 79), (.mv (.tmp 78)), (some (75, true))⟩,
      .grp (some (75, true)) 79 true
        [.op ⟨(some 80), (.mv (.tmp 6)), (some (79, true))⟩,
        .op ⟨(some 81), (.bin .rem (.tmp 80) (.av (.int .i64 100))), (some (79, true))⟩,
        .op ⟨(some 82), (.bin .neq (.tmp 81) (.av (.int .i64 0))), (some (79, true))⟩]
        83 (.tmp 82),
      .op ⟨(some 84), (.mv (.tmp 83)), (some (75, true))⟩,
      .grp (some (75, true)) 84 false
        [.op ⟨(some 85), (.mv (.tmp 6)), (some (84, false))⟩,
        .op ⟨(some 86), (.bin .rem (.tmp 85) (.av (.int .i64 400))), (some (84, false))⟩,
        .op ⟨(some 87), (.bin .eql (.tmp 86) (.av (.int .i64 0))), (some (84, false))⟩]
        88 (.tmp 87)]
      89 (.tmp 88)]
def r_f93_15 : List SOp :=
   [.op ⟨(some 90), (.mv (.tmp 9)), none⟩,
    .op ⟨(some 91), (.bin .add (.tmp 90) (.av (.int .i64 1))), none⟩,
    .op ⟨(some 9), (.mv (.tmp 91)), none⟩]
def r_f93_16 : List SOp :=
   [.op ⟨(some 92), (.mv (.tmp 8)), none⟩,
    .op ⟨(some 93), (.mv (.tmp 9)), none⟩,
    .op ⟨(some 94), (.bin .leq (.tmp 92) (.tmp 93)), none⟩,
    .op ⟨(some 2), (.mv (.tmp 94)), none⟩]
def c_f93 : LFun := ⟨95, (.seq (.sreg r_f93_0 [])
  (.seq (.seq (.sreg r_f93_1 [true, false, false, false, false])
  (.cond (.tmp 17) (.seq (.sreg r_f93_2 [])
  .ret)
  .skip))
  (.seq (.seq (.sreg r_f93_3 [true, true, true, false, false])
  (.block 0 (.loop (.seq (.sreg r_f93_4 [])
  (.seq (.cond (.tmp 23) .skip
  (.exit 0))
  (.seq (.block 1 (.seq (.sreg r_f93_5 [true, false, false])
  (.seq (.sreg r_f93_6 [true, false, false, false])
  (.cond (.tmp 31) (.seq (.sreg r_f93_7 [])
  .ret)
  .skip))))
  (.sreg r_f93_8 [true, false])))))))
  (.seq (.sreg r_f93_9 [true, false])
  (.seq (.sreg r_f93_10 [true, true, true, false, false, false, false, false, false, false, false, false, false])
  (.seq (.seq (.sreg r_f93_11 [true, false, false, false, false, false, false, false, false, false, false, false, false, false, false, false, false, false, false, false, false, false, false, false, false])
  (.cond (.tmp 68) (.seq (.sreg r_f93_12 [])
  .ret)
  .skip))
  (.seq (.sreg r_f93_13 [true, false, false, false, false])
  (.seq (.seq (.sreg r_f93_14 [true, false, false, false])
  (.cond (.tmp 89) (.sreg r_f93_15 [true, false, false])
  .skip))
  (.seq (.sreg r_f93_16 [true, false, false, false])
  .ret))))))))), [(.tmp 2)]⟩
def o_f93 : Nat → Nat → Nat := fun _ _ => 1
theorem c_f93_eq : lowF Tryz.prog o_f93 93 = some c_f93.raw := by kernel_rfl
theorem c_f93_ok : c_f93.code.okc = true := by kernel_rfl
/-! castellan/entry.value -/
def r_f212_0 : List SOp :=
   [.op ⟨(some 3), (.box (.tmp 0)), none⟩,
    .op ⟨(some 6), (.mv (.av (.int .i64 0))), none⟩,
    .op ⟨(some 7), (.mv (.av (.bool false))), none⟩,
    .op ⟨(some 8), (.mv (.av (.bool false))), none⟩]
def r_f212_1 : List SOp :=
   [.op ⟨(some 14), (.faddr 1 (.tmp 3)), none⟩,
    .op ⟨(some 15), (.load false 1 (.tmp 14)), none⟩,
    .op ⟨(some 16), (.mv (.tmp 2)), none⟩,
    .op ⟨(some 17), (.call 49 [(.tmp 15), (.tmp 16)]), none⟩,
    .op ⟨(some 13), (.mv (.tmp 17)), none⟩,
    .op ⟨(some 18), (.extract (.tmp 13) 0), none⟩,
    .op ⟨(some 19), (.extract (.tmp 13) 1), none⟩,
    .op ⟨(some 9), (.mv (.tmp 18)), none⟩,
    .op ⟨(some 10), (.mv (.tmp 19)), none⟩]
def r_f212_2 : List SOp :=
   [.op ⟨(some 20), (.mv (.tmp 10)), none⟩,
    .op ⟨(some 21), (.un .not (.tmp 20)), none⟩]
def r_f212_3 : List SOp :=
   [.op ⟨(some 6), (.mv (.av (.int .i64 0))), none⟩,
    .op ⟨(some 7), (.mv (.av (.bool false))), none⟩,
    .op ⟨(some 8), (.mv (.av (.bool false))), none⟩]
def r_f212_4 : List SOp :=
   [.op ⟨(some 23), (.mv (.tmp 1)), none⟩,
    .op ⟨(some 24), (.mv (.tmp 9)), none⟩,
    .op ⟨(some 25), (.mkfn 270 [(.tmp 3)]), none⟩,
    .op ⟨(some 26), (.call 269 [(.tmp 23), (.tmp 24), (.tmp 25)]), none⟩,
    .op ⟨(some 22), (.mv (.tmp 26)), none⟩,
    .op ⟨(some 27), (.extract (.tmp 22) 0), none⟩,
    .op ⟨(some 28), (.extract (.tmp 22) 1), none⟩,
    .op ⟨(some 11), (.mv (.tmp 27)), none⟩,
    .op ⟨(some 12), (.mv (.tmp 28)), none⟩]
def r_f212_5 : List SOp :=
   [.op ⟨(some 29), (.mv (.tmp 11)), none⟩,
    .op ⟨(some 30), (.mv (.tmp 12)), none⟩,
    .op ⟨(some 6), (.mv (.tmp 29)), none⟩,
    .op ⟨(some 7), (.mv (.tmp 30)), none⟩,
    .op ⟨(some 8), (.mv (.av (.bool true))), none⟩]
def c_f212 : LFun := ⟨31, (.seq (.sreg r_f212_0 [])
  (.seq (.sreg r_f212_1 [true, true, false, false, false, false, false, false, false])
  (.seq (.seq (.sreg r_f212_2 [true, false])
  (.cond (.tmp 21) (.seq (.sreg r_f212_3 [])
  .ret)
  .skip))
  (.seq (.sreg r_f212_4 [true, true, false, false, false, false, false, false, false])
  (.seq (.sreg r_f212_5 [true, true, true, false, false])
  .ret))))), [(.tmp 6), (.tmp 7), (.tmp 8)]⟩
def o_f212 : Nat → Nat → Nat := fun _ _ => 1
theorem c_f212_eq : lowF Tryz.prog o_f212 212 = some c_f212.raw := by kernel_rfl
theorem c_f212_ok : c_f212.code.okc = true := by kernel_rfl
/-! (*castellan/filt.checker).check -/
def r_f213_0 : List SOp :=
   [.op ⟨(some 4), (.box (.tmp 1)), none⟩,
    .op ⟨(some 6), (.mv (.av (.int .i64 0))), none⟩]
def r_f213_1 : List SOp :=
   [.op ⟨(some 10), (.mv (.tmp 2)), none⟩,
    .op ⟨(some 11), (.bin .gtr (.tmp 10) (.av (.int .i64 64))), none⟩]
def r_f213_2 : List SOp :=
   [.op ⟨(some 6), (.mv (.av (.int .i64 6))), none⟩]
def r_f213_3 : List SOp :=
   [.op ⟨(some 12), (.mv (.tmp 0)), none⟩,
    .op ⟨(some 13), (.nilchk (.tmp 12)), none⟩,
    .op ⟨(some 14), (.faddr 0 (.tmp 13)), none⟩,
    .op ⟨(some 15), (.load false 1 (.tmp 14)), none⟩,
    .op ⟨(some 16), (.bin .add (.tmp 15) (.av (.int .i64 1))), none⟩,
    .op ⟨(some 17), (.nilchk (.tmp 12)), none⟩,
    .op ⟨(some 18), (.faddr 0 (.tmp 17)), none⟩,
    .op ⟨none, (.store 1 (.tmp 18) (.tmp 16)), none⟩]
def r_f213_4 : List SOp :=
   [.op ⟨(some 19), (.mv (.tmp 0)), none⟩,
    .op ⟨(some 20), (.nilchk (.tmp 19)), none⟩,
    .op ⟨(some 21), (.faddr 0 (.tmp 20)), none⟩,
    .op ⟨(some 22), (.load false 1 (.tmp 21)), none⟩,
    .op ⟨(some 23), (.bin .gtr (.tmp 22) (.av (.int .i64 1000))), none⟩]
def r_f213_5 : List SOp :=
   [.op ⟨(some 6), (.mv (.av (.int .i64 9))), none⟩]
def r_f213_6 : List SOp :=
   [.op ⟨(some 25), (.faddr 0 (.tmp 4)), none⟩,
    .op ⟨(some 26), (.load false 1 (.tmp 25)), none⟩,
    .op ⟨(some 27), (.bin .lss (.tmp 26) (.av (.int .i64 0))), none⟩,
    .op ⟨(some 28), (.mv (.tmp 27)), none⟩,
    .grp none 28 false
      [.op ⟨(some 29), (.faddr 0 (.tmp 4)), (some (28, false))⟩,
      .op ⟨(some 30), (.load false 1 (.tmp 29)), (some (28, false))⟩,
      .op ⟨(some 31), (.bin .gtr (.tmp 30) (.av (.int .i64 8))), (some (28, false))⟩]
      32 (.tmp 31),
    .op ⟨(some 24), (.mv (.tmp 32)), none⟩]
def r_f213_7 : List SOp :=
   [.op ⟨(some 6), (.mv (.av (.int .i64 24))), none⟩]
def r_f213_8 : List SOp :=
   [.op ⟨(some 34), (.faddr 0 (.tmp 4)), none⟩,
    .op ⟨(some 35), (.load false 1 (.tmp 34)), none⟩,
    .op ⟨(some 36), (.bin .eql (.tmp 35) (.av (.int .i64 2))), none⟩,
    .op ⟨(some 37), (.mv (.tmp 36)), none⟩,
    .grp none 37 true
      [.op ⟨(some 38), (.faddr 4 (.tmp 4)), (some (37, true))⟩,
      .op ⟨(some 39), (.load false 1 (.tmp 38)), (some (37, true))⟩,
      .op ⟨(some 40), (.len false (.tmp 39)), (some (37, true))⟩,
      .op ⟨(some 41), (.bin .neq (.tmp 40) (.av (.int .i64 1))), (some (37, true))⟩]
      42 (.tmp 41),
    .op ⟨(some 33), (.mv (.tmp 42)), none⟩]
def r_f213_9 : List SOp :=
   [.op ⟨(some 6), (.mv (.av (.int .i64 2))), none⟩]
def r_f213_10 : List SOp :=
   [.op ⟨(some 44), (.faddr 0 (.tmp 4)), none⟩,
    .op ⟨(some 45), (.load false 1 (.tmp 44)), none⟩,
    .op ⟨(some 46), (.bin .leq (.tmp 45) (.av (.int .i64 2))), none⟩,
    .op ⟨(some 43), (.mv (.tmp 46)), none⟩]
def r_f213_11 : List SOp :=
   [.op ⟨(some 47), (.faddr 4 (.tmp 4)), none⟩,
    .op ⟨(some 48), (.load false 1 (.tmp 47)), none⟩,
    .op ⟨(some 49), (.len false (.tmp 48)), none⟩,
    .op ⟨(some 50), (.mv (.av (.int .i64 0))), none⟩]
def r_f213_12 : List SOp :=
   [.op ⟨(some 51), (.bin .lss (.tmp 50) (.tmp 49)), none⟩]
def r_f213_13 : List SOp :=
   [.op ⟨(some 52), (.iaddr 5 (.tmp 48) (.tmp 50)), none⟩,
    .op ⟨(some 53), (.load true 5 (.tmp 52)), none⟩,
    .op ⟨(some 8), (.alloc [(.int .i64 0), (.str []), (.str []), (.sl [] 0 (some 0)), (.sl [] 0 (some 0))]), none⟩,
    .op ⟨none, (.store 5 (.tmp 8) (.tmp 53)), none⟩]
def r_f213_14 : List SOp :=
   [.op ⟨(some 54), (.mv (.tmp 0)), none⟩,
    .op ⟨(some 55), (.load true 5 (.tmp 8)), none⟩,
    .op ⟨(some 56), (.mv (.tmp 2)), none⟩,
    .op ⟨(some 57), (.bin .add (.tmp 56) (.av (.int .i64 1))), none⟩,
    .op ⟨(some 58), (.call 213 [(.tmp 54), (.tmp 55), (.tmp 57)]), none⟩,
    .op ⟨(some 9), (.mv (.tmp 58)), none⟩]
def r_f213_15 : List SOp :=
   [.op ⟨(some 59), (.mv (.tmp 9)), none⟩,
    .op ⟨(some 60), (.bin .neq (.tmp 59) (.av (.int .i64 0))), none⟩]
def r_f213_16 : List SOp :=
   [.op ⟨(some 61), (.mv (.tmp 9)), none⟩,
    .op ⟨(some 6), (.mv (.tmp 61)), none⟩]
def r_f213_17 : List SOp :=
   [.op ⟨(some 62), (.bin .add (.tmp 50) (.av (.int .i64 1))), none⟩,
    .op ⟨(some 50), (.mv (.tmp 62)), none⟩]
def r_f213_18 : List SOp :=
   [.op ⟨(some 64), (.faddr 1 (.tmp 4)), none⟩,
    .op ⟨(some 65), (.load false 1 (.tmp 64)), none⟩,
    .op ⟨(some 66), (.call 209 [(.tmp 65)]), none⟩,
    .op ⟨(some 67), (.un .not (.tmp 66)), none⟩,
    .op ⟨(some 63), (.mv (.tmp 67)), none⟩]
def r_f213_19 : List SOp :=
   [.op ⟨(some 6), (.mv (.av (.int .i64 20))), none⟩]
def r_f213_20 : List SOp :=
   [.op ⟨(some 69), (.faddr 0 (.tmp 4)), none⟩,
    .op ⟨(some 70), (.load false 1 (.tmp 69)), none⟩,
    .op ⟨(some 71), (.bin .eql (.tmp 70) (.av (.int .i64 4))), none⟩,
    .op ⟨(some 72), (.mv (.tmp 71)), none⟩,
    .op ⟨(some 73), (.faddr 3 (.tmp 4)), (some (72, true))⟩,
    .op ⟨(some 74), (.load false 1 (.tmp 73)), (some (72, true))⟩,
    .op ⟨(some 75), (.call 271 [(.tmp 74)]), (some (72, true))⟩,
    .op ⟨(some 76), (.un .not (.tmp 75)), (some (72, true))⟩,
    .op ⟨(some 77), (.pick (.tmp 72) (.tmp 76) (.av (.bool false))), none⟩,
    .op ⟨(some 68), (.mv (.tmp 77)), none⟩]
def r_f213_21 : List SOp :=
   [.op ⟨(some 6), (.mv (.av (.int .i64 4))), none⟩]
def r_f213_22 : List SOp :=
   [.op ⟨(some 6), (.mv (.av (.int .i64 0))), none⟩]
def c_f213 : LFun := ⟨78, (.seq (.sreg r_f213_0 [])
  (.seq (.seq (.sreg r_f213_1 [true, false])
  (.cond (.tmp 11) (.seq (.sreg r_f213_2 [])
  .ret)
  .skip))
  (.seq (.seq (.sreg r_f213_3 [false, false, false, false, false, false, false])
  (.seq (.sreg r_f213_4 [true, false, false, false, false])
  (.cond (.tmp 23) (.seq (.sreg r_f213_5 [])
  .ret)
  .skip)))
  (.seq (.block 0 (.seq (.sreg r_f213_6 [true, false, false, false, false, false])
  (.cond (.tmp 24) (.seq (.sreg r_f213_7 [])
  .ret)
  (.seq (.sreg r_f213_8 [true, false, false, false, false, false])
  (.cond (.tmp 33) (.seq (.sreg r_f213_9 [])
  .ret)
  (.seq (.sreg r_f213_10 [true, false, false, false])
  (.cond (.tmp 43) (.seq (.sreg r_f213_11 [true, true, true, false])
  (.block 1 (.loop (.seq (.sreg r_f213_12 [])
  (.seq (.cond (.tmp 51) .skip
  (.exit 1))
  (.seq (.block 2 (.seq (.sreg r_f213_13 [true, false, false])
  (.seq (.sreg r_f213_14 [true, false, false, false, false, false])
  (.seq (.sreg r_f213_15 [true, false])
  (.cond (.tmp 60) (.seq (.sreg r_f213_16 [true, false])
  .ret)
  .skip)))))
  (.sreg r_f213_17 [true, false])))))))
  (.seq (.sreg r_f213_18 [true, false, false, false, false])
  (.cond (.tmp 63) (.seq (.sreg r_f213_19 [])
  .ret)
  (.seq (.sreg r_f213_20 [true, false, false, false, false, false, false, false, false, false])
  (.cond (.tmp 68) (.seq (.sreg r_f213_21 [])
  .ret)
  .skip)))))))))))
  (.seq (.sreg r_f213_22 [])
  .ret))))), [(.tmp 6)]⟩
def o_f213 : Nat → Nat → Nat := fun _ _ => 1
theorem c_f213_eq : lowF Tryz.prog o_f213 213 = some c_f213.raw := by kernel_rfl
theorem c_f213_ok : c_f213.code.okc = true := by kernel_rfl
/-! castellan/syntax.Like -/
def r_f158_0 : List SOp :=
   [.op ⟨(some 6), (.mv (.av (.bool false))), none⟩,
    .op ⟨(some 7), (.mv (.av (.bool false))), none⟩]
def r_f158_1 : List SOp :=
   [.op ⟨(some 15), (.mv (.tmp 0)), none⟩,
    .op ⟨(some 16), (.mv (.tmp 1)), none⟩,
    .op ⟨(some 17), (.call 49 [(.tmp 15), (.tmp 16)]), none⟩,
    .op ⟨(some 14), (.mv (.tmp 17)), none⟩,
    .op ⟨(some 18), (.extract (.tmp 14) 0), none⟩,
    .op ⟨(some 19), (.extract (.tmp 14) 1), none⟩,
    .op ⟨(some 8), (.mv (.tmp 18)), none⟩,
    .op ⟨(some 9), (.mv (.tmp 19)), none⟩]
def r_f158_2 : List SOp :=
   [.op ⟨(some 20), (.mv (.tmp 9)), none⟩,
    .op ⟨(some 21), (.un .not (.tmp 20)), none⟩,
    .op ⟨(some 22), (.mv (.tmp 21)), none⟩,
    .op ⟨(some 23), (.mv (.tmp 0)), (some (22, false))⟩,
    .op ⟨(some 24), (.bin .neq (.tmp 23) (.av (.int .i64 1))), (some (22, false))⟩,
    .op ⟨(some 25), (.mv (.tmp 24)), (some (22, false))⟩,
    .op ⟨(some 26), (.mv (.tmp 0)), (some (25, true))⟩,
    .op ⟨(some 27), (.bin .neq (.tmp 26) (.av (.int .i64 2))), (some (25, true))⟩,
    .op ⟨(some 28), (.pick (.tmp 25) (.tmp 27) (.av (.bool false))), (some (22, false))⟩,
    .op ⟨(some 29), (.mv (.tmp 28)), (some (22, false))⟩,
    .op ⟨(some 30), (.mv (.tmp 0)), (some (29, true))⟩,
    .op ⟨(some 31), (.bin .neq (.tmp 30) (.av (.int .i64 3))), (some (29, true))⟩,
    .op ⟨(some 32), (.pick (.tmp 29) (.tmp 31) (.av (.bool false))), (some (22, false))⟩,
    .op ⟨(some 33), (.pick (.tmp 22) (.av (.bool true)) (.tmp 32)), none⟩,
    .op ⟨(some 34), (.mv (.tmp 33)), none⟩,
    .op ⟨(some 35), (.mv (.tmp 2)), (some (34, false))⟩,
    .op ⟨(some 36), (.build [(.int .i64 0), (.str []), (.str []), (.sl [] 0 (some 0)), (.sl [] 0 (some 0))] [(0, 1, (.av (.int .i64 4))), (1, 1, (.av (.str [97]))), (3, 1, (.tmp 35))]), (some (34, false))⟩,
    .op ⟨(some 37), (.call 155 [(.tmp 36)]), (some (34, false))⟩,
    .op ⟨(some 38), (.bin .neq (.tmp 37) (.av (.int .i64 0))), (some (34, false))⟩,
    .op ⟨(some 39), (.pick (.tmp 34) (.av (.bool true)) (.tmp 38)), none⟩]
def r_f158_3 : List SOp :=
   [.op ⟨(some 6), (.mv (.av (.bool false))), none⟩,
    .op ⟨(some 7), (.mv (.av (.bool false))), none⟩]
def r_f158_4 : List SOp :=
   [.op ⟨(some 40), (.mv (.tmp 2)), none⟩,
    .op ⟨(some 41), (.len false (.tmp 40)), none⟩,
    .op ⟨(some 42), (.mv (.av (.int .i64 0))), none⟩]
def r_f158_5 : List SOp :=
   [.op ⟨(some 43), (.bin .lss (.tmp 42) (.tmp 41)), none⟩]
def r_f158_6 : List SOp :=
   [.op ⟨(some 44), (.iaddr 2 (.tmp 40) (.tmp 42)), none⟩,
    .op ⟨(some 45), (.load true 2 (.tmp 44)), none⟩,
    .op ⟨(some 11), (.alloc [(.int .i64 0), (.str [])]), none⟩,
    .op ⟨none, (.store 2 (.tmp 11) (.tmp 45)), none⟩]
def r_f158_7 : List SOp :=
   [.op ⟨(some 46), (.faddr 1 (.tmp 11)), none⟩,
    .op ⟨(some 47), (.load false 1 (.tmp 46)), none⟩,
    .op ⟨(some 12), (.mv (.tmp 47)), none⟩]
def r_f158_8 : List SOp :=
   [.op ⟨(some 48), (.mv (.tmp 0)), none⟩,
    .op ⟨(some 49), (.bin .neq (.tmp 48) (.av (.int .i64 2))), none⟩]
def r_f158_9 : List SOp :=
   [.op ⟨(some 50), (.mv (.tmp 12)), none⟩,
    .op ⟨(some 51), (.call 45 [(.tmp 50)]), none⟩,
    .op ⟨(some 12), (.mv (.tmp 51)), none⟩]
def r_f158_10 : List SOp :=
   [.op ⟨(some 52), (.mv (.tmp 8)), none⟩,
    .op ⟨(some 53), (.mv (.tmp 12)), none⟩,
    .op ⟨(some 54), (.call 215 [(.tmp 52), (.tmp 53)]), none⟩,
    .op ⟨(some 13), (.mv (.tmp 54)), none⟩]
def r_f158_11 : List SOp :=
   [.op ⟨(some 56), (.faddr 0 (.tmp 11)), none⟩,
    .op ⟨(some 57), (.load false 1 (.tmp 56)), none⟩,
    .op ⟨(some 58), (.bin .eql (.tmp 57) (.av (.int .i64 0))), none⟩,
    .op ⟨(some 59), (.mv (.tmp 58)), none⟩,
    .op ⟨(some 60), (.mv (.tmp 8)), (some (59, true))⟩,
    .op ⟨(some 61), (.mv (.tmp 12)), (some (59, true))⟩,
    .op ⟨(some 62), (.call 216 [(.tmp 60), (.tmp 61)]), (some (59, true))⟩,
    .op ⟨(some 63), (.un .not (.tmp 62)), (some (59, true))⟩,
    .op ⟨(some 64), (.pick (.tmp 59) (.tmp 63) (.av (.bool false))), none⟩,
    .op ⟨(some 55), (.mv (.tmp 64)), none⟩]
def r_f158_12 : List SOp :=
   [.op ⟨(some 65), (.faddr 0 (.tmp 11)), none⟩,
    .op ⟨(some 66), (.load false 1 (.tmp 65)), none⟩,
    .op ⟨(some 67), (.bin .eql (.tmp 66) (.av (.int .i64 2))), none⟩,
    .op ⟨(some 68), (.mv (.tmp 67)), none⟩,
    .op ⟨(some 69), (.mv (.tmp 8)), (some (68, true))⟩,
    .op ⟨(some 70), (.mv (.tmp 12)), (some (68, true))⟩,
    .op ⟨(some 71), (.call 217 [(.tmp 69), (.tmp 70)]), (some (68, true))⟩,
    .op ⟨(some 72), (.un .not (.tmp 71)), (some (68, true))⟩,
    .op ⟨(some 73), (.pick (.tmp 68) (.tmp 72) (.av (.bool false))), none⟩,
    .op ⟨(some 55), (.mv (.tmp 73)), none⟩]
def r_f158_13 : List SOp :=
   [.op ⟨(some 74), (.mv (.tmp 13)), none⟩,
    .op ⟨(some 75), (.bin .lss (.tmp 74) (.av (.int .i64 0))), none⟩,
    .op ⟨(some 55), (.mv (.tmp 75)), none⟩]
def r_f158_14 : List SOp :=
   [.op ⟨(some 6), (.mv (.av (.bool false))), none⟩,
    .op ⟨(some 7), (.mv (.av (.bool true))), none⟩]
def r_f158_15 : List SOp :=
   [.op ⟨(some 76), (.mv (.tmp 8)), none⟩,
    .op ⟨(some 77), (.mv (.tmp 13)), none⟩,
    .op ⟨(some 78), (.mv (.tmp 12)), none⟩,
    .op ⟨(some 79), (.len true (.tmp 78)), none⟩,
    .op ⟨(some 80), (.bin .add (.tmp 77) (.tmp 79)), none⟩,
    .op ⟨(some 81), (.slS (.tmp 76) (some (.tmp 80)) none), none⟩,
    .op ⟨(some 8), (.mv (.tmp 81)), none⟩]
def r_f158_16 : List SOp :=
   [.op ⟨(some 82), (.bin .add (.tmp 42) (.av (.int .i64 1))), none⟩,
    .op ⟨(some 42), (.mv (.tmp 82)), none⟩]
def r_f158_17 : List SOp :=
   [.op ⟨(some 6), (.mv (.av (.bool true))), none⟩,
    .op ⟨(some 7), (.mv (.av (.bool true))), none⟩]
def c_f158 : LFun := ⟨83, (.seq (.sreg r_f158_0 [])
  (.seq (.sreg r_f158_1 [true, true, false, false, false, false, false, false])
  (.seq (.seq (.sreg r_f158_2 [true, false, false, false, false, false, false, false, false, false, false, false, false, false, false, false, false, false, false, false])
  (.cond (.tmp 39) (.seq (.sreg r_f158_3 [])
  .ret)
  .skip))
  (.seq (.seq (.sreg r_f158_4 [])
  (.block 0 (.loop (.seq (.sreg r_f158_5 [])
  (.seq (.cond (.tmp 43) .skip
  (.exit 0))
  (.seq (.block 1 (.seq (.sreg r_f158_6 [true, false, false])
  (.seq (.sreg r_f158_7 [true, false, false])
  (.seq (.seq (.sreg r_f158_8 [true, false])
  (.cond (.tmp 49) (.sreg r_f158_9 [true, false, false])
  .skip))
  (.seq (.sreg r_f158_10 [true, false, false, false])
  (.seq (.block 2 (.seq (.seq (.sreg r_f158_11 [true, false, false, false, false, false, false, false, false, false])
  (.cond (.tmp 55) .skip
  (.seq (.sreg r_f158_12 [true, false, false, false, false, false, false, false, false, false])
  (.cond (.tmp 55) .skip
  (.sreg r_f158_13 [true, false, false])))))
  (.cond (.tmp 55) (.seq (.sreg r_f158_14 [])
  .ret)
  .skip)))
  (.sreg r_f158_15 [true, false, false, false, false, false, false])))))))
  (.sreg r_f158_16 [true, false])))))))
  (.seq (.sreg r_f158_17 [])
  .ret))))), [(.tmp 6), (.tmp 7)]⟩
def o_f158 : Nat → Nat → Nat := fun _ _ => 1
theorem c_f158_eq : lowF Tryz.prog o_f158 158 = some c_f158.raw := by kernel_rfl
theorem c_f158_ok : c_f158.code.okc = true := by kernel_rfl
/-! slices.IndexFunc[[]string,string] -/
def r_f214_0 : List SOp :=
   [.op ⟨(some 4), (.mv (.av (.int .i64 0))), none⟩]
def r_f214_1 : List SOp :=
   [.op ⟨(some 6), (.mv (.tmp 0)), none⟩,
    .op ⟨(some 7), (.len false (.tmp 6)), none⟩,
    .op ⟨(some 8), (.mv (.av (.int .i64 0))), none⟩]
def r_f214_2 : List SOp :=
   [.op ⟨(some 9), (.bin .lss (.tmp 8) (.tmp 7)), none⟩]
def r_f214_3 : List SOp :=
   [.op ⟨(some 10), (.mv (.tmp 8)), none⟩,
    .op ⟨(some 5), (.mv (.tmp 10)), none⟩]
def r_f214_4 : List SOp :=
   [.op ⟨(some 11), (.mv (.tmp 1)), none⟩,
    .op ⟨(some 12), (.mv (.tmp 0)), none⟩,
    .op ⟨(some 13), (.mv (.tmp 5)), none⟩,
    .op ⟨(some 14), (.iaddr 1 (.tmp 12) (.tmp 13)), none⟩,
    .op ⟨(some 15), (.load false 1 (.tmp 14)), none⟩,
    .op ⟨(some 16), (.callv (.tmp 11) [(.tmp 15)]), none⟩]
def r_f214_5 : List SOp :=
   [.op ⟨(some 17), (.mv (.tmp 5)), none⟩,
    .op ⟨(some 4), (.mv (.tmp 17)), none⟩]
def r_f214_6 : List SOp :=
   [.op ⟨(some 18), (.bin .add (.tmp 8) (.av (.int .i64 1))), none⟩,
    .op ⟨(some 8), (.mv (.tmp 18)), none⟩]
def r_f214_7 : List SOp :=
   [.op ⟨(some 4), (.mv (.av (.int .i64 (-1)))), none⟩]
def c_f214 : LFun := ⟨19, (.seq (.sreg r_f214_0 [])
  (.seq (.seq (.sreg r_f214_1 [true, true, false])
  (.block 0 (.loop (.seq (.sreg r_f214_2 [])
  (.seq (.cond (.tmp 9) .skip
  (.exit 0))
  (.seq (.block 1 (.seq (.sreg r_f214_3 [true, false])
  (.seq (.sreg r_f214_4 [true, false, false, false, false, false])
  (.cond (.tmp 16) (.seq (.sreg r_f214_5 [true, false])
  .ret)
  .skip))))
  (.sreg r_f214_6 [true, false])))))))
  (.seq (.sreg r_f214_7 [])
  .ret))), [(.tmp 4)]⟩
def o_f214 : Nat → Nat → Nat := fun _ _ => 1
theorem c_f214_eq : lowF Tryz.prog o_f214 214 = some c_f214.raw := by kernel_rfl
theorem c_f214_ok : c_f214.code.okc = true := by kernel_rfl
/-! cmp.Compare[int64] -/
def r_f218_0 : List SOp :=
   [.op ⟨(some 4), (.mv (.av (.int .i64 0))), none⟩]
def r_f218_1 : List SOp :=
   [.op ⟨(some 7), (.mv (.tmp 0)), none⟩,
    .op ⟨(some 8), (.call 275 [(.tmp 7)]), none⟩,
    .op ⟨(some 5), (.mv (.tmp 8)), none⟩]
def r_f218_2 : List SOp :=
   [.op ⟨(some 9), (.mv (.tmp 1)), none⟩,
    .op ⟨(some 10), (.call 275 [(.tmp 9)]), none⟩,
    .op ⟨(some 6), (.mv (.tmp 10)), none⟩]
def r_f218_3 : List SOp :=
   [.op ⟨(some 11), (.mv (.tmp 5)), none⟩]
def r_f218_4 : List SOp :=
   [.op ⟨(some 12), (.mv (.tmp 6)), none⟩]
def r_f218_5 : List SOp :=
   [.op ⟨(some 4), (.mv (.av (.int .i64 0))), none⟩]
def r_f218_6 : List SOp :=
   [.op ⟨(some 4), (.mv (.av (.int .i64 (-1)))), none⟩]
def r_f218_7 : List SOp :=
   [.op ⟨(some 13), (.mv (.tmp 6)), none⟩]
def r_f218_8 : List SOp :=
   [.op ⟨(some 4), (.mv (.av (.int .i64 1))), none⟩]
def r_f218_9 : List SOp :=
   [.op ⟨(some 14), (.mv (.tmp 0)), none⟩,
    .op ⟨(some 15), (.mv (.tmp 1)), none⟩,
    .op ⟨(some 16), (.bin .lss (.tmp 14) (.tmp 15)), none⟩]
def r_f218_10 : List SOp :=
   [.op ⟨(some 4), (.mv (.av (.int .i64 (-1)))), none⟩]
def r_f218_11 : List SOp :=
   [.op ⟨(some 17), (.mv (.tmp 0)), none⟩,
    .op ⟨(some 18), (.mv (.tmp 1)), none⟩,
    .op ⟨(some 19), (.bin .gtr (.tmp 17) (.tmp 18)), none⟩]
def r_f218_12 : List SOp :=
   [.op ⟨(some 4), (.mv (.av (.int .i64 1))), none⟩]
def r_f218_13 : List SOp :=
   [.op ⟨(some 4), (.mv (.av (.int .i64 0))), none⟩]
def c_f218 : LFun := ⟨20, (.seq (.sreg r_f218_0 [])
  (.seq (.sreg r_f218_1 [true, false, false])
  (.seq (.sreg r_f218_2 [true, false, false])
  (.seq (.seq (.sreg r_f218_3 [])
  (.cond (.tmp 11) (.seq (.seq (.sreg r_f218_4 [])
  (.cond (.tmp 12) (.seq (.sreg r_f218_5 [])
  .ret)
  .skip))
  (.seq (.sreg r_f218_6 [])
  .ret))
  .skip))
  (.seq (.seq (.sreg r_f218_7 [])
  (.cond (.tmp 13) (.seq (.sreg r_f218_8 [])
  .ret)
  .skip))
  (.seq (.seq (.sreg r_f218_9 [true, false, false])
  (.cond (.tmp 16) (.seq (.sreg r_f218_10 [])
  .ret)
  .skip))
  (.seq (.seq (.sreg r_f218_11 [true, false, false])
  (.cond (.tmp 19) (.seq (.sreg r_f218_12 [])
  .ret)
  .skip))
  (.seq (.sreg r_f218_13 [])
  .ret)))))))), [(.tmp 4)]⟩
def o_f218 : Nat → Nat → Nat := fun _ _ => 1
theorem c_f218_eq : lowF Tryz.prog o_f218 218 = some c_f218.raw := by kernel_rfl
theorem c_f218_ok : c_f218.code.okc = true := by kernel_rfl
/-! strings.Compare -/
def r_f141_0 : List SOp :=
   [.op ⟨(some 4), (.mv (.av (.int .i64 0))), none⟩]
def r_f141_1 : List SOp :=
   [.op ⟨(some 5), (.mv (.tmp 0)), none⟩,
    .op ⟨(some 6), (.mv (.tmp 1)), none⟩,
    .op ⟨(some 7), (.call 191 [(.tmp 5), (.tmp 6)]), none⟩,
    .op ⟨(some 4), (.mv (.tmp 7)), none⟩]
def c_f141 : LFun := ⟨8, (.seq (.sreg r_f141_0 [])
  (.seq (.sreg r_f141_1 [true, false, false, false])
  .ret)), [(.tmp 4)]⟩
def o_f141 : Nat → Nat → Nat := fun _ _ => 1
theorem c_f141_eq : lowF Tryz.prog o_f141 141 = some c_f141.raw := by kernel_rfl
theorem c_f141_ok : c_f141.code.okc = true := by kernel_rfl
/-! castellan/castellanref09.Type -/
def r_f219_0 : List SOp :=
   [.op ⟨(some 2), (.mv (.av (.bool false))), none⟩]
def r_f219_1 : List SOp :=
   [.op ⟨(some 6), (.mv (.tmp 0)), none⟩,
    .op ⟨(some 7), (.call 276 [(.tmp 6)]), none⟩,
    .op ⟨(some 3), (.mv (.tmp 7)), none⟩]
def r_f219_2 : List SOp :=
   [.op ⟨(some 8), (.mv (.tmp 3)), none⟩,
    .op ⟨(some 9), (.len true (.tmp 8)), none⟩,
    .op ⟨(some 10), (.bin .geq (.tmp 9) (.av (.int .i64 1))), none⟩,
    .op ⟨(some 11), (.mv (.tmp 10)), none⟩,
    .grp none 11 true
      [.op ⟨(some 12), (.mv (.tmp 3)), (some (11, true))⟩,
      .op ⟨(some 13), (.len true (.tmp 12)), (some (11, true))⟩,
      .op ⟨(some 14), (.bin .leq (.tmp 13) (.av (.int .i64 32))), (some (11, true))⟩]
      15 (.tmp 14),
    .op ⟨(some 4), (.mv (.tmp 15)), none⟩]
def r_f219_3 : List SOp :=
   [.op ⟨(some 5), (.mv (.av (.int .i64 0))), none⟩]
def r_f219_4 : List SOp :=
   [.op ⟨(some 16), (.mv (.tmp 5)), none⟩,
    .op ⟨(some 17), (.mv (.tmp 3)), none⟩,
    .op ⟨(some 18), (.len true (.tmp 17)), none⟩,
    .op ⟨(some 19), (.bin .lss (.tmp 16) (.tmp 18)), none⟩,
    .op ⟨(some 20), (.mv (.tmp 19)), none⟩,
    .grp none 20 true
      [.op ⟨(some 21), (.mv (.tmp 4)), (some (20, true))⟩]
      22 (.tmp 21)]
def r_f219_5 : List SOp :=
   [.op ⟨(some 25), (.mv (.tmp 3)), none⟩,
    .op ⟨(some 26), (.mv (.tmp 5)), none⟩,
    .op ⟨(some 27), (.idxS (.tmp 25) (.tmp 26)), none⟩,
    .op ⟨(some 28), (.call 277 [(.tmp 27), (.av (.str [97, 98, 99, 100, 101, 102, 103, 104, 105, 106, 107, 108, 109, 110, 111, 112, 113, 114, 115, 116, 117, 118, 119, 120, 121, 122]))]), none⟩,
    .op ⟨(some 29), (.mv (.tmp 28)), none⟩,
    .op ⟨(some 30), (.mv (.tmp 5)), (some (29, false))⟩,
    .op ⟨(some 31), (.bin .gtr (.tmp 30) (.av (.int .i64 0))), (some (29, false))⟩,
    .op ⟨(some 32), (.mv (.tmp 31)), (some (29, false))⟩,
    .op ⟨(some 33), (.mv (.tmp 3)), (some (32, true))⟩,
    .op ⟨(some 34), (.mv (.tmp 5)), (some (32, true))⟩,
    .op ⟨(some 35), (.idxS (.tmp 33) (.tmp 34)), (some (32, true))⟩,
    .op ⟨(some 36), (.call 277 [(.tmp 35), (.av (.str [48, 49, 50, 51, 52, 53, 54, 55, 56, 57, 45]))]), (some (32, true))⟩,
    .op ⟨(some 37), (.pick (.tmp 32) (.tmp 36) (.av (.bool false))), (some (29, false))⟩,
    .op ⟨(some 38), (.pick (.tmp 29) (.av (.bool true)) (.tmp 37)), none⟩,
    .op ⟨(some 4), (.mv (.tmp 38)), none⟩]
def r_f219_6 : List SOp :=
   [.op ⟨(some 23), (.mv (.tmp 5)), none⟩,
    .op ⟨(some 24), (.bin .add (.tmp 23) (.av (.int .i64 1))), none⟩,
    .op ⟨(some 5), (.mv (.tmp 24)), none⟩]
def r_f219_7 : List SOp :=
   [.op ⟨(some 39), (.mv (.tmp 4)), none⟩,
    .op ⟨(some 2), (.mv (.tmp 39)), none⟩]
def c_f219 : LFun := ⟨40, (.seq (.sreg r_f219_0 [])
  (.seq (.sreg r_f219_1 [true, false, false])
  (.seq (.sreg r_f219_2 [true, false, false, false, false, false])
  (.seq (.seq (.sreg r_f219_3 [])
  (.block 0 (.loop (.seq (.seq (.sreg r_f219_4 [true, false, false, false, false, false])
  (.cond (.tmp 22) .skip
  (.exit 0)))
  (.seq (.block 1 (.sreg r_f219_5 [true, false, false, false, false, false, false, false, false, false, false, false, false, false, false]))
  (.sreg r_f219_6 [true, false, false]))))))
  (.seq (.sreg r_f219_7 [true, false])
  .ret))))), [(.tmp 2)]⟩
def o_f219 : Nat → Nat → Nat := fun _ _ => 1
theorem c_f219_eq : lowF Tryz.prog o_f219 219 = some c_f219.raw := by kernel_rfl
theorem c_f219_ok : c_f219.code.okc = true := by kernel_rfl
/-! castellan/castellanref01.Unhex -/
def r_f220_0 : List SOp :=
   [.op ⟨(some 2), (.mv (.av (.str []))), none⟩,
    .op ⟨(some 3), (.mv (.av (.bool false))), none⟩]
def r_f220_1 : List SOp :=
   [.op ⟨(some 4), (.mv (.av (.sl [] 0 (some 0)))), none⟩]
def r_f220_2 : List SOp :=
   [.op ⟨(some 9), (.mv (.tmp 0)), none⟩,
    .op ⟨(some 10), (.call 276 [(.tmp 9)]), none⟩,
    .op ⟨(some 5), (.mv (.tmp 10)), none⟩]
def r_f220_3 : List SOp :=
   [.op ⟨(some 6), (.mv (.av (.int .i64 0))), none⟩]
def r_f220_4 : List SOp :=
   [.op ⟨(some 11), (.mv (.tmp 6)), none⟩,
    .op ⟨(some 12), (.bin .add (.tmp 11) (.av (.int .i64 1))), none⟩,
    .op ⟨(some 13), (.mv (.tmp 5)), none⟩,
    .op ⟨(some 14), (.len true (.tmp 13)), none⟩,
    .op ⟨(some 15), (.bin .lss (.tmp 12) (.tmp 14)), none⟩]
def r_f220_5 : List SOp :=
   [.op ⟨(some 7), (.mv (.av (.bool false))), none⟩]
def r_f220_6 : List SOp :=
   [.op ⟨(some 8), (.mv (.av (.int .i64 0))), none⟩]
def r_f220_7 : List SOp :=
   [.op ⟨(some 18), (.mv (.tmp 8)), none⟩,
    .op ⟨(some 19), (.bin .lss (.tmp 18) (.av (.int .i64 256))), none⟩,
    .op ⟨(some 20), (.mv (.tmp 19)), none⟩,
    .grp none 20 true
      [.op ⟨(some 21), (.mv (.tmp 7)), (some (20, true))⟩,
      .op ⟨(some 22), (.un .not (.tmp 21)), (some (20, true))⟩]
      23 (.tmp 22)]
def r_f220_8 : List (LOper × Kd) :=
   [(⟨(some 26), (.mv (.tmp 8)), none⟩, .pure),
    (⟨(some 27), (.bin .quo (.tmp 26) (.av (.int .i64 16))), none⟩, .pure),
    (⟨(some 28), (.conv .u8 (.tmp 27)), none⟩, .pure),
    (⟨(some 29), (.call 278 [(.tmp 28)]), none⟩, .eff),
    (⟨(some 30), (.mv (.tmp 5)), none⟩, .pure),
    (⟨(some 31), (.mv (.tmp 6)), none⟩, .pure),
    (⟨(some 32), (.idxS (.tmp 30) (.tmp 31)), none⟩, (.read 1 0)),
    (⟨(some 33), (.bin .eql (.tmp 29) (.tmp 32)), none⟩, .pure),
    (⟨(some 34), (.mv (.tmp 33)), none⟩, .pure),
    (⟨(some 35), (.mv (.tmp 8)), (some (34, true))⟩, .pure),
    (⟨(some 36), (.bin .rem (.tmp 35) (.av (.int .i64 16))), (some (34, true))⟩, .pure),
    (⟨(some 37), (.conv .u8 (.tmp 36)), (some (34, true))⟩, .pure),
    (⟨(some 38), (.call 278 [(.tmp 37)]), (some (34, true))⟩, .eff),
    (⟨(some 39), (.mv (.tmp 5)), (some (34, true))⟩, .pure),
    (⟨(some 40), (.mv (.tmp 6)), (some (34, true))⟩, .pure),
    (⟨(some 41), (.bin .add (.tmp 40) (.av (.int .i64 1))), (some (34, true))⟩, .pure),
    (⟨(some 42), (.idxS (.tmp 39) (.tmp 41)), (some (34, true))⟩, (.read 1 0))]
def r_f220_8t : List LOper :=
   [⟨(some 43), (.bin .eql (.tmp 38) (.tmp 42)), (some (34, true))⟩,
    ⟨(some 44), (.pick (.tmp 34) (.tmp 43) (.av (.bool false))), none⟩]
def r_f220_9 : List SOp :=
   [.op ⟨(some 45), (.mv (.tmp 4)), none⟩,
    .op ⟨(some 46), (.mv (.tmp 8)), none⟩,
    .op ⟨(some 47), (.conv .u8 (.tmp 46)), none⟩,
    .op ⟨(some 48), (.bslice false 1 1 [(.int .u8 0)] [(0, 1, (.tmp 47))]), none⟩,
    .op ⟨(some 49), (.app 1 1 1 [(.int .u8 0)] (.tmp 45) (.tmp 48)), none⟩,
    .op ⟨(some 4), (.mv (.tmp 49)), none⟩]
def r_f220_10 : List SOp :=
   [.op ⟨(some 7), (.mv (.av (.bool true))), none⟩]
def r_f220_11 : List SOp :=
   [.op ⟨(some 24), (.mv (.tmp 8)), none⟩,
    .op ⟨(some 25), (.bin .add (.tmp 24) (.av (.int .i64 1))), none⟩,
    .op ⟨(some 8), (.mv (.tmp 25)), none⟩]
def r_f220_12 : List SOp :=
   [.op ⟨(some 50), (.mv (.tmp 7)), none⟩,
    .op ⟨(some 51), (.un .not (.tmp 50)), none⟩]
def r_f220_13 : List SOp :=
   [.op ⟨(some 2), (.mv (.av (.str []))), none⟩,
    .op ⟨(some 3), (.mv (.av (.bool false))), none⟩]
def r_f220_14 : List SOp :=
   [.op ⟨(some 16), (.mv (.tmp 6)), none⟩,
    .op ⟨(some 17), (.bin .add (.tmp 16) (.av (.int .i64 2))), none⟩,
    .op ⟨(some 6), (.mv (.tmp 17)), none⟩]
def r_f220_15 : List SOp :=
   [.op ⟨(some 52), (.mv (.tmp 0)), none⟩,
    .op ⟨(some 53), (.len true (.tmp 52)), none⟩,
    .op ⟨(some 54), (.bin .rem (.tmp 53) (.av (.int .i64 2))), none⟩,
    .op ⟨(some 55), (.bin .eql (.tmp 54) (.av (.int .i64 1))), none⟩]
def r_f220_16 : List SOp :=
   [.op ⟨(some 2), (.mv (.av (.str []))), none⟩,
    .op ⟨(some 3), (.mv (.av (.bool false))), none⟩]
def r_f220_17 : List SOp :=
   [.op ⟨(some 56), (.mv (.tmp 4)), none⟩,
    .op ⟨(some 57), (.b2s (.tmp 56)), none⟩,
    .op ⟨(some 2), (.mv (.tmp 57)), none⟩,
    .op ⟨(some 3), (.mv (.av (.bool true))), none⟩]
def c_f220 : LFun := ⟨58, (.seq (.sreg r_f220_0 [])
  (.seq (.sreg r_f220_1 [])
  (.seq (.sreg r_f220_2 [true, false, false])
  (.seq (.seq (.sreg r_f220_3 [])
  (.block 0 (.loop (.seq (.seq (.sreg r_f220_4 [true, false, false, false, false])
  (.cond (.tmp 15) .skip
  (.exit 0)))
  (.seq (.block 1 (.seq (.sreg r_f220_5 [])
  (.seq (.seq (.sreg r_f220_6 [])
  (.block 2 (.loop (.seq (.seq (.sreg r_f220_7 [true, false, false, false])
  (.cond (.tmp 23) .skip
  (.exit 2)))
  (.seq (.block 3 (.seq (.dregM r_f220_8 r_f220_8t [true, false, false, false, false, false, false, false, false, false, false, false, false, false, false, false, false, false, false])
  (.cond (.tmp 44) (.seq (.sreg r_f220_9 [true, false, false, false, false, false])
  (.sreg r_f220_10 []))
  .skip)))
  (.sreg r_f220_11 [true, false, false]))))))
  (.seq (.sreg r_f220_12 [true, false])
  (.cond (.tmp 51) (.seq (.sreg r_f220_13 [])
  .ret)
  .skip)))))
  (.sreg r_f220_14 [true, false, false]))))))
  (.seq (.seq (.sreg r_f220_15 [true, false, false, false])
  (.cond (.tmp 55) (.seq (.sreg r_f220_16 [])
  .ret)
  .skip))
  (.seq (.sreg r_f220_17 [true, true, false, false])
  .ret)))))), [(.tmp 2), (.tmp 3)]⟩
def o_f220 : Nat → Nat → Nat := fun r i => if r = 10 ∧ i = 3 then 3 else if r = 10 ∧ i = 12 then 3 else 1
theorem c_f220_eq : lowF Tryz.prog o_f220 220 = some c_f220.raw := by kernel_rfl
theorem c_f220_ok : c_f220.code.okc = true := by kernel_rfl
/-! (castellan/schema.book).kind$1 -/
def r_f193_0 : List SOp :=
   [.op ⟨(some 2), (.box (.tmp 0)), none⟩,
    .op ⟨(some 3), (.mv (.av (.bool false))), none⟩]
def r_f193_1 : List SOp :=
   [.op ⟨(some 4), (.faddr 0 (.tmp 2)), none⟩,
    .op ⟨(some 5), (.load false 1 (.tmp 4)), none⟩,
    .op ⟨(some 6), (.load false 1 (.tmp 1)), none⟩,
    .op ⟨(some 7), (.call 194 [(.tmp 5), (.tmp 6)]), none⟩,
    .op ⟨(some 3), (.mv (.tmp 7)), none⟩]
def c_f193 : LFun := ⟨8, (.seq (.sreg r_f193_0 [])
  (.seq (.sreg r_f193_1 [true, false, false, false, false])
  .ret)), [(.tmp 3)]⟩
def o_f193 : Nat → Nat → Nat := fun _ _ => 1
theorem c_f193_eq : lowF Tryz.prog o_f193 193 = some c_f193.raw := by kernel_rfl
theorem c_f193_ok : c_f193.code.okc = true := by kernel_rfl
/-! slices.IndexFunc[[]castellan/api.Type,castellan/api.Type] -/
def r_f192_0 : List SOp :=
   [.op ⟨(some 4), (.mv (.av (.int .i64 0))), none⟩]
def r_f192_1 : List SOp :=
   [.op ⟨(some 6), (.mv (.tmp 0)), none⟩,
    .op ⟨(some 7), (.len false (.tmp 6)), none⟩,
    .op ⟨(some 8), (.mv (.av (.int .i64 0))), none⟩]
def r_f192_2 : List SOp :=
   [.op ⟨(some 9), (.bin .lss (.tmp 8) (.tmp 7)), none⟩]
def r_f192_3 : List SOp :=
   [.op ⟨(some 10), (.mv (.tmp 8)), none⟩,
    .op ⟨(some 5), (.mv (.tmp 10)), none⟩]
def r_f192_4 : List SOp :=
   [.op ⟨(some 11), (.mv (.tmp 1)), none⟩,
    .op ⟨(some 12), (.mv (.tmp 0)), none⟩,
    .op ⟨(some 13), (.mv (.tmp 5)), none⟩,
    .op ⟨(some 14), (.iaddr 4 (.tmp 12) (.tmp 13)), none⟩,
    .op ⟨(some 15), (.load true 4 (.tmp 14)), none⟩,
    .op ⟨(some 16), (.callv (.tmp 11) [(.tmp 15)]), none⟩]
def r_f192_5 : List SOp :=
   [.op ⟨(some 17), (.mv (.tmp 5)), none⟩,
    .op ⟨(some 4), (.mv (.tmp 17)), none⟩]
def r_f192_6 : List SOp :=
   [.op ⟨(some 18), (.bin .add (.tmp 8) (.av (.int .i64 1))), none⟩,
    .op ⟨(some 8), (.mv (.tmp 18)), none⟩]
def r_f192_7 : List SOp :=
   [.op ⟨(some 4), (.mv (.av (.int .i64 (-1)))), none⟩]
def c_f192 : LFun := ⟨19, (.seq (.sreg r_f192_0 [])
  (.seq (.seq (.sreg r_f192_1 [true, true, false])
  (.block 0 (.loop (.seq (.sreg r_f192_2 [])
  (.seq (.cond (.tmp 9) .skip
  (.exit 0))
  (.seq (.block 1 (.seq (.sreg r_f192_3 [true, false])
  (.seq (.sreg r_f192_4 [true, false, false, false, false, false])
  (.cond (.tmp 16) (.seq (.sreg r_f192_5 [true, false])
  .ret)
  .skip))))
  (.sreg r_f192_6 [true, false])))))))
  (.seq (.sreg r_f192_7 [])
  .ret))), [(.tmp 4)]⟩
def o_f192 : Nat → Nat → Nat := fun _ _ => 1
theorem c_f192_eq : lowF Tryz.prog o_f192 192 = some c_f192.raw := by kernel_rfl
theorem c_f192_ok : c_f192.code.okc = true := by kernel_rfl
/-! castellan/octet.Fold -/
def r_f45_0 : List SOp :=
   [.op ⟨(some 2), (.mv (.av (.str []))), none⟩]
def r_f45_1 : List SOp :=
   [.op ⟨(some 6), (.mv (.tmp 0)), none⟩,
    .op ⟨(some 7), (.s2bO (.tmp 6)), none⟩,
    .op ⟨(some 3), (.mv (.tmp 7)), none⟩]
def r_f45_2 : List SOp :=
   [.op ⟨(some 8), (.mv (.tmp 3)), none⟩,
    .op ⟨(some 9), (.len false (.tmp 8)), none⟩,
    .op ⟨(some 10), (.mv (.av (.int .i64 0))), none⟩]
def r_f45_3 : List SOp :=
   [.op ⟨(some 11), (.bin .lss (.tmp 10) (.tmp 9)), none⟩]
def r_f45_4 : List SOp :=
   [.op ⟨(some 12), (.mv (.tmp 10)), none⟩,
    .op ⟨(some 13), (.iaddr 1 (.tmp 8) (.tmp 10)), none⟩,
    .op ⟨(some 14), (.load false 1 (.tmp 13)), none⟩,
    .op ⟨(some 4), (.mv (.tmp 12)), none⟩,
    .op ⟨(some 5), (.mv (.tmp 14)), none⟩]
def r_f45_5 : List SOp :=
   [.op ⟨(some 15), (.mv (.tmp 5)), none⟩,
    .op ⟨(some 16), (.bin .geq (.tmp 15) (.av (.int .u8 65))), none⟩,
    .op ⟨(some 17), (.mv (.tmp 16)), none⟩,
    .grp none 17 true
      [.op ⟨(some 18), (.mv (.tmp 5)), (some (17, true))⟩,
      .op ⟨(some 19), (.bin .leq (.tmp 18) (.av (.int .u8 90))), (some (17, true))⟩]
      20 (.tmp 19)]
def r_f45_6 : List SOp :=
   [.op ⟨(some 21), (.mv (.tmp 3)), none⟩,
    .op ⟨(some 22), (.mv (.tmp 4)), none⟩,
    .op ⟨(some 23), (.mv (.tmp 5)), none⟩,
    .op ⟨(some 24), (.bin .add (.tmp 23) (.av (.int .u8 32))), none⟩,
    .op ⟨(some 25), (.iaddr 1 (.tmp 21) (.tmp 22)), none⟩,
    .op ⟨none, (.store 1 (.tmp 25) (.tmp 24)), none⟩]
def r_f45_7 : List SOp :=
   [.op ⟨(some 26), (.bin .add (.tmp 10) (.av (.int .i64 1))), none⟩,
    .op ⟨(some 10), (.mv (.tmp 26)), none⟩]
def r_f45_8 : List SOp :=
   [.op ⟨(some 27), (.mv (.tmp 3)), none⟩,
    .op ⟨(some 28), (.b2s (.tmp 27)), none⟩,
    .op ⟨(some 2), (.mv (.tmp 28)), none⟩]
def c_f45 : LFun := ⟨29, (.seq (.sreg r_f45_0 [])
  (.seq (.sreg r_f45_1 [true, false, false])
  (.seq (.seq (.sreg r_f45_2 [])
  (.block 0 (.loop (.seq (.sreg r_f45_3 [])
  (.seq (.cond (.tmp 11) .skip
  (.exit 0))
  (.seq (.block 1 (.seq (.sreg r_f45_4 [true, true, false, false, false])
  (.seq (.sreg r_f45_5 [true, false, false, false])
  (.cond (.tmp 20) (.sreg r_f45_6 [false, false, false, false, false])
  .skip))))
  (.sreg r_f45_7 [true, false])))))))
  (.seq (.sreg r_f45_8 [true, false, false])
  .ret)))), [(.tmp 2)]⟩
def o_f45 : Nat → Nat → Nat := fun r i => if r = 1 ∧ i = 1 then 2 else 1
theorem c_f45_eq : lowF Tryz.prog o_f45 45 = some c_f45.raw := by kernel_rfl
theorem c_f45_ok : c_f45.code.okc = true := by kernel_rfl
/-! slices.BinarySearchFunc[[]castellan/api.Attr,castellan/api.Attr,string] -/
def r_f139_0 : List SOp :=
   [.op ⟨(some 6), (.mv (.av (.int .i64 0))), none⟩,
    .op ⟨(some 7), (.mv (.av (.bool false))), none⟩]
def r_f139_1 : List SOp :=
   [.op ⟨(some 12), (.mv (.tmp 0)), none⟩,
    .op ⟨(some 13), (.len false (.tmp 12)), none⟩,
    .op ⟨(some 8), (.mv (.tmp 13)), none⟩]
def r_f139_2 : List SOp :=
   [.op ⟨(some 14), (.mv (.tmp 8)), none⟩,
    .op ⟨(some 9), (.mv (.av (.int .i64 0))), none⟩,
    .op ⟨(some 10), (.mv (.tmp 14)), none⟩]
def r_f139_3 : List SOp :=
   [.op ⟨(some 15), (.mv (.tmp 9)), none⟩,
    .op ⟨(some 16), (.mv (.tmp 10)), none⟩,
    .op ⟨(some 17), (.bin .lss (.tmp 15) (.tmp 16)), none⟩]
def r_f139_4 : List SOp :=
   [.op ⟨(some 18), (.mv (.tmp 9)), none⟩,
    .op ⟨(some 19), (.mv (.tmp 10)), none⟩,
    .op ⟨(some 20), (.bin .add (.tmp 18) (.tmp 19)), none⟩,
    .op ⟨(some 21), (.conv .u64 (.tmp 20)), none⟩,
    .op ⟨(some 22), (.bin .shr (.tmp 21) (.av (.int .u64 1))), none⟩,
    .op ⟨(some 23), (.conv .i64 (.tmp 22)), none⟩,
    .op ⟨(some 11), (.mv (.tmp 23)), none⟩]
def r_f139_5 : List SOp :=
   [.op ⟨(some 24), (.mv (.tmp 2)), none⟩,
    .op ⟨(some 25), (.mv (.tmp 0)), none⟩,
    .op ⟨(some 26), (.mv (.tmp 11)), none⟩,
    .op ⟨(some 27), (.iaddr 2 (.tmp 25) (.tmp 26)), none⟩,
    .op ⟨(some 28), (.load true 2 (.tmp 27)), none⟩,
    .op ⟨(some 29), (.mv (.tmp 1)), none⟩,
    .op ⟨(some 30), (.callv (.tmp 24) [(.tmp 28), (.tmp 29)]), none⟩,
    .op ⟨(some 31), (.bin .lss (.tmp 30) (.av (.int .i64 0))), none⟩]
def r_f139_6 : List SOp :=
   [.op ⟨(some 32), (.mv (.tmp 11)), none⟩,
    .op ⟨(some 33), (.bin .add (.tmp 32) (.av (.int .i64 1))), none⟩,
    .op ⟨(some 9), (.mv (.tmp 33)), none⟩]
def r_f139_7 : List SOp :=
   [.op ⟨(some 34), (.mv (.tmp 11)), none⟩,
    .op ⟨(some 10), (.mv (.tmp 34)), none⟩]
def r_f139_8 : List SOp :=
   [.op ⟨(some 35), (.mv (.tmp 9)), none⟩,
    .op ⟨(some 36), (.mv (.tmp 9)), none⟩,
    .op ⟨(some 37), (.mv (.tmp 8)), none⟩,
    .op ⟨(some 38), (.bin .lss (.tmp 36) (.tmp 37)), none⟩,
    .op ⟨(some 39), (.mv (.tmp 38)), none⟩,
    .op ⟨(some 40), (.mv (.tmp 2)), (some (39, true))⟩,
    .op ⟨(some 41), (.mv (.tmp 0)), (some (39, true))⟩,
    .op ⟨(some 42), (.mv (.tmp 9)), (some (39, true))⟩,
    .op ⟨(some 43), (.iaddr 2 (.tmp 41) (.tmp 42)), (some (39, true))⟩,
    .op ⟨(some 44), (.load true 2 (.tmp 43)), (some (39, true))⟩,
    .op ⟨(some 45), (.mv (.tmp 1)), (some (39, true))⟩,
    .op ⟨(some 46), (.callv (.tmp 40) [(.tmp 44), (.tmp 45)]), (some (39, true))⟩,
    .op ⟨(some 47), (.bin .eql (.tmp 46) (.av (.int .i64 0))), (some (39, true))⟩,
    .op ⟨(some 48), (.pick (.tmp 39) (.tmp 47) (.av (.bool false))), none⟩,
    .op ⟨(some 6), (.mv (.tmp 35)), none⟩,
    .op ⟨(some 7), (.mv (.tmp 48)), none⟩]
def c_f139 : LFun := ⟨49, (.seq (.sreg r_f139_0 [])
  (.seq (.sreg r_f139_1 [true, false, false])
  (.seq (.sreg r_f139_2 [true, true, false])
  (.seq (.block 0 (.loop (.seq (.seq (.sreg r_f139_3 [true, false, false])
  (.cond (.tmp 17) .skip
  (.exit 0)))
  (.block 1 (.seq (.sreg r_f139_4 [true, false, false, false, false, false, false])
  (.seq (.sreg r_f139_5 [true, false, false, false, false, false, false, false])
  (.cond (.tmp 31) (.sreg r_f139_6 [true, false, false])
  (.sreg r_f139_7 [true, false]))))))))
  (.seq (.sreg r_f139_8 [true, true, false, false, false, false, false, false, false, false, false, false, false, false, false, false])
  .ret))))), [(.tmp 6), (.tmp 7)]⟩
def o_f139 : Nat → Nat → Nat := fun _ _ => 1
theorem c_f139_eq : lowF Tryz.prog o_f139 139 = some c_f139.raw := by kernel_rfl
theorem c_f139_ok : c_f139.code.okc = true := by kernel_rfl
/-! castellan/entry.place$1 -/
def r_f140_0 : List SOp :=
   [.op ⟨(some 2), (.box (.tmp 0)), none⟩,
    .op ⟨(some 4), (.mv (.av (.int .i64 0))), none⟩]
def r_f140_1 : List SOp :=
   [.op ⟨(some 5), (.faddr 0 (.tmp 2)), none⟩,
    .op ⟨(some 6), (.load false 1 (.tmp 5)), none⟩,
    .op ⟨(some 7), (.call 45 [(.tmp 6)]), none⟩,
    .op ⟨(some 8), (.mv (.tmp 1)), none⟩,
    .op ⟨(some 9), (.call 141 [(.tmp 7), (.tmp 8)]), none⟩,
    .op ⟨(some 4), (.mv (.tmp 9)), none⟩]
def c_f140 : LFun := ⟨10, (.seq (.sreg r_f140_0 [])
  (.seq (.sreg r_f140_1 [true, false, false, false, false, false])
  .ret)), [(.tmp 4)]⟩
def o_f140 : Nat → Nat → Nat := fun _ _ => 1
theorem c_f140_eq : lowF Tryz.prog o_f140 140 = some c_f140.raw := by kernel_rfl
theorem c_f140_ok : c_f140.code.okc = true := by kernel_rfl
/-! unicode/utf8.word[string] -/
def r_f147_0 : List SOp :=
   [.op ⟨(some 2), (.mv (.av (.int .u64 0))), none⟩]
def r_f147_1 : List SOp :=
   [.op ⟨(some 3), (.mv (.tmp 0)), none⟩,
    .op ⟨(some 4), (.idxS (.tmp 3) (.av (.int .i64 0))), none⟩,
    .op ⟨(some 5), (.conv .u64 (.tmp 4)), none⟩,
    .op ⟨(some 6), (.mv (.tmp 0)), none⟩,
    .op ⟨(some 7), (.idxS (.tmp 6) (.av (.int .i64 1))), none⟩,
    .op ⟨(some 8), (.conv .u64 (.tmp 7)), none⟩,
    .op ⟨(some 9), (.bin .shl (.tmp 8) (.av (.int .u64 8))), none⟩,
    .op ⟨(some 10), (.bin .or (.tmp 5) (.tmp 9)), none⟩,
    .op ⟨(some 11), (.mv (.tmp 0)), none⟩,
    .op ⟨(some 12), (.idxS (.tmp 11) (.av (.int .i64 2))), none⟩,
    .op ⟨(some 13), (.conv .u64 (.tmp 12)), none⟩,
    .op ⟨(some 14), (.bin .shl (.tmp 13) (.av (.int .u64 16))), none⟩,
    .op ⟨(some 15), (.bin .or (.tmp 10) (.tmp 14)), none⟩,
    .op ⟨(some 16), (.mv (.tmp 0)), none⟩,
    .op ⟨(some 17), (.idxS (.tmp 16) (.av (.int .i64 3))), none⟩,
    .op ⟨(some 18), (.conv .u64 (.tmp 17)), none⟩,
    .op ⟨(some 19), (.bin .shl (.tmp 18) (.av (.int .u64 24))), none⟩,
    .op ⟨(some 20), (.bin .or (.tmp 15) (.tmp 19)), none⟩,
    .op ⟨(some 2), (.mv (.tmp 20)), none⟩]
def r_f147_2 : List SOp :=
   [.op ⟨(some 21), (.mv (.tmp 0)), none⟩,
    .op ⟨(some 22), (.idxS (.tmp 21) (.av (.int .i64 0))), none⟩,
    .op ⟨(some 23), (.conv .u64 (.tmp 22)), none⟩,
    .op ⟨(some 24), (.mv (.tmp 0)), none⟩,
    .op ⟨(some 25), (.idxS (.tmp 24) (.av (.int .i64 1))), none⟩,
    .op ⟨(some 26), (.conv .u64 (.tmp 25)), none⟩,
    .op ⟨(some 27), (.bin .shl (.tmp 26) (.av (.int .u64 8))), none⟩,
    .op ⟨(some 28), (.bin .or (.tmp 23) (.tmp 27)), none⟩,
    .op ⟨(some 29), (.mv (.tmp 0)), none⟩,
    .op ⟨(some 30), (.idxS (.tmp 29) (.av (.int .i64 2))), none⟩,
    .op ⟨(some 31), (.conv .u64 (.tmp 30)), none⟩,
    .op ⟨(some 32), (.bin .shl (.tmp 31) (.av (.int .u64 16))), none⟩,
    .op ⟨(some 33), (.bin .or (.tmp 28) (.tmp 32)), none⟩,
    .op ⟨(some 34), (.mv (.tmp 0)), none⟩,
    .op ⟨(some 35), (.idxS (.tmp 34) (.av (.int .i64 3))), none⟩,
    .op ⟨(some 36), (.conv .u64 (.tmp 35)), none⟩,
    .op ⟨(some 37), (.bin .shl (.tmp 36) (.av (.int .u64 24))), none⟩,
    .op ⟨(some 38), (.bin .or (.tmp 33) (.tmp 37)), none⟩,
    .op ⟨(some 39), (.mv (.tmp 0)), none⟩,
    .op ⟨(some 40), (.idxS (.tmp 39) (.av (.int .i64 4))), none⟩,
    .op ⟨(some 41), (.conv .u64 (.tmp 40)), none⟩,
    .op ⟨(some 42), (.bin .shl (.tmp 41) (.av (.int .u64 32))), none⟩,
    .op ⟨(some 43), (.bin .or (.tmp 38) (.tmp 42)), none⟩,
    .op ⟨(some 44), (.mv (.tmp 0)), none⟩,
    .op ⟨(some 45), (.idxS (.tmp 44) (.av (.int .i64 5))), none⟩,
    .op ⟨(some 46), (.conv .u64 (.tmp 45)), none⟩,
    .op ⟨(some 47), (.bin .shl (.tmp 46) (.av (.int .u64 40))), none⟩,
    .op ⟨(some 48), (.bin .or (.tmp 43) (.tmp 47)), none⟩,
    .op ⟨(some 49), (.mv (.tmp 0)), none⟩,
    .op ⟨(some 50), (.idxS (.tmp 49) (.av (.int .i64 6))), none⟩,
    .op ⟨(some 51), (.conv .u64 (.tmp 50)), none⟩,
    .op ⟨(some 52), (.bin .shl (.tmp 51) (.av (.int .u64 48))), none⟩,
    .op ⟨(some 53), (.bin .or (.tmp 48) (.tmp 52)), none⟩,
    .op ⟨(some 54), (.mv (.tmp 0)), none⟩,
    .op ⟨(some 55), (.idxS (.tmp 54) (.av (.int .i64 7))), none⟩,
    .op ⟨(some 56), (.conv .u64 (.tmp 55)), none⟩,
    .op ⟨(some 57), (.bin .shl (.tmp 56) (.av (.int .u64 56))), none⟩,
    .op ⟨(some 58), (.bin .or (.tmp 53) (.tmp 57)), none⟩,
    .op ⟨(some 2), (.mv (.tmp 58)), none⟩]
def c_f147 : LFun := ⟨59, (.seq (.sreg r_f147_0 [])
  (.seq (.cond (.av (.bool false)) (.seq (.sdreg r_f147_1 [.pure, (.read 0 0), .pure, .pure, (.read 0 0), .pure, .pure, .pure, .pure, (.read 0 0), .pure, .pure, .pure, .pure, (.read 0 0), .pure, .pure] [true, false, false, false, false, false, false, false, false, false, false, false, false, false, false, false, false, false, false])
  .ret)
  .skip)
  (.seq (.sdreg r_f147_2 [.pure, (.read 0 0), .pure, .pure, (.read 0 0), .pure, .pure, .pure, .pure, (.read 0 0), .pure, .pure, .pure, .pure, (.read 0 0), .pure, .pure, .pure, .pure, (.read 0 0), .pure, .pure, .pure, .pure, (.read 0 0), .pure, .pure, .pure, .pure, (.read 0 0), .pure, .pure, .pure, .pure, (.read 0 0), .pure, .pure] [true, false, false, false, false, false, false, false, false, false, false, false, false, false, false, false, false, false, false, false, false, false, false, false, false, false, false, false, false, false, false, false, false, false, false, false, false, false, false])
  .ret))), [(.tmp 2)]⟩
def o_f147 : Nat → Nat → Nat := fun _ _ => 1
theorem c_f147_eq : lowF Tryz.prog o_f147 147 = some c_f147.raw := by kernel_rfl
theorem c_f147_ok : c_f147.code.okc = true := by kernel_rfl
/-! strings.indexFunc -/
def r_f148_0 : List SOp :=
   [.op ⟨(some 6), (.mv (.av (.int .i64 0))), none⟩]
def r_f148_1 : List SOp :=
   [.op ⟨(some 9), (.mv (.tmp 0)), none⟩,
    .op ⟨(some 10), (.rangeS (.tmp 9)), none⟩]
def r_f148_2 : List SOp :=
   [.op ⟨(some 11), (.nextS (.tmp 10)), none⟩,
    .op ⟨(some 12), (.extract (.tmp 11) 0), none⟩]
def r_f148_3 : List SOp :=
   [.op ⟨(some 13), (.extract (.tmp 11) 1), none⟩,
    .op ⟨(some 14), (.extract (.tmp 11) 2), none⟩,
    .op ⟨(some 7), (.mv (.tmp 13)), none⟩,
    .op ⟨(some 8), (.mv (.tmp 14)), none⟩]
def r_f148_4 : List SOp :=
   [.op ⟨(some 15), (.mv (.tmp 1)), none⟩,
    .op ⟨(some 16), (.mv (.tmp 8)), none⟩,
    .op ⟨(some 17), (.callv (.tmp 15) [(.tmp 16)]), none⟩,
    .op ⟨(some 18), (.mv (.tmp 2)), none⟩,
    .op ⟨(some 19), (.eqk false .bool (.tmp 17) (.tmp 18)), none⟩]
def r_f148_5 : List SOp :=
   [.op ⟨(some 20), (.mv (.tmp 7)), none⟩,
    .op ⟨(some 6), (.mv (.tmp 20)), none⟩]
def r_f148_6 : List SOp :=
   [.op ⟨(some 6), (.mv (.av (.int .i64 (-1)))), none⟩]
def c_f148 : LFun := ⟨21, (.seq (.sreg r_f148_0 [])
  (.seq (.seq (.sreg r_f148_1 [true, false])
  (.block 0 (.loop (.seq (.sreg r_f148_2 [])
  (.seq (.cond (.tmp 12) .skip
  (.exit 0))
  (.block 1 (.seq (.sreg r_f148_3 [true, true, false, false])
  (.seq (.sreg r_f148_4 [true, false, false, false, false])
  (.cond (.tmp 19) (.seq (.sreg r_f148_5 [true, false])
  .ret)
  .skip)))))))))
  (.seq (.sreg r_f148_6 [])
  .ret))), [(.tmp 6)]⟩
def o_f148 : Nat → Nat → Nat := fun _ _ => 1
theorem c_f148_eq : lowF Tryz.prog o_f148 148 = some c_f148.raw := by kernel_rfl
theorem c_f148_ok : c_f148.code.okc = true := by kernel_rfl
/-! strconv.ParseInt -/
def r_f149_0 : List SOp :=
   [.op ⟨(some 6), (.mv (.av (.int .i64 0))), none⟩,
    .op ⟨(some 7), (.mv (.av .nilif)), none⟩]
def r_f149_1 : List SOp :=
   [.op ⟨(some 10), (.mv (.tmp 0)), none⟩,
    .op ⟨(some 11), (.mv (.tmp 1)), none⟩,
    .op ⟨(some 12), (.mv (.tmp 2)), none⟩,
    .op ⟨(some 13), (.call 205 [(.tmp 10), (.tmp 11), (.tmp 12)]), none⟩,
    .op ⟨(some 9), (.mv (.tmp 13)), none⟩,
    .op ⟨(some 14), (.extract (.tmp 9) 0), none⟩,
    .op ⟨(some 15), (.extract (.tmp 9) 1), none⟩,
    .op ⟨(some 8), (.mv (.tmp 14)), none⟩,
    .op ⟨(some 7), (.mv (.tmp 15)), none⟩]
def r_f149_2 : List SOp :=
   [.op ⟨(some 16), (.mv (.tmp 7)), none⟩,
    .op ⟨(some 17), (.eqk true .iface (.tmp 16) (.av .nilif)), none⟩]
def r_f149_3 : List SOp :=
   [.op ⟨(some 18), (.mv (.tmp 8)), none⟩,
    .op ⟨(some 19), (.mv (.tmp 0)), none⟩,
    .op ⟨(some 20), (.mv (.tmp 1)), none⟩,
    .op ⟨(some 21), (.mv (.tmp 2)), none⟩,
    .op ⟨(some 22), (.mv (.tmp 7)), none⟩,
    .op ⟨(some 23), (.call 206 [(.av (.str [80, 97, 114, 115, 101, 73, 110, 116])), (.tmp 19), (.tmp 20), (.tmp 21), (.tmp 22)]), none⟩,
    .op ⟨(some 6), (.mv (.tmp 18)), none⟩,
    .op ⟨(some 7), (.mv (.tmp 23)), none⟩]
def r_f149_4 : List SOp :=
   [.op ⟨(some 24), (.mv (.tmp 8)), none⟩,
    .op ⟨(some 6), (.mv (.tmp 24)), none⟩,
    .op ⟨(some 7), (.mv (.av .nilif)), none⟩]
def c_f149 : LFun := ⟨25, (.seq (.sreg r_f149_0 [])
  (.seq (.sreg r_f149_1 [true, true, false, false, false, false, false, false, false])
  (.seq (.seq (.sreg r_f149_2 [true, false])
  (.cond (.tmp 17) (.seq (.sreg r_f149_3 [true, true, false, false, false, false, false, false])
  .ret)
  .skip))
  (.seq (.sreg r_f149_4 [true, true, false])
  .ret)))), [(.tmp 6), (.tmp 7)]⟩
def o_f149 : Nat → Nat → Nat := fun _ _ => 1
theorem c_f149_eq : lowF Tryz.prog o_f149 149 = some c_f149.raw := by kernel_rfl
theorem c_f149_ok : c_f149.code.okc = true := by kernel_rfl
/-! strconv.FormatInt -/
def r_f150_0 : List SOp :=
   [.op ⟨(some 4), (.mv (.av (.str []))), none⟩]
def r_f150_1 : List SOp :=
   [.op ⟨(some 5), (.mv (.tmp 0)), none⟩,
    .op ⟨(some 6), (.mv (.tmp 1)), none⟩,
    .op ⟨(some 7), (.call 207 [(.tmp 5), (.tmp 6)]), none⟩,
    .op ⟨(some 4), (.mv (.tmp 7)), none⟩]
def c_f150 : LFun := ⟨8, (.seq (.sreg r_f150_0 [])
  (.seq (.sreg r_f150_1 [true, false, false, false])
  .ret)), [(.tmp 4)]⟩
def o_f150 : Nat → Nat → Nat := fun _ _ => 1
theorem c_f150_eq : lowF Tryz.prog o_f150 150 = some c_f150.raw := by kernel_rfl
theorem c_f150_ok : c_f150.code.okc = true := by kernel_rfl

end Go.Proofs.YtkmfnbhdjijlnaaGreatDoor.Av
