/- Bodies of functions, lowered: printed by a program (wip/tools/lowx.py); each is held against the program by the kernel. -/
import Derived.Test.YtpednpndahgleaaGreatDoorExE
import Derived.Test.YtpednpndahgleaaGreatDoorRows
import Derived.KernelRfl
set_option maxRecDepth 100000
set_option linter.unusedSimpArgs false
set_option linter.unusedVariables false
namespace Go.Proofs.YtpednpndahgleaaGreatDoor.Av
open Go

/-! castellan/castellanlaw20.awake -/
def r_f20_0 : List SOp :=
   [.op ⟨(some 0), (.mv (.av (.bool false))), none⟩]
def r_f20_1 : List SOp :=
   [.op ⟨(some 16), (.call 43 []), none⟩,
    .op ⟨(some 17), (.bslice false 1 1 [(.str [])] [(0, 1, (.av (.str [99, 110])))]), none⟩,
    .op ⟨(some 18), (.call 42 [(.tmp 16), (.tmp 17)]), none⟩,
    .op ⟨(some 15), (.mv (.tmp 18)), none⟩,
    .op ⟨(some 19), (.extract (.tmp 15) 0), none⟩,
    .op ⟨(some 20), (.extract (.tmp 15) 1), none⟩,
    .op ⟨(some 1), (.mv (.tmp 19)), none⟩,
    .op ⟨(some 2), (.mv (.tmp 20)), none⟩]
def r_f20_2 : List SOp :=
   [.op ⟨(some 21), (.mv (.tmp 2)), none⟩,
    .op ⟨(some 22), (.bin .neq (.tmp 21) (.av (.int .i64 0))), none⟩,
    .op ⟨(some 23), (.mv (.tmp 22)), none⟩,
    .grp none 23 false
      [.op ⟨(some 24), (.mv (.tmp 1)), (some (23, false))⟩,
      .op ⟨(some 25), (.eqk false .ptr (.tmp 24) (.av .nilptr)), (some (23, false))⟩]
      26 (.tmp 25)]
def r_f20_3 : List SOp :=
   [.op ⟨(some 0), (.mv (.av (.bool false))), none⟩]
def r_f20_4 : List SOp :=
   [.op ⟨(some 27), (.mv (.tmp 1)), none⟩,
    .op ⟨(some 28), (.bslice false 1 1 [(.str [])] [(0, 1, (.av (.str [97])))]), none⟩,
    .op ⟨(some 29), (.build [(.str []), (.sl [] 0 (some 0))] [(0, 1, (.av (.str [99, 110]))), (1, 1, (.tmp 28))]), none⟩,
    .op ⟨(some 30), (.bslice false 2 1 [(.str []), (.sl [] 0 (some 0))] [(0, 2, (.tmp 29))]), none⟩,
    .op ⟨(some 31), (.call 11 [(.tmp 27), (.av (.int .i64 4)), (.tmp 30)]), none⟩]
def r_f20_5 : List SOp :=
   [.op ⟨(some 33), (.call 52 [(.av (.str [40, 38, 40, 99, 110, 61, 97, 41, 40, 115, 110, 62, 61, 98, 41, 41]))]), none⟩,
    .op ⟨(some 32), (.mv (.tmp 33)), none⟩,
    .op ⟨(some 34), (.extract (.tmp 32) 0), none⟩,
    .op ⟨(some 35), (.extract (.tmp 32) 1), none⟩,
    .op ⟨(some 3), (.alloc [(.int .i64 0), (.str []), (.str []), (.sl [] 0 (some 0)), (.sl [] 0 (some 0))]), none⟩,
    .op ⟨none, (.store 5 (.tmp 3) (.tmp 34)), none⟩,
    .op ⟨(some 4), (.mv (.tmp 35)), none⟩]
def r_f20_6 : List SOp :=
   [.op ⟨(some 37), (.call 52 [(.av (.str [40, 124, 40, 99, 110, 61, 97, 41, 40, 115, 110, 61, 98, 41, 41]))]), none⟩,
    .op ⟨(some 36), (.mv (.tmp 37)), none⟩,
    .op ⟨(some 38), (.extract (.tmp 36) 0), none⟩,
    .op ⟨(some 39), (.extract (.tmp 36) 1), none⟩,
    .op ⟨(some 5), (.alloc [(.int .i64 0), (.str []), (.str []), (.sl [] 0 (some 0)), (.sl [] 0 (some 0))]), none⟩,
    .op ⟨none, (.store 5 (.tmp 5) (.tmp 38)), none⟩,
    .op ⟨(some 6), (.mv (.tmp 39)), none⟩]
def r_f20_7 : List SOp :=
   [.op ⟨(some 41), (.call 52 [(.av (.str [40, 124, 41]))]), none⟩,
    .op ⟨(some 40), (.mv (.tmp 41)), none⟩,
    .op ⟨(some 42), (.extract (.tmp 40) 0), none⟩,
    .op ⟨(some 43), (.extract (.tmp 40) 1), none⟩,
    .op ⟨(some 7), (.alloc [(.int .i64 0), (.str []), (.str []), (.sl [] 0 (some 0)), (.sl [] 0 (some 0))]), none⟩,
    .op ⟨none, (.store 5 (.tmp 7) (.tmp 42)), none⟩,
    .op ⟨(some 8), (.mv (.tmp 43)), none⟩]
def r_f20_8 : List SOp :=
   [.op ⟨(some 45), (.mv (.tmp 1)), none⟩,
    .op ⟨(some 46), (.load true 5 (.tmp 3)), none⟩,
    .op ⟨(some 47), (.call 53 [(.tmp 45), (.tmp 46), (.av (.int .i64 9))]), none⟩,
    .op ⟨(some 44), (.mv (.tmp 47)), none⟩,
    .op ⟨(some 48), (.extract (.tmp 44) 0), none⟩,
    .op ⟨(some 49), (.extract (.tmp 44) 1), none⟩,
    .op ⟨(some 9), (.mv (.tmp 48)), none⟩,
    .op ⟨(some 10), (.mv (.tmp 49)), none⟩]
def r_f20_9 : List SOp :=
   [.op ⟨(some 51), (.mv (.tmp 1)), none⟩,
    .op ⟨(some 52), (.load true 5 (.tmp 5)), none⟩,
    .op ⟨(some 53), (.call 53 [(.tmp 51), (.tmp 52), (.av (.int .i64 9))]), none⟩,
    .op ⟨(some 50), (.mv (.tmp 53)), none⟩,
    .op ⟨(some 54), (.extract (.tmp 50) 0), none⟩,
    .op ⟨(some 55), (.extract (.tmp 50) 1), none⟩,
    .op ⟨(some 11), (.mv (.tmp 54)), none⟩,
    .op ⟨(some 12), (.mv (.tmp 55)), none⟩]
def r_f20_10 : List SOp :=
   [.op ⟨(some 57), (.mv (.tmp 1)), none⟩,
    .op ⟨(some 58), (.load true 5 (.tmp 7)), none⟩,
    .op ⟨(some 59), (.call 53 [(.tmp 57), (.tmp 58), (.av (.int .i64 9))]), none⟩,
    .op ⟨(some 56), (.mv (.tmp 59)), none⟩,
    .op ⟨(some 60), (.extract (.tmp 56) 0), none⟩,
    .op ⟨(some 61), (.extract (.tmp 56) 1), none⟩,
    .op ⟨(some 13), (.mv (.tmp 60)), none⟩,
    .op ⟨(some 14), (.mv (.tmp 61)), none⟩]
def r_f20_11 : List SOp :=
   [.op ⟨(some 62), (.mv (.tmp 10)), none⟩,
    .op ⟨(some 63), (.mv (.tmp 62)), none⟩,
    .grp none 63 true
      [.op ⟨(some 64), (.mv (.tmp 9)), (some (63, true))⟩,
      .op ⟨(some 65), (.len false (.tmp 64)), (some (63, true))⟩,
      .op ⟨(some 66), (.bin .eql (.tmp 65) (.av (.int .i64 1))), (some (63, true))⟩]
      67 (.tmp 66),
    .op ⟨(some 68), (.mv (.tmp 67)), none⟩,
    .grp none 68 true
      [.op ⟨(some 69), (.mv (.tmp 9)), (some (68, true))⟩,
      .op ⟨(some 70), (.iaddr 1 (.tmp 69) (.av (.int .i64 0))), (some (68, true))⟩,
      .op ⟨(some 71), (.load false 1 (.tmp 70)), (some (68, true))⟩,
      .op ⟨(some 72), (.bin .eql (.tmp 71) (.av (.int .i64 4))), (some (68, true))⟩]
      73 (.tmp 72),
    .op ⟨(some 74), (.mv (.tmp 73)), none⟩,
    .grp none 74 true
      [.op ⟨(some 75), (.mv (.tmp 12)), (some (74, true))⟩,
      .op ⟨(some 76), (.un .not (.tmp 75)), (some (74, true))⟩]
      77 (.tmp 76),
    .op ⟨(some 78), (.mv (.tmp 77)), none⟩,
    .grp none 78 true
      [.op ⟨(some 79), (.mv (.tmp 14)), (some (78, true))⟩]
      80 (.tmp 79),
    .op ⟨(some 81), (.mv (.tmp 80)), none⟩,
    .grp none 81 true
      [.op ⟨(some 82), (.mv (.tmp 13)), (some (81, true))⟩,
      .op ⟨(some 83), (.len false (.tmp 82)), (some (81, true))⟩,
      .op ⟨(some 84), (.bin .eql (.tmp 83) (.av (.int .i64 0))), (some (81, true))⟩]
      85 (.tmp 84),
    .op ⟨(some 0), (.mv (.tmp 85)), none⟩]
def c_f20 : LFun := ⟨86, (.seq (.sreg r_f20_0 [])
  (.seq (.sreg r_f20_1 [true, true, false, false, false, false, false, false])
  (.seq (.seq (.sreg r_f20_2 [true, false, false, false])
  (.cond (.tmp 26) (.seq (.sreg r_f20_3 [])
  .ret)
  .skip))
  (.seq (.sreg r_f20_4 [false, false, false, false, false])
  (.seq (.sreg r_f20_5 [false, true, false, false, false, false])
  (.seq (.sreg r_f20_6 [false, true, false, false, false, false])
  (.seq (.sreg r_f20_7 [false, true, false, false, false, false])
  (.seq (.sreg r_f20_8 [true, true, false, false, false, false, false, false])
  (.seq (.sreg r_f20_9 [true, false, false, false, false, false, false, false])
  (.seq (.sreg r_f20_10 [true, true, false, false, false, false, false, false])
  (.seq (.sreg r_f20_11 [true, false, false, false, false, false, false, false, false, false, false, false])
  .ret))))))))))), [(.tmp 0)]⟩
def o_f20 : Nat → Nat → Nat := fun _ _ => 1
theorem c_f20_eq : lowF Tryz.prog o_f20 20 = some c_f20.raw := by kernel_rfl
theorem c_f20_ok : c_f20.code.okc = true := by kernel_rfl
/-! castellan/castellanref13.Core -/
def r_f43_0 : List SOp :=
   [.op ⟨(some 0), (.alloc [(.sl [] 0 (some 0)), (.sl [] 0 (some 0))]), none⟩]
def r_f43_1 : List SOp :=
   [.op ⟨(some 1), (.alloc [(.sl [] 0 (some 0)), (.sl [] 0 (some 0))]), none⟩]
def r_f43_2 : List SOp :=
   [.op ⟨(some 5), (.faddr 0 (.tmp 1)), none⟩,
    .op ⟨(some 6), (.load false 1 (.tmp 5)), none⟩,
    .op ⟨(some 7), (.bslice false 1 1 [(.str [])] [(0, 1, (.av (.str [111, 98, 106, 101, 99, 116, 67, 108, 97, 115, 115])))]), none⟩,
    .op ⟨(some 8), (.call 79 [(.tmp 6), (.av (.int .i64 3)), (.tmp 7)]), none⟩,
    .op ⟨(some 9), (.faddr 0 (.tmp 1)), none⟩,
    .op ⟨none, (.store 1 (.tmp 9) (.tmp 8)), none⟩]
def r_f43_3 : List SOp :=
   [.op ⟨(some 10), (.faddr 0 (.tmp 1)), none⟩,
    .op ⟨(some 11), (.load false 1 (.tmp 10)), none⟩,
    .op ⟨(some 12), (.bslice false 1 4 [(.str []), (.str []), (.str []), (.str [])] [(0, 1, (.av (.str [99, 110]))), (1, 1, (.av (.str [115, 110]))), (2, 1, (.av (.str [111, 117]))), (3, 1, (.av (.str [111])))]), none⟩,
    .op ⟨(some 13), (.call 79 [(.tmp 11), (.av (.int .i64 1)), (.tmp 12)]), none⟩,
    .op ⟨(some 14), (.faddr 0 (.tmp 1)), none⟩,
    .op ⟨none, (.store 1 (.tmp 14) (.tmp 13)), none⟩]
def r_f43_4 : List SOp :=
   [.op ⟨(some 15), (.faddr 0 (.tmp 1)), none⟩,
    .op ⟨(some 16), (.load false 1 (.tmp 15)), none⟩,
    .op ⟨(some 17), (.bslice false 1 3 [(.str []), (.str []), (.str [])] [(0, 1, (.av (.str [100, 99]))), (1, 1, (.av (.str [117, 105, 100]))), (2, 1, (.av (.str [109, 97, 105, 108])))]), none⟩,
    .op ⟨(some 18), (.call 79 [(.tmp 16), (.av (.int .i64 3)), (.tmp 17)]), none⟩,
    .op ⟨(some 19), (.faddr 0 (.tmp 1)), none⟩,
    .op ⟨none, (.store 1 (.tmp 19) (.tmp 18)), none⟩]
def r_f43_5 : List SOp :=
   [.op ⟨(some 20), (.faddr 0 (.tmp 1)), none⟩,
    .op ⟨(some 21), (.load false 1 (.tmp 20)), none⟩,
    .op ⟨(some 22), (.bslice false 1 1 [(.str [])] [(0, 1, (.av (.str [100, 101, 115, 99, 114, 105, 112, 116, 105, 111, 110])))]), none⟩,
    .op ⟨(some 23), (.call 79 [(.tmp 21), (.av (.int .i64 1)), (.tmp 22)]), none⟩,
    .op ⟨(some 24), (.faddr 0 (.tmp 1)), none⟩,
    .op ⟨none, (.store 1 (.tmp 24) (.tmp 23)), none⟩]
def r_f43_6 : List SOp :=
   [.op ⟨(some 25), (.faddr 0 (.tmp 1)), none⟩,
    .op ⟨(some 26), (.load false 1 (.tmp 25)), none⟩,
    .op ⟨(some 27), (.bslice false 1 1 [(.str [])] [(0, 1, (.av (.str [109, 101, 109, 98, 101, 114])))]), none⟩,
    .op ⟨(some 28), (.call 79 [(.tmp 26), (.av (.int .i64 6)), (.tmp 27)]), none⟩,
    .op ⟨(some 29), (.faddr 0 (.tmp 1)), none⟩,
    .op ⟨none, (.store 1 (.tmp 29) (.tmp 28)), none⟩]
def r_f43_7 : List SOp :=
   [.op ⟨(some 30), (.faddr 0 (.tmp 1)), none⟩,
    .op ⟨(some 31), (.load false 1 (.tmp 30)), none⟩,
    .op ⟨(some 32), (.bslice false 1 1 [(.str [])] [(0, 1, (.av (.str [117, 115, 101, 114, 80, 97, 115, 115, 119, 111, 114, 100])))]), none⟩,
    .op ⟨(some 33), (.call 79 [(.tmp 31), (.av (.int .i64 7)), (.tmp 32)]), none⟩,
    .op ⟨(some 34), (.faddr 0 (.tmp 1)), none⟩,
    .op ⟨none, (.store 1 (.tmp 34) (.tmp 33)), none⟩]
def r_f43_8 : List SOp :=
   [.op ⟨(some 35), (.faddr 0 (.tmp 1)), none⟩,
    .op ⟨(some 36), (.load false 1 (.tmp 35)), none⟩,
    .op ⟨(some 37), (.build [(.str []), (.int .i64 0), (.bool false), (.bool false)] [(0, 1, (.av (.str [101, 109, 112, 108, 111, 121, 101, 101, 78, 117, 109, 98, 101, 114]))), (1, 1, (.av (.int .i64 4))), (2, 1, (.av (.bool true)))]), none⟩,
    .op ⟨(some 38), (.bslice false 4 1 [(.str []), (.int .i64 0), (.bool false), (.bool false)] [(0, 4, (.tmp 37))]), none⟩,
    .op ⟨(some 39), (.app 1 4 32 [(.str []), (.int .i64 0), (.bool false), (.bool false)] (.tmp 36) (.tmp 38)), none⟩,
    .op ⟨(some 40), (.faddr 0 (.tmp 1)), none⟩,
    .op ⟨none, (.store 1 (.tmp 40) (.tmp 39)), none⟩]
def r_f43_9 : List SOp :=
   [.op ⟨(some 41), (.faddr 0 (.tmp 1)), none⟩,
    .op ⟨(some 42), (.load false 1 (.tmp 41)), none⟩,
    .op ⟨(some 43), (.build [(.str []), (.int .i64 0), (.bool false), (.bool false)] [(0, 1, (.av (.str [97, 99, 116, 105, 118, 101]))), (1, 1, (.av (.int .i64 5))), (2, 1, (.av (.bool true)))]), none⟩,
    .op ⟨(some 44), (.bslice false 4 1 [(.str []), (.int .i64 0), (.bool false), (.bool false)] [(0, 4, (.tmp 43))]), none⟩,
    .op ⟨(some 45), (.app 1 4 32 [(.str []), (.int .i64 0), (.bool false), (.bool false)] (.tmp 42) (.tmp 44)), none⟩,
    .op ⟨(some 46), (.faddr 0 (.tmp 1)), none⟩,
    .op ⟨none, (.store 1 (.tmp 46) (.tmp 45)), none⟩]
def r_f43_10 : List SOp :=
   [.op ⟨(some 47), (.bslice false 1 5 [(.str []), (.str []), (.str []), (.str []), (.str [])] [(0, 1, (.av (.str [99, 114, 101, 97, 116, 101, 100, 65, 116]))), (1, 1, (.av (.str [99, 104, 97, 110, 103, 101, 100, 65, 116]))), (2, 1, (.av (.str [112, 119, 100, 70, 97, 105, 108, 117, 114, 101]))), (3, 1, (.av (.str [112, 119, 100, 76, 111, 99, 107, 101, 100]))), (4, 1, (.av (.str [112, 119, 100, 67, 104, 97, 110, 103, 101, 100])))]), none⟩,
    .op ⟨(some 48), (.len false (.tmp 47)), none⟩,
    .op ⟨(some 49), (.mv (.av (.int .i64 0))), none⟩]
def r_f43_11 : List SOp :=
   [.op ⟨(some 50), (.bin .lss (.tmp 49) (.tmp 48)), none⟩]
def r_f43_12 : List SOp :=
   [.op ⟨(some 51), (.iaddr 1 (.tmp 47) (.tmp 49)), none⟩,
    .op ⟨(some 52), (.load false 1 (.tmp 51)), none⟩,
    .op ⟨(some 3), (.mv (.tmp 52)), none⟩]
def r_f43_13 : List SOp :=
   [.op ⟨(some 53), (.mv (.tmp 3)), none⟩,
    .op ⟨(some 54), (.build [(.str []), (.int .i64 0), (.bool false), (.bool false)] [(0, 1, (.tmp 53)), (1, 1, (.av (.int .i64 4))), (2, 1, (.av (.bool true))), (3, 1, (.av (.bool true)))]), none⟩,
    .op ⟨(some 4), (.alloc [(.str []), (.int .i64 0), (.bool false), (.bool false)]), none⟩,
    .op ⟨none, (.store 4 (.tmp 4) (.tmp 54)), none⟩]
def r_f43_14 : List SOp :=
   [.op ⟨(some 55), (.mv (.tmp 3)), none⟩,
    .op ⟨(some 56), (.bin .eql (.tmp 55) (.av (.str [112, 119, 100, 70, 97, 105, 108, 117, 114, 101]))), none⟩]
def r_f43_15 : List SOp :=
   [.op ⟨(some 57), (.faddr 1 (.tmp 4)), none⟩,
    .op ⟨none, (.store 1 (.tmp 57) (.av (.int .i64 3))), none⟩]
def r_f43_16 : List SOp :=
   [.op ⟨(some 58), (.faddr 2 (.tmp 4)), none⟩,
    .op ⟨none, (.store 1 (.tmp 58) (.av (.bool false))), none⟩]
def r_f43_17 : List SOp :=
   [.op ⟨(some 59), (.faddr 0 (.tmp 1)), none⟩,
    .op ⟨(some 60), (.load false 1 (.tmp 59)), none⟩,
    .op ⟨(some 61), (.load true 4 (.tmp 4)), none⟩,
    .op ⟨(some 62), (.bslice false 4 1 [(.str []), (.int .i64 0), (.bool false), (.bool false)] [(0, 4, (.tmp 61))]), none⟩,
    .op ⟨(some 63), (.app 1 4 32 [(.str []), (.int .i64 0), (.bool false), (.bool false)] (.tmp 60) (.tmp 62)), none⟩,
    .op ⟨(some 64), (.faddr 0 (.tmp 1)), none⟩,
    .op ⟨none, (.store 1 (.tmp 64) (.tmp 63)), none⟩]
def r_f43_18 : List SOp :=
   [.op ⟨(some 65), (.bin .add (.tmp 49) (.av (.int .i64 1))), none⟩,
    .op ⟨(some 49), (.mv (.tmp 65)), none⟩]
def r_f43_19 : List SOp :=
   [.op ⟨(some 66), (.faddr 1 (.tmp 1)), none⟩,
    .op ⟨(some 67), (.load false 1 (.tmp 66)), none⟩,
    .op ⟨(some 68), (.bslice false 1 1 [(.str [])] [(0, 1, (.av (.str [111, 98, 106, 101, 99, 116, 67, 108, 97, 115, 115])))]), none⟩,
    .op ⟨(some 69), (.bslice false 1 5 [(.str []), (.str []), (.str []), (.str []), (.str [])] [(0, 1, (.av (.str [99, 114, 101, 97, 116, 101, 100, 65, 116]))), (1, 1, (.av (.str [99, 104, 97, 110, 103, 101, 100, 65, 116]))), (2, 1, (.av (.str [112, 119, 100, 70, 97, 105, 108, 117, 114, 101]))), (3, 1, (.av (.str [112, 119, 100, 76, 111, 99, 107, 101, 100]))), (4, 1, (.av (.str [112, 119, 100, 67, 104, 97, 110, 103, 101, 100])))]), none⟩,
    .op ⟨(some 70), (.build [(.str []), (.str []), (.int .i64 0), (.sl [] 0 (some 0)), (.sl [] 0 (some 0))] [(0, 1, (.av (.str [116, 111, 112]))), (3, 1, (.tmp 68)), (4, 1, (.tmp 69))]), none⟩,
    .op ⟨(some 71), (.bslice false 5 1 [(.str []), (.str []), (.int .i64 0), (.sl [] 0 (some 0)), (.sl [] 0 (some 0))] [(0, 5, (.tmp 70))]), none⟩,
    .op ⟨(some 72), (.app 1 5 88 [(.str []), (.str []), (.int .i64 0), (.sl [] 0 (some 0)), (.sl [] 0 (some 0))] (.tmp 67) (.tmp 71)), none⟩,
    .op ⟨(some 73), (.faddr 1 (.tmp 1)), none⟩,
    .op ⟨none, (.store 1 (.tmp 73) (.tmp 72)), none⟩]
def r_f43_20 : List SOp :=
   [.op ⟨(some 74), (.faddr 1 (.tmp 1)), none⟩,
    .op ⟨(some 75), (.load false 1 (.tmp 74)), none⟩,
    .op ⟨(some 76), (.bslice false 1 1 [(.str [])] [(0, 1, (.av (.str [100, 99])))]), none⟩,
    .op ⟨(some 77), (.bslice false 1 1 [(.str [])] [(0, 1, (.av (.str [100, 101, 115, 99, 114, 105, 112, 116, 105, 111, 110])))]), none⟩,
    .op ⟨(some 78), (.build [(.str []), (.str []), (.int .i64 0), (.sl [] 0 (some 0)), (.sl [] 0 (some 0))] [(0, 1, (.av (.str [100, 111, 109, 97, 105, 110]))), (1, 1, (.av (.str [116, 111, 112]))), (2, 1, (.av (.int .i64 1))), (3, 1, (.tmp 76)), (4, 1, (.tmp 77))]), none⟩,
    .op ⟨(some 79), (.bslice false 5 1 [(.str []), (.str []), (.int .i64 0), (.sl [] 0 (some 0)), (.sl [] 0 (some 0))] [(0, 5, (.tmp 78))]), none⟩,
    .op ⟨(some 80), (.app 1 5 88 [(.str []), (.str []), (.int .i64 0), (.sl [] 0 (some 0)), (.sl [] 0 (some 0))] (.tmp 75) (.tmp 79)), none⟩,
    .op ⟨(some 81), (.faddr 1 (.tmp 1)), none⟩,
    .op ⟨none, (.store 1 (.tmp 81) (.tmp 80)), none⟩]
def r_f43_21 : List SOp :=
   [.op ⟨(some 82), (.faddr 1 (.tmp 1)), none⟩,
    .op ⟨(some 83), (.load false 1 (.tmp 82)), none⟩,
    .op ⟨(some 84), (.bslice false 1 1 [(.str [])] [(0, 1, (.av (.str [111])))]), none⟩,
    .op ⟨(some 85), (.bslice false 1 1 [(.str [])] [(0, 1, (.av (.str [100, 101, 115, 99, 114, 105, 112, 116, 105, 111, 110])))]), none⟩,
    .op ⟨(some 86), (.build [(.str []), (.str []), (.int .i64 0), (.sl [] 0 (some 0)), (.sl [] 0 (some 0))] [(0, 1, (.av (.str [111, 114, 103, 97, 110, 105, 122, 97, 116, 105, 111, 110]))), (1, 1, (.av (.str [116, 111, 112]))), (2, 1, (.av (.int .i64 1))), (3, 1, (.tmp 84)), (4, 1, (.tmp 85))]), none⟩,
    .op ⟨(some 87), (.bslice false 5 1 [(.str []), (.str []), (.int .i64 0), (.sl [] 0 (some 0)), (.sl [] 0 (some 0))] [(0, 5, (.tmp 86))]), none⟩,
    .op ⟨(some 88), (.app 1 5 88 [(.str []), (.str []), (.int .i64 0), (.sl [] 0 (some 0)), (.sl [] 0 (some 0))] (.tmp 83) (.tmp 87)), none⟩,
    .op ⟨(some 89), (.faddr 1 (.tmp 1)), none⟩,
    .op ⟨none, (.store 1 (.tmp 89) (.tmp 88)), none⟩]
def r_f43_22 : List SOp :=
   [.op ⟨(some 90), (.faddr 1 (.tmp 1)), none⟩,
    .op ⟨(some 91), (.load false 1 (.tmp 90)), none⟩,
    .op ⟨(some 92), (.bslice false 1 1 [(.str [])] [(0, 1, (.av (.str [111, 117])))]), none⟩,
    .op ⟨(some 93), (.bslice false 1 1 [(.str [])] [(0, 1, (.av (.str [100, 101, 115, 99, 114, 105, 112, 116, 105, 111, 110])))]), none⟩,
    .op ⟨(some 94), (.build [(.str []), (.str []), (.int .i64 0), (.sl [] 0 (some 0)), (.sl [] 0 (some 0))] [(0, 1, (.av (.str [111, 114, 103, 97, 110, 105, 122, 97, 116, 105, 111, 110, 97, 108, 85, 110, 105, 116]))), (1, 1, (.av (.str [116, 111, 112]))), (2, 1, (.av (.int .i64 1))), (3, 1, (.tmp 92)), (4, 1, (.tmp 93))]), none⟩,
    .op ⟨(some 95), (.bslice false 5 1 [(.str []), (.str []), (.int .i64 0), (.sl [] 0 (some 0)), (.sl [] 0 (some 0))] [(0, 5, (.tmp 94))]), none⟩,
    .op ⟨(some 96), (.app 1 5 88 [(.str []), (.str []), (.int .i64 0), (.sl [] 0 (some 0)), (.sl [] 0 (some 0))] (.tmp 91) (.tmp 95)), none⟩,
    .op ⟨(some 97), (.faddr 1 (.tmp 1)), none⟩,
    .op ⟨none, (.store 1 (.tmp 97) (.tmp 96)), none⟩]
def r_f43_23 : List SOp :=
   [.op ⟨(some 98), (.faddr 1 (.tmp 1)), none⟩,
    .op ⟨(some 99), (.load false 1 (.tmp 98)), none⟩,
    .op ⟨(some 100), (.bslice false 1 2 [(.str []), (.str [])] [(0, 1, (.av (.str [99, 110]))), (1, 1, (.av (.str [115, 110])))]), none⟩,
    .op ⟨(some 101), (.bslice false 1 2 [(.str []), (.str [])] [(0, 1, (.av (.str [100, 101, 115, 99, 114, 105, 112, 116, 105, 111, 110]))), (1, 1, (.av (.str [117, 115, 101, 114, 80, 97, 115, 115, 119, 111, 114, 100])))]), none⟩,
    .op ⟨(some 102), (.build [(.str []), (.str []), (.int .i64 0), (.sl [] 0 (some 0)), (.sl [] 0 (some 0))] [(0, 1, (.av (.str [112, 101, 114, 115, 111, 110]))), (1, 1, (.av (.str [116, 111, 112]))), (2, 1, (.av (.int .i64 1))), (3, 1, (.tmp 100)), (4, 1, (.tmp 101))]), none⟩,
    .op ⟨(some 103), (.bslice false 5 1 [(.str []), (.str []), (.int .i64 0), (.sl [] 0 (some 0)), (.sl [] 0 (some 0))] [(0, 5, (.tmp 102))]), none⟩,
    .op ⟨(some 104), (.app 1 5 88 [(.str []), (.str []), (.int .i64 0), (.sl [] 0 (some 0)), (.sl [] 0 (some 0))] (.tmp 99) (.tmp 103)), none⟩,
    .op ⟨(some 105), (.faddr 1 (.tmp 1)), none⟩,
    .op ⟨none, (.store 1 (.tmp 105) (.tmp 104)), none⟩]
def r_f43_24 : List SOp :=
   [.op ⟨(some 106), (.faddr 1 (.tmp 1)), none⟩,
    .op ⟨(some 107), (.load false 1 (.tmp 106)), none⟩,
    .op ⟨(some 108), (.bslice false 1 4 [(.str []), (.str []), (.str []), (.str [])] [(0, 1, (.av (.str [117, 105, 100]))), (1, 1, (.av (.str [109, 97, 105, 108]))), (2, 1, (.av (.str [101, 109, 112, 108, 111, 121, 101, 101, 78, 117, 109, 98, 101, 114]))), (3, 1, (.av (.str [97, 99, 116, 105, 118, 101])))]), none⟩,
    .op ⟨(some 109), (.build [(.str []), (.str []), (.int .i64 0), (.sl [] 0 (some 0)), (.sl [] 0 (some 0))] [(0, 1, (.av (.str [105, 110, 101, 116, 80, 101, 114, 115, 111, 110]))), (1, 1, (.av (.str [112, 101, 114, 115, 111, 110]))), (2, 1, (.av (.int .i64 1))), (4, 1, (.tmp 108))]), none⟩,
    .op ⟨(some 110), (.bslice false 5 1 [(.str []), (.str []), (.int .i64 0), (.sl [] 0 (some 0)), (.sl [] 0 (some 0))] [(0, 5, (.tmp 109))]), none⟩,
    .op ⟨(some 111), (.app 1 5 88 [(.str []), (.str []), (.int .i64 0), (.sl [] 0 (some 0)), (.sl [] 0 (some 0))] (.tmp 107) (.tmp 110)), none⟩,
    .op ⟨(some 112), (.faddr 1 (.tmp 1)), none⟩,
    .op ⟨none, (.store 1 (.tmp 112) (.tmp 111)), none⟩]
def r_f43_25 : List SOp :=
   [.op ⟨(some 113), (.faddr 1 (.tmp 1)), none⟩,
    .op ⟨(some 114), (.load false 1 (.tmp 113)), none⟩,
    .op ⟨(some 115), (.bslice false 1 2 [(.str []), (.str [])] [(0, 1, (.av (.str [99, 110]))), (1, 1, (.av (.str [109, 101, 109, 98, 101, 114])))]), none⟩,
    .op ⟨(some 116), (.bslice false 1 1 [(.str [])] [(0, 1, (.av (.str [100, 101, 115, 99, 114, 105, 112, 116, 105, 111, 110])))]), none⟩,
    .op ⟨(some 117), (.build [(.str []), (.str []), (.int .i64 0), (.sl [] 0 (some 0)), (.sl [] 0 (some 0))] [(0, 1, (.av (.str [103, 114, 111, 117, 112]))), (1, 1, (.av (.str [116, 111, 112]))), (2, 1, (.av (.int .i64 1))), (3, 1, (.tmp 115)), (4, 1, (.tmp 116))]), none⟩,
    .op ⟨(some 118), (.bslice false 5 1 [(.str []), (.str []), (.int .i64 0), (.sl [] 0 (some 0)), (.sl [] 0 (some 0))] [(0, 5, (.tmp 117))]), none⟩,
    .op ⟨(some 119), (.app 1 5 88 [(.str []), (.str []), (.int .i64 0), (.sl [] 0 (some 0)), (.sl [] 0 (some 0))] (.tmp 114) (.tmp 118)), none⟩,
    .op ⟨(some 120), (.faddr 1 (.tmp 1)), none⟩,
    .op ⟨none, (.store 1 (.tmp 120) (.tmp 119)), none⟩]
def r_f43_26 : List SOp :=
   [.op ⟨(some 121), (.faddr 1 (.tmp 1)), none⟩,
    .op ⟨(some 122), (.load false 1 (.tmp 121)), none⟩,
    .op ⟨(some 123), (.bslice false 1 1 [(.str [])] [(0, 1, (.av (.str [117, 115, 101, 114, 80, 97, 115, 115, 119, 111, 114, 100])))]), none⟩,
    .op ⟨(some 124), (.build [(.str []), (.str []), (.int .i64 0), (.sl [] 0 (some 0)), (.sl [] 0 (some 0))] [(0, 1, (.av (.str [115, 101, 99, 117, 114, 101, 100]))), (1, 1, (.av (.str [116, 111, 112]))), (2, 1, (.av (.int .i64 2))), (3, 1, (.tmp 123))]), none⟩,
    .op ⟨(some 125), (.bslice false 5 1 [(.str []), (.str []), (.int .i64 0), (.sl [] 0 (some 0)), (.sl [] 0 (some 0))] [(0, 5, (.tmp 124))]), none⟩,
    .op ⟨(some 126), (.app 1 5 88 [(.str []), (.str []), (.int .i64 0), (.sl [] 0 (some 0)), (.sl [] 0 (some 0))] (.tmp 122) (.tmp 125)), none⟩,
    .op ⟨(some 127), (.faddr 1 (.tmp 1)), none⟩,
    .op ⟨none, (.store 1 (.tmp 127) (.tmp 126)), none⟩]
def r_f43_27 : List SOp :=
   [.op ⟨(some 128), (.faddr 1 (.tmp 1)), none⟩,
    .op ⟨(some 129), (.load false 1 (.tmp 128)), none⟩,
    .op ⟨(some 130), (.bslice false 1 2 [(.str []), (.str [])] [(0, 1, (.av (.str [117, 105, 100]))), (1, 1, (.av (.str [109, 97, 105, 108])))]), none⟩,
    .op ⟨(some 131), (.build [(.str []), (.str []), (.int .i64 0), (.sl [] 0 (some 0)), (.sl [] 0 (some 0))] [(0, 1, (.av (.str [108, 97, 98, 101, 108, 108, 101, 100]))), (1, 1, (.av (.str [116, 111, 112]))), (2, 1, (.av (.int .i64 2))), (4, 1, (.tmp 130))]), none⟩,
    .op ⟨(some 132), (.bslice false 5 1 [(.str []), (.str []), (.int .i64 0), (.sl [] 0 (some 0)), (.sl [] 0 (some 0))] [(0, 5, (.tmp 131))]), none⟩,
    .op ⟨(some 133), (.app 1 5 88 [(.str []), (.str []), (.int .i64 0), (.sl [] 0 (some 0)), (.sl [] 0 (some 0))] (.tmp 129) (.tmp 132)), none⟩,
    .op ⟨(some 134), (.faddr 1 (.tmp 1)), none⟩,
    .op ⟨none, (.store 1 (.tmp 134) (.tmp 133)), none⟩]
def r_f43_28 : List SOp :=
   [.op ⟨(some 135), (.load true 2 (.tmp 1)), none⟩,
    .op ⟨none, (.store 2 (.tmp 0) (.tmp 135)), none⟩]
def c_f43 : LFun := ⟨136, (.seq (.sreg r_f43_0 [])
  (.seq (.sreg r_f43_1 [])
  (.seq (.sreg r_f43_2 [false, false, false, false, false])
  (.seq (.sreg r_f43_3 [false, false, false, false, false])
  (.seq (.sreg r_f43_4 [false, false, false, false, false])
  (.seq (.sreg r_f43_5 [false, false, false, false, false])
  (.seq (.sreg r_f43_6 [false, false, false, false, false])
  (.seq (.sreg r_f43_7 [false, false, false, false, false])
  (.seq (.sreg r_f43_8 [false, false, false, false, false, false])
  (.seq (.sreg r_f43_9 [false, false, false, false, false, false])
  (.seq (.seq (.sreg r_f43_10 [])
  (.block 0 (.loop (.seq (.sreg r_f43_11 [])
  (.seq (.cond (.tmp 50) .skip
  (.exit 0))
  (.seq (.block 1 (.seq (.sreg r_f43_12 [true, false, false])
  (.seq (.sreg r_f43_13 [true, false, false])
  (.seq (.seq (.sreg r_f43_14 [true, false])
  (.cond (.tmp 56) (.seq (.sreg r_f43_15 [false])
  (.sreg r_f43_16 [false]))
  .skip))
  (.sreg r_f43_17 [false, false, false, false, false, false])))))
  (.sreg r_f43_18 [true, false])))))))
  (.seq (.sreg r_f43_19 [false, false, false, false, false, false, false, false])
  (.seq (.sreg r_f43_20 [false, false, false, false, false, false, false, false])
  (.seq (.sreg r_f43_21 [false, false, false, false, false, false, false, false])
  (.seq (.sreg r_f43_22 [false, false, false, false, false, false, false, false])
  (.seq (.sreg r_f43_23 [false, false, false, false, false, false, false, false])
  (.seq (.sreg r_f43_24 [false, false, false, false, false, false, false])
  (.seq (.sreg r_f43_25 [false, false, false, false, false, false, false, false])
  (.seq (.sreg r_f43_26 [false, false, false, false, false, false, false])
  (.seq (.sreg r_f43_27 [false, false, false, false, false, false, false])
  (.seq (.sreg r_f43_28 [false])
  .ret))))))))))))))))))))), [(.cell true 2 0)]⟩
def o_f43 : Nat → Nat → Nat := fun _ _ => 1
theorem c_f43_eq : lowF Tryz.prog o_f43 43 = some c_f43.raw := by kernel_rfl
theorem c_f43_ok : c_f43.code.okc = true := by kernel_rfl
/-! castellan/index.New -/
def r_f42_0 : List SOp :=
   [.op ⟨(some 2), (.box (.tmp 0)), none⟩,
    .op ⟨(some 4), (.mv (.av .nilptr)), none⟩,
    .op ⟨(some 5), (.mv (.av (.int .i64 0))), none⟩]
def r_f42_1 : List SOp :=
   [.op ⟨(some 13), .mkmap, none⟩,
    .op ⟨(some 14), .mkmap, none⟩,
    .op ⟨(some 15), .mkmap, none⟩,
    .op ⟨(some 16), .mkmap, none⟩,
    .op ⟨(some 17), (.build [.nilmap, .nilmap, .nilmap, .nilmap] [(0, 1, (.tmp 13)), (1, 1, (.tmp 14)), (2, 1, (.tmp 15)), (3, 1, (.tmp 16))]), none⟩,
    .op ⟨(some 18), (.box (.tmp 17)), none⟩,
    .op ⟨(some 6), (.mv (.tmp 18)), none⟩]
def r_f42_2 : List SOp :=
   [.op ⟨(some 19), (.mv (.tmp 1)), none⟩,
    .op ⟨(some 20), (.len false (.tmp 19)), none⟩,
    .op ⟨(some 21), (.mv (.av (.int .i64 0))), none⟩]
def r_f42_3 : List SOp :=
   [.op ⟨(some 22), (.bin .lss (.tmp 21) (.tmp 20)), none⟩]
def r_f42_4 : List SOp :=
   [.op ⟨(some 23), (.iaddr 1 (.tmp 19) (.tmp 21)), none⟩,
    .op ⟨(some 24), (.load false 1 (.tmp 23)), none⟩,
    .op ⟨(some 8), (.mv (.tmp 24)), none⟩]
def r_f42_5 : List SOp :=
   [.op ⟨(some 26), (.load true 2 (.tmp 2)), none⟩,
    .op ⟨(some 27), (.mv (.tmp 8)), none⟩,
    .op ⟨(some 28), (.call 78 [(.tmp 26), (.tmp 27)]), none⟩,
    .op ⟨(some 25), (.mv (.tmp 28)), none⟩,
    .op ⟨(some 29), (.extract (.tmp 25) 0), none⟩,
    .op ⟨(some 30), (.extract (.tmp 25) 1), none⟩,
    .op ⟨(some 9), (.alloc [(.str []), (.int .i64 0), (.bool false), (.bool false)]), none⟩,
    .op ⟨none, (.store 4 (.tmp 9) (.tmp 29)), none⟩,
    .op ⟨(some 10), (.mv (.tmp 30)), none⟩]
def r_f42_6 : List (LOper × Kd) :=
   [(⟨(some 32), (.mv (.tmp 6)), none⟩, .pure),
    (⟨(some 33), (.nilchk (.tmp 32)), none⟩, (.read 0 1)),
    (⟨(some 34), (.faddr 0 (.tmp 33)), none⟩, .pure),
    (⟨(some 35), (.load false 1 (.tmp 34)), none⟩, (.read 0 1)),
    (⟨(some 36), (.mv (.tmp 8)), none⟩, .pure),
    (⟨(some 37), (.call 44 [(.tmp 36)]), none⟩, (.read 0 1)),
    (⟨(some 38), (.mget .str true (.agg [(.str []), (.int .i64 0), (.bool false), (.bool false)]) (.tmp 35) (.tmp 37)), none⟩, (.read 0 1)),
    (⟨(some 31), (.mv (.tmp 38)), none⟩, .pure),
    (⟨(some 39), (.extract (.tmp 31) 0), none⟩, .pure),
    (⟨(some 40), (.extract (.tmp 31) 1), none⟩, .pure),
    (⟨(some 11), (.alloc [(.str []), (.int .i64 0), (.bool false), (.bool false)]), none⟩, .eff),
    (⟨none, (.store 4 (.tmp 11) (.tmp 39)), none⟩, .eff)]
def r_f42_6t : List LOper :=
   [⟨(some 12), (.mv (.tmp 40)), none⟩]
def r_f42_7 : List SOp :=
   [.op ⟨(some 42), (.mv (.tmp 10)), none⟩,
    .op ⟨(some 43), (.un .not (.tmp 42)), none⟩,
    .op ⟨(some 41), (.mv (.tmp 43)), none⟩]
def r_f42_8 : List SOp :=
   [.op ⟨(some 4), (.mv (.av .nilptr)), none⟩,
    .op ⟨(some 5), (.mv (.av (.int .i64 20))), none⟩]
def r_f42_9 : List SOp :=
   [.op ⟨(some 45), (.mv (.tmp 12)), none⟩,
    .op ⟨(some 44), (.mv (.tmp 45)), none⟩]
def r_f42_10 : List SOp :=
   [.op ⟨(some 4), (.mv (.av .nilptr)), none⟩,
    .op ⟨(some 5), (.mv (.av (.int .i64 21))), none⟩]
def r_f42_11 : List (LOper × Kd) :=
   [(⟨(some 46), (.mv (.tmp 6)), none⟩, .pure),
    (⟨(some 47), (.nilchk (.tmp 46)), none⟩, (.read 0 0)),
    (⟨(some 48), (.faddr 0 (.tmp 47)), none⟩, .pure),
    (⟨(some 49), (.load false 1 (.tmp 48)), none⟩, (.read 0 0)),
    (⟨(some 50), (.mv (.tmp 8)), none⟩, .pure),
    (⟨(some 51), (.call 44 [(.tmp 50)]), none⟩, (.read 0 0)),
    (⟨(some 52), (.load true 4 (.tmp 9)), none⟩, (.read 0 0))]
def r_f42_11t : List LOper :=
   [⟨none, (.mset .str (.tmp 49) (.tmp 51) (.tmp 52)), none⟩]
def r_f42_12 : List (LOper × Kd) :=
   [(⟨(some 53), (.mv (.tmp 6)), none⟩, .pure),
    (⟨(some 54), (.nilchk (.tmp 53)), none⟩, (.read 0 1)),
    (⟨(some 55), (.faddr 2 (.tmp 54)), none⟩, .pure),
    (⟨(some 56), (.load false 1 (.tmp 55)), none⟩, (.read 0 1)),
    (⟨(some 57), (.mv (.tmp 8)), none⟩, .pure),
    (⟨(some 58), (.call 44 [(.tmp 57)]), none⟩, (.read 0 1)),
    (⟨(some 59), .mkmap, none⟩, .eff)]
def r_f42_12t : List LOper :=
   [⟨none, (.mset .str (.tmp 56) (.tmp 58) (.tmp 59)), none⟩]
def r_f42_13 : List SOp :=
   [.op ⟨(some 60), (.bin .add (.tmp 21) (.av (.int .i64 1))), none⟩,
    .op ⟨(some 21), (.mv (.tmp 60)), none⟩]
def r_f42_14 : List SOp :=
   [.op ⟨(some 61), (.mv (.tmp 6)), none⟩,
    .op ⟨(some 4), (.mv (.tmp 61)), none⟩,
    .op ⟨(some 5), (.mv (.av (.int .i64 0))), none⟩]
def c_f42 : LFun := ⟨62, (.seq (.sreg r_f42_0 [])
  (.seq (.sreg r_f42_1 [true, false, false, false, false, false, false])
  (.seq (.seq (.sreg r_f42_2 [])
  (.block 0 (.loop (.seq (.sreg r_f42_3 [])
  (.seq (.cond (.tmp 22) .skip
  (.exit 0))
  (.seq (.block 1 (.seq (.sreg r_f42_4 [true, false, false])
  (.seq (.sreg r_f42_5 [true, true, false, false, false, false, false, false])
  (.seq (.dregM r_f42_6 r_f42_6t [true, false, false, false, false, false, false, false, false, false, false, false])
  (.seq (.block 2 (.seq (.sreg r_f42_7 [true, false, false])
  (.cond (.tmp 41) (.seq (.sreg r_f42_8 [])
  .ret)
  (.seq (.sreg r_f42_9 [true, false])
  (.cond (.tmp 44) (.seq (.sreg r_f42_10 [])
  .ret)
  .skip)))))
  (.seq (.dregM r_f42_11 r_f42_11t [false, false, false, false, false, false, false])
  (.dregM r_f42_12 r_f42_12t [false, false, false, false, false, false, false])))))))
  (.sreg r_f42_13 [true, false])))))))
  (.seq (.sreg r_f42_14 [true, true, false])
  .ret)))), [(.tmp 4), (.tmp 5)]⟩
def o_f42 : Nat → Nat → Nat := fun _ _ => 1
theorem c_f42_eq : lowF Tryz.prog o_f42 42 = some c_f42.raw := by kernel_rfl
theorem c_f42_ok : c_f42.code.okc = true := by kernel_rfl
/-! (*castellan/index.Index).Put -/
def r_f11_0 : List SOp :=
   [.op ⟨(some 3), (.box (.tmp 0)), none⟩,
    .op ⟨(some 4), (.box (.tmp 1)), none⟩]
def r_f11_1 : List SOp :=
   [.op ⟨(some 10), (.load false 1 (.tmp 3)), none⟩,
    .op ⟨(some 11), (.eqk false .ptr (.tmp 10) (.av .nilptr)), none⟩]
def r_f11_2 : List SOp :=
   [.op ⟨(some 12), (.load false 1 (.tmp 3)), none⟩,
    .op ⟨(some 13), (.load false 1 (.tmp 4)), none⟩,
    .op ⟨(some 14), (.call 12 [(.tmp 12), (.tmp 13)]), none⟩]
def r_f11_3 : List SOp :=
   [.op ⟨(some 6), (.mv (.av (.sl [] 0 (some 0)))), none⟩]
def r_f11_4 : List SOp :=
   [.op ⟨(some 15), (.mv (.tmp 2)), none⟩,
    .op ⟨(some 16), (.len false (.tmp 15)), none⟩,
    .op ⟨(some 17), (.mv (.av (.int .i64 0))), none⟩]
def r_f11_5 : List SOp :=
   [.op ⟨(some 18), (.bin .lss (.tmp 17) (.tmp 16)), none⟩]
def r_f11_6 : List SOp :=
   [.op ⟨(some 19), (.iaddr 2 (.tmp 15) (.tmp 17)), none⟩,
    .op ⟨(some 20), (.load true 2 (.tmp 19)), none⟩,
    .op ⟨(some 8), (.alloc [(.str []), (.sl [] 0 (some 0))]), none⟩,
    .op ⟨none, (.store 2 (.tmp 8) (.tmp 20)), none⟩]
def r_f11_7 : List (LOper × Kd) :=
   [(⟨(some 21), (.mv (.tmp 6)), none⟩, .pure),
    (⟨(some 22), (.faddr 0 (.tmp 8)), none⟩, .pure),
    (⟨(some 23), (.load false 1 (.tmp 22)), none⟩, (.read 0 1)),
    (⟨(some 24), (.faddr 1 (.tmp 8)), none⟩, .pure),
    (⟨(some 25), (.load false 1 (.tmp 24)), none⟩, (.read 0 0)),
    (⟨(some 26), (.call 37 [(.tmp 25)]), none⟩, .eff),
    (⟨(some 27), (.build [(.str []), (.sl [] 0 (some 0))] [(0, 1, (.tmp 23)), (1, 1, (.tmp 26))]), none⟩, .pure),
    (⟨(some 28), (.bslice false 2 1 [(.str []), (.sl [] 0 (some 0))] [(0, 2, (.tmp 27))]), none⟩, (.read 0 0))]
def r_f11_7t : List LOper :=
   [⟨(some 29), (.app 1 2 40 [(.str []), (.sl [] 0 (some 0))] (.tmp 21) (.tmp 28)), none⟩,
    ⟨(some 6), (.mv (.tmp 29)), none⟩]
def r_f11_8 : List SOp :=
   [.op ⟨(some 30), (.bin .add (.tmp 17) (.av (.int .i64 1))), none⟩,
    .op ⟨(some 17), (.mv (.tmp 30)), none⟩]
def r_f11_9 : List (LOper × Kd) :=
   [(⟨(some 31), (.load false 1 (.tmp 3)), none⟩, (.read 0 0)),
    (⟨(some 32), (.nilchk (.tmp 31)), none⟩, (.read 0 0)),
    (⟨(some 33), (.faddr 1 (.tmp 32)), none⟩, .pure),
    (⟨(some 34), (.load false 1 (.tmp 33)), none⟩, (.read 0 0)),
    (⟨(some 35), (.load false 1 (.tmp 4)), none⟩, (.read 0 0)),
    (⟨(some 36), (.mv (.tmp 6)), none⟩, .pure)]
def r_f11_9t : List LOper :=
   [⟨none, (.mset .int (.tmp 34) (.tmp 35) (.tmp 36)), none⟩]
def r_f11_10 : List SOp :=
   [.op ⟨(some 37), (.load false 1 (.tmp 3)), none⟩,
    .op ⟨(some 38), (.nilchk (.tmp 37)), none⟩,
    .op ⟨(some 39), (.faddr 0 (.tmp 38)), none⟩,
    .op ⟨(some 40), (.load false 1 (.tmp 39)), none⟩,
    .op ⟨(some 41), (.mrange (.tmp 40)), none⟩]
def r_f11_11 : List SOp :=
   [.op ⟨(some 42), (.mnext (.tmp 41)), none⟩,
    .op ⟨(some 43), (.extract (.tmp 42) 0), none⟩]
def r_f11_12 : List SOp :=
   [.op ⟨(some 44), (.mentry (.tmp 41)), none⟩,
    .op ⟨(some 45), (.extract (.tmp 44) 0), none⟩,
    .op ⟨(some 9), (.mv (.tmp 45)), none⟩]
def r_f11_13 : List SOp :=
   [.op ⟨(some 46), (.mv (.tmp 6)), none⟩,
    .op ⟨(some 47), (.mv (.tmp 9)), none⟩,
    .op ⟨(some 48), (.call 38 [(.tmp 46), (.tmp 47)]), none⟩,
    .op ⟨(some 49), (.len false (.tmp 48)), none⟩,
    .op ⟨(some 50), (.bin .gtr (.tmp 49) (.av (.int .i64 0))), none⟩]
def r_f11_14 : List (LOper × Kd) :=
   [(⟨(some 51), (.load false 1 (.tmp 3)), none⟩, (.read 0 0)),
    (⟨(some 52), (.nilchk (.tmp 51)), none⟩, (.read 0 0)),
    (⟨(some 53), (.faddr 2 (.tmp 52)), none⟩, .pure),
    (⟨(some 54), (.load false 1 (.tmp 53)), none⟩, (.read 0 0)),
    (⟨(some 55), (.mv (.tmp 9)), none⟩, .pure),
    (⟨(some 56), (.mget .str false .nilmap (.tmp 54) (.tmp 55)), none⟩, (.read 0 0)),
    (⟨(some 57), (.load false 1 (.tmp 4)), none⟩, (.read 0 0))]
def r_f11_14t : List LOper :=
   [⟨none, (.mset .int (.tmp 56) (.tmp 57) (.av (.bool true))), none⟩]
def r_f11_15 : List SOp :=
   [.op ⟨(some 58), (.load false 1 (.tmp 3)), none⟩,
    .op ⟨(some 59), (.mv (.tmp 6)), none⟩,
    .op ⟨(some 60), (.mkfn 40 [(.tmp 3), (.tmp 4)]), none⟩,
    .op ⟨(some 61), (.call 39 [(.tmp 58), (.tmp 59), (.tmp 60)]), none⟩]
def c_f11 : LFun := ⟨62, (.seq (.sreg r_f11_0 [])
  (.seq (.seq (.sreg r_f11_1 [true, false])
  (.cond (.tmp 11) .ret
  .skip))
  (.seq (.sreg r_f11_2 [false, false, false])
  (.seq (.sreg r_f11_3 [])
  (.seq (.seq (.sreg r_f11_4 [])
  (.block 0 (.loop (.seq (.sreg r_f11_5 [])
  (.seq (.cond (.tmp 18) .skip
  (.exit 0))
  (.seq (.block 1 (.seq (.sreg r_f11_6 [true, false, false])
  (.dregM r_f11_7 r_f11_7t [true, false, false, false, false, false, false, false, false, false])))
  (.sreg r_f11_8 [true, false])))))))
  (.seq (.dregM r_f11_9 r_f11_9t [false, false, false, false, false, false])
  (.seq (.seq (.sreg r_f11_10 [true, false, false, false, false])
  (.block 2 (.loop (.seq (.sreg r_f11_11 [true, false])
  (.seq (.cond (.tmp 43) .skip
  (.exit 2))
  (.block 3 (.seq (.sreg r_f11_12 [true, false, false])
  (.seq (.sreg r_f11_13 [true, false, false, false, false])
  (.cond (.tmp 50) (.dregM r_f11_14 r_f11_14t [false, false, false, false, false, false, false])
  .skip)))))))))
  (.sreg r_f11_15 [false, false, false, false])))))))), []⟩
def o_f11 : Nat → Nat → Nat := fun r i => if r = 7 ∧ i = 5 then 3 else 1
theorem c_f11_eq : lowF Tryz.prog o_f11 11 = some c_f11.raw := by kernel_rfl
theorem c_f11_ok : c_f11.code.okc = true := by kernel_rfl
/-! castellan/castellanref10.Parse -/
def r_f52_0 : List SOp :=
   [.op ⟨(some 2), (.alloc [(.int .i64 0), (.str []), (.str []), (.sl [] 0 (some 0)), (.sl [] 0 (some 0))]), none⟩,
    .op ⟨(some 3), (.mv (.av (.int .i64 0))), none⟩]
def r_f52_1 : List SOp :=
   [.op ⟨(some 6), (.mv (.tmp 0)), none⟩,
    .op ⟨(some 7), (.len true (.tmp 6)), none⟩,
    .op ⟨(some 8), (.bin .gtr (.tmp 7) (.av (.int .i64 4096))), none⟩]
def r_f52_2 : List SOp :=
   [.op ⟨(some 9), (.build [(.int .i64 0), (.str []), (.str []), (.sl [] 0 (some 0)), (.sl [] 0 (some 0))] []), none⟩,
    .op ⟨none, (.store 5 (.tmp 2) (.tmp 9)), none⟩,
    .op ⟨(some 3), (.mv (.av (.int .i64 5))), none⟩]
def r_f52_3 : List SOp :=
   [.op ⟨(some 10), (.mv (.tmp 0)), none⟩,
    .op ⟨(some 11), (.build [(.str []), (.int .i64 0), (.int .i64 0), (.int .i64 0)] [(0, 1, (.tmp 10))]), none⟩,
    .op ⟨(some 12), (.box (.tmp 11)), none⟩,
    .op ⟨(some 4), (.mv (.tmp 12)), none⟩]
def r_f52_4 : List SOp :=
   [.op ⟨(some 13), (.mv (.tmp 4)), none⟩,
    .op ⟨(some 14), (.call 85 [(.tmp 13), (.av (.int .i64 1))]), none⟩,
    .op ⟨(some 5), (.alloc [(.int .i64 0), (.str []), (.str []), (.sl [] 0 (some 0)), (.sl [] 0 (some 0))]), none⟩,
    .op ⟨none, (.store 5 (.tmp 5) (.tmp 14)), none⟩]
def r_f52_5 : List SOp :=
   [.op ⟨(some 15), (.mv (.tmp 4)), none⟩,
    .op ⟨(some 16), (.nilchk (.tmp 15)), none⟩,
    .op ⟨(some 17), (.faddr 3 (.tmp 16)), none⟩,
    .op ⟨(some 18), (.load false 1 (.tmp 17)), none⟩,
    .op ⟨(some 19), (.bin .eql (.tmp 18) (.av (.int .i64 0))), none⟩,
    .op ⟨(some 20), (.mv (.tmp 19)), none⟩,
    .grp none 20 true
      [.op ⟨(some 21), (.mv (.tmp 4)), (some (20, true))⟩,
      .op ⟨(some 22), (.nilchk (.tmp 21)), (some (20, true))⟩,
      .op ⟨(some 23), (.faddr 1 (.tmp 22)), (some (20, true))⟩,
      .op ⟨(some 24), (.load false 1 (.tmp 23)), (some (20, true))⟩,
      .op ⟨(some 25), (.mv (.tmp 0)), (some (20, true))⟩,
      .op ⟨(some 26), (.len true (.tmp 25)), (some (20, true))⟩,
      .op ⟨(some 27), (.bin .lss (.tmp 24) (.tmp 26)), (some (20, true))⟩]
      28 (.tmp 27)]
def r_f52_6 : List SOp :=
   [.op ⟨(some 29), (.mv (.tmp 4)), none⟩,
    .op ⟨(some 30), (.nilchk (.tmp 29)), none⟩,
    .op ⟨(some 31), (.faddr 3 (.tmp 30)), none⟩,
    .op ⟨none, (.store 1 (.tmp 31) (.av (.int .i64 4))), none⟩]
def r_f52_7 : List SOp :=
   [.op ⟨(some 32), (.mv (.tmp 4)), none⟩,
    .op ⟨(some 33), (.nilchk (.tmp 32)), none⟩,
    .op ⟨(some 34), (.faddr 3 (.tmp 33)), none⟩,
    .op ⟨(some 35), (.load false 1 (.tmp 34)), none⟩,
    .op ⟨(some 36), (.bin .neq (.tmp 35) (.av (.int .i64 0))), none⟩]
def r_f52_8 : List (LOper × Kd) :=
   [(⟨(some 37), (.build [(.int .i64 0), (.str []), (.str []), (.sl [] 0 (some 0)), (.sl [] 0 (some 0))] []), none⟩, .pure),
    (⟨(some 38), (.mv (.tmp 4)), none⟩, .pure),
    (⟨(some 39), (.nilchk (.tmp 38)), none⟩, (.read 0 1)),
    (⟨(some 40), (.faddr 3 (.tmp 39)), none⟩, .pure),
    (⟨(some 41), (.load false 1 (.tmp 40)), none⟩, (.read 0 1)),
    (⟨none, (.store 5 (.tmp 2) (.tmp 37)), none⟩, .eff)]
def r_f52_8t : List LOper :=
   [⟨(some 3), (.mv (.tmp 41)), none⟩]
def r_f52_9 : List SOp :=
   [.op ⟨(some 42), (.load true 5 (.tmp 5)), none⟩,
    .op ⟨none, (.store 5 (.tmp 2) (.tmp 42)), none⟩,
    .op ⟨(some 3), (.mv (.av (.int .i64 0))), none⟩]
def c_f52 : LFun := ⟨43, (.seq (.sreg r_f52_0 [])
  (.seq (.seq (.sreg r_f52_1 [true, false, false])
  (.cond (.tmp 8) (.seq (.sreg r_f52_2 [true, false])
  .ret)
  .skip))
  (.seq (.sreg r_f52_3 [true, false, false, false])
  (.seq (.sreg r_f52_4 [true, false, false])
  (.seq (.seq (.sreg r_f52_5 [true, false, false, false, false, false, false])
  (.cond (.tmp 28) (.sreg r_f52_6 [false, false, false])
  .skip))
  (.seq (.seq (.sreg r_f52_7 [true, false, false, false, false])
  (.cond (.tmp 36) (.seq (.dregM r_f52_8 r_f52_8t [true, false, false, false, false, false])
  .ret)
  .skip))
  (.seq (.sreg r_f52_9 [true, false])
  .ret))))))), [(.cell true 5 2), (.tmp 3)]⟩
def o_f52 : Nat → Nat → Nat := fun _ _ => 1
theorem c_f52_eq : lowF Tryz.prog o_f52 52 = some c_f52.raw := by kernel_rfl
theorem c_f52_ok : c_f52.code.okc = true := by kernel_rfl
/-! castellan/plan.Among -/
def r_f53_0 : List SOp :=
   [.op ⟨(some 4), (.box (.tmp 1)), none⟩,
    .op ⟨(some 6), (.mv (.av (.sl [] 0 (some 0)))), none⟩,
    .op ⟨(some 7), (.mv (.av (.bool false))), none⟩]
def r_f53_1 : List SOp :=
   [.op ⟨(some 11), (.mv (.tmp 0)), none⟩,
    .op ⟨(some 12), (.load true 5 (.tmp 4)), none⟩,
    .op ⟨(some 13), (.mv (.tmp 2)), none⟩,
    .op ⟨(some 14), (.call 86 [(.tmp 11), (.tmp 12), (.tmp 13)]), none⟩,
    .op ⟨(some 10), (.mv (.tmp 14)), none⟩,
    .op ⟨(some 15), (.extract (.tmp 10) 0), none⟩,
    .op ⟨(some 16), (.extract (.tmp 10) 1), none⟩,
    .op ⟨(some 8), (.mv (.tmp 15)), none⟩,
    .op ⟨(some 9), (.mv (.tmp 16)), none⟩]
def r_f53_2 : List SOp :=
   [.op ⟨(some 17), (.mv (.tmp 9)), none⟩,
    .op ⟨(some 18), (.un .not (.tmp 17)), none⟩,
    .op ⟨(some 19), (.mv (.tmp 18)), none⟩,
    .grp none 19 false
      [.op ⟨(some 20), (.mv (.tmp 8)), (some (19, false))⟩,
      .op ⟨(some 21), (.len false (.tmp 20)), (some (19, false))⟩,
      .op ⟨(some 22), (.mv (.tmp 2)), (some (19, false))⟩,
      .op ⟨(some 23), (.bin .gtr (.tmp 21) (.tmp 22)), (some (19, false))⟩]
      24 (.tmp 23)]
def r_f53_3 : List SOp :=
   [.op ⟨(some 6), (.mv (.av (.sl [] 0 (some 0)))), none⟩,
    .op ⟨(some 7), (.mv (.av (.bool false))), none⟩]
def r_f53_4 : List SOp :=
   [.op ⟨(some 25), (.mv (.tmp 8)), none⟩,
    .op ⟨(some 6), (.mv (.tmp 25)), none⟩,
    .op ⟨(some 7), (.mv (.av (.bool true))), none⟩]
def c_f53 : LFun := ⟨26, (.seq (.sreg r_f53_0 [])
  (.seq (.sreg r_f53_1 [true, true, false, false, false, false, false, false, false])
  (.seq (.seq (.sreg r_f53_2 [true, false, false, false])
  (.cond (.tmp 24) (.seq (.sreg r_f53_3 [])
  .ret)
  .skip))
  (.seq (.sreg r_f53_4 [true, true, false])
  .ret)))), [(.tmp 6), (.tmp 7)]⟩
def o_f53 : Nat → Nat → Nat := fun _ _ => 1
theorem c_f53_eq : lowF Tryz.prog o_f53 53 = some c_f53.raw := by kernel_rfl
theorem c_f53_ok : c_f53.code.okc = true := by kernel_rfl
/-! castellan/castellanref13.types -/
def r_f79_0 : List SOp :=
   [.op ⟨(some 6), (.mv (.av (.sl [] 0 (some 0)))), none⟩]
def r_f79_1 : List SOp :=
   [.op ⟨(some 9), (.mv (.tmp 2)), none⟩,
    .op ⟨(some 10), (.len false (.tmp 9)), none⟩,
    .op ⟨(some 11), (.mv (.av (.int .i64 0))), none⟩]
def r_f79_2 : List SOp :=
   [.op ⟨(some 12), (.bin .lss (.tmp 11) (.tmp 10)), none⟩]
def r_f79_3 : List SOp :=
   [.op ⟨(some 13), (.iaddr 1 (.tmp 9) (.tmp 11)), none⟩,
    .op ⟨(some 14), (.load false 1 (.tmp 13)), none⟩,
    .op ⟨(some 8), (.mv (.tmp 14)), none⟩]
def r_f79_4 : List SOp :=
   [.op ⟨(some 15), (.mv (.tmp 0)), none⟩,
    .op ⟨(some 16), (.mv (.tmp 8)), none⟩,
    .op ⟨(some 17), (.mv (.tmp 1)), none⟩,
    .op ⟨(some 18), (.build [(.str []), (.int .i64 0), (.bool false), (.bool false)] [(0, 1, (.tmp 16)), (1, 1, (.tmp 17))]), none⟩,
    .op ⟨(some 19), (.bslice false 4 1 [(.str []), (.int .i64 0), (.bool false), (.bool false)] [(0, 4, (.tmp 18))]), none⟩,
    .op ⟨(some 20), (.app 1 4 32 [(.str []), (.int .i64 0), (.bool false), (.bool false)] (.tmp 15) (.tmp 19)), none⟩,
    .op ⟨(some 0), (.mv (.tmp 20)), none⟩]
def r_f79_5 : List SOp :=
   [.op ⟨(some 21), (.bin .add (.tmp 11) (.av (.int .i64 1))), none⟩,
    .op ⟨(some 11), (.mv (.tmp 21)), none⟩]
def r_f79_6 : List SOp :=
   [.op ⟨(some 22), (.mv (.tmp 0)), none⟩,
    .op ⟨(some 6), (.mv (.tmp 22)), none⟩]
def c_f79 : LFun := ⟨23, (.seq (.sreg r_f79_0 [])
  (.seq (.seq (.sreg r_f79_1 [])
  (.block 0 (.loop (.seq (.sreg r_f79_2 [])
  (.seq (.cond (.tmp 12) .skip
  (.exit 0))
  (.seq (.block 1 (.seq (.sreg r_f79_3 [true, false, false])
  (.sreg r_f79_4 [true, false, false, false, false, false, false])))
  (.sreg r_f79_5 [true, false])))))))
  (.seq (.sreg r_f79_6 [true, false])
  .ret))), [(.tmp 6)]⟩
def o_f79 : Nat → Nat → Nat := fun _ _ => 1
theorem c_f79_eq : lowF Tryz.prog o_f79 79 = some c_f79.raw := by kernel_rfl
theorem c_f79_ok : c_f79.code.okc = true := by kernel_rfl
/-! castellan/schema.Find -/
def r_f78_0 : List SOp :=
   [.op ⟨(some 2), (.box (.tmp 0)), none⟩,
    .op ⟨(some 4), (.alloc [(.str []), (.int .i64 0), (.bool false), (.bool false)]), none⟩,
    .op ⟨(some 5), (.mv (.av (.bool false))), none⟩]
def r_f78_1 : List SOp :=
   [.op ⟨(some 6), (.load true 2 (.tmp 2)), none⟩,
    .op ⟨(some 7), (.build [(.sl [] 0 (some 0)), (.sl [] 0 (some 0))] [(0, 2, (.tmp 6))]), none⟩,
    .op ⟨(some 8), (.mv (.tmp 1)), none⟩,
    .op ⟨(some 9), (.call 113 [(.tmp 7), (.tmp 8)]), none⟩,
    .op ⟨(some 10), (.extract (.tmp 9) 0), none⟩,
    .op ⟨(some 11), (.extract (.tmp 9) 1), none⟩,
    .op ⟨none, (.store 4 (.tmp 4) (.tmp 10)), none⟩,
    .op ⟨(some 5), (.mv (.tmp 11)), none⟩]
def c_f78 : LFun := ⟨12, (.seq (.sreg r_f78_0 [])
  (.seq (.sreg r_f78_1 [true, false, false, false, false, false, false])
  .ret)), [(.cell true 4 4), (.tmp 5)]⟩
def o_f78 : Nat → Nat → Nat := fun _ _ => 1
theorem c_f78_eq : lowF Tryz.prog o_f78 78 = some c_f78.raw := by kernel_rfl
theorem c_f78_ok : c_f78.code.okc = true := by kernel_rfl
/-! castellan/octet.Fold -/
def r_f44_0 : List SOp :=
   [.op ⟨(some 2), (.mv (.av (.str []))), none⟩]
def r_f44_1 : List SOp :=
   [.op ⟨(some 6), (.mv (.tmp 0)), none⟩,
    .op ⟨(some 7), (.s2bO (.tmp 6)), none⟩,
    .op ⟨(some 3), (.mv (.tmp 7)), none⟩]
def r_f44_2 : List SOp :=
   [.op ⟨(some 8), (.mv (.tmp 3)), none⟩,
    .op ⟨(some 9), (.len false (.tmp 8)), none⟩,
    .op ⟨(some 10), (.mv (.av (.int .i64 0))), none⟩]
def r_f44_3 : List SOp :=
   [.op ⟨(some 11), (.bin .lss (.tmp 10) (.tmp 9)), none⟩]
def r_f44_4 : List SOp :=
   [.op ⟨(some 12), (.mv (.tmp 10)), none⟩,
    .op ⟨(some 13), (.iaddr 1 (.tmp 8) (.tmp 10)), none⟩,
    .op ⟨(some 14), (.load false 1 (.tmp 13)), none⟩,
    .op ⟨(some 4), (.mv (.tmp 12)), none⟩,
    .op ⟨(some 5), (.mv (.tmp 14)), none⟩]
def r_f44_5 : List SOp :=
   [.op ⟨(some 15), (.mv (.tmp 5)), none⟩,
    .op ⟨(some 16), (.bin .geq (.tmp 15) (.av (.int .u8 65))), none⟩,
    .op ⟨(some 17), (.mv (.tmp 16)), none⟩,
    .grp none 17 true
      [.op ⟨(some 18), (.mv (.tmp 5)), (some (17, true))⟩,
      .op ⟨(some 19), (.bin .leq (.tmp 18) (.av (.int .u8 90))), (some (17, true))⟩]
      20 (.tmp 19)]
def r_f44_6 : List SOp :=
   [.op ⟨(some 21), (.mv (.tmp 3)), none⟩,
    .op ⟨(some 22), (.mv (.tmp 4)), none⟩,
    .op ⟨(some 23), (.mv (.tmp 5)), none⟩,
    .op ⟨(some 24), (.bin .add (.tmp 23) (.av (.int .u8 32))), none⟩,
    .op ⟨(some 25), (.iaddr 1 (.tmp 21) (.tmp 22)), none⟩,
    .op ⟨none, (.store 1 (.tmp 25) (.tmp 24)), none⟩]
def r_f44_7 : List SOp :=
   [.op ⟨(some 26), (.bin .add (.tmp 10) (.av (.int .i64 1))), none⟩,
    .op ⟨(some 10), (.mv (.tmp 26)), none⟩]
def r_f44_8 : List SOp :=
   [.op ⟨(some 27), (.mv (.tmp 3)), none⟩,
    .op ⟨(some 28), (.b2s (.tmp 27)), none⟩,
    .op ⟨(some 2), (.mv (.tmp 28)), none⟩]
def c_f44 : LFun := ⟨29, (.seq (.sreg r_f44_0 [])
  (.seq (.sreg r_f44_1 [true, false, false])
  (.seq (.seq (.sreg r_f44_2 [])
  (.block 0 (.loop (.seq (.sreg r_f44_3 [])
  (.seq (.cond (.tmp 11) .skip
  (.exit 0))
  (.seq (.block 1 (.seq (.sreg r_f44_4 [true, true, false, false, false])
  (.seq (.sreg r_f44_5 [true, false, false, false])
  (.cond (.tmp 20) (.sreg r_f44_6 [false, false, false, false, false])
  .skip))))
  (.sreg r_f44_7 [true, false])))))))
  (.seq (.sreg r_f44_8 [true, false, false])
  .ret)))), [(.tmp 2)]⟩
def o_f44 : Nat → Nat → Nat := fun r i => if r = 1 ∧ i = 1 then 2 else 1
theorem c_f44_eq : lowF Tryz.prog o_f44 44 = some c_f44.raw := by kernel_rfl
theorem c_f44_ok : c_f44.code.okc = true := by kernel_rfl
/-! (*castellan/index.Index).Drop -/
def r_f12_0 : List SOp :=
   [.op ⟨(some 2), (.box (.tmp 0)), none⟩,
    .op ⟨(some 3), (.box (.tmp 1)), none⟩]
def r_f12_1 : List SOp :=
   [.op ⟨(some 8), (.load false 1 (.tmp 2)), none⟩,
    .op ⟨(some 9), (.eqk false .ptr (.tmp 8) (.av .nilptr)), none⟩]
def r_f12_2 : List SOp :=
   [.op ⟨(some 11), (.load false 1 (.tmp 2)), none⟩,
    .op ⟨(some 12), (.nilchk (.tmp 11)), none⟩,
    .op ⟨(some 13), (.faddr 1 (.tmp 12)), none⟩,
    .op ⟨(some 14), (.load false 1 (.tmp 13)), none⟩,
    .op ⟨(some 15), (.load false 1 (.tmp 3)), none⟩,
    .op ⟨(some 16), (.mget .int true (.sl [] 0 (some 0)) (.tmp 14) (.tmp 15)), none⟩,
    .op ⟨(some 10), (.mv (.tmp 16)), none⟩,
    .op ⟨(some 17), (.extract (.tmp 10) 0), none⟩,
    .op ⟨(some 18), (.extract (.tmp 10) 1), none⟩,
    .op ⟨(some 4), (.mv (.tmp 17)), none⟩,
    .op ⟨(some 5), (.mv (.tmp 18)), none⟩]
def r_f12_3 : List SOp :=
   [.op ⟨(some 19), (.mv (.tmp 5)), none⟩,
    .op ⟨(some 20), (.un .not (.tmp 19)), none⟩]
def r_f12_4 : List SOp :=
   [.op ⟨(some 21), (.load false 1 (.tmp 2)), none⟩,
    .op ⟨(some 22), (.nilchk (.tmp 21)), none⟩,
    .op ⟨(some 23), (.faddr 1 (.tmp 22)), none⟩,
    .op ⟨(some 24), (.load false 1 (.tmp 23)), none⟩,
    .op ⟨(some 25), (.load false 1 (.tmp 3)), none⟩,
    .op ⟨none, .bad, none⟩]
def r_f12_5 : List SOp :=
   [.op ⟨(some 26), (.load false 1 (.tmp 2)), none⟩,
    .op ⟨(some 27), (.nilchk (.tmp 26)), none⟩,
    .op ⟨(some 28), (.faddr 2 (.tmp 27)), none⟩,
    .op ⟨(some 29), (.load false 1 (.tmp 28)), none⟩,
    .op ⟨(some 30), (.mrange (.tmp 29)), none⟩]
def r_f12_6 : List SOp :=
   [.op ⟨(some 31), (.mnext (.tmp 30)), none⟩,
    .op ⟨(some 32), (.extract (.tmp 31) 0), none⟩]
def r_f12_7 : List SOp :=
   [.op ⟨(some 33), (.mentry (.tmp 30)), none⟩,
    .op ⟨(some 34), (.extract (.tmp 33) 1), none⟩,
    .op ⟨(some 7), (.mv (.tmp 34)), none⟩]
def r_f12_8 : List SOp :=
   [.op ⟨(some 35), (.mv (.tmp 7)), none⟩,
    .op ⟨(some 36), (.load false 1 (.tmp 3)), none⟩,
    .op ⟨none, .bad, none⟩]
def r_f12_9 : List SOp :=
   [.op ⟨(some 37), (.load false 1 (.tmp 2)), none⟩,
    .op ⟨(some 38), (.mv (.tmp 4)), none⟩,
    .op ⟨(some 39), (.mkfn 41 [(.tmp 2), (.tmp 3)]), none⟩,
    .op ⟨(some 40), (.call 39 [(.tmp 37), (.tmp 38), (.tmp 39)]), none⟩]
def c_f12 : LFun := ⟨41, (.seq (.sreg r_f12_0 [])
  (.seq (.seq (.sreg r_f12_1 [true, false])
  (.cond (.tmp 9) .ret
  .skip))
  (.seq (.sdreg r_f12_2 [(.read 0 0), (.read 0 0), .pure, (.read 0 0), (.read 0 0), (.read 0 0), .pure, .pure, .pure, .pure] [true, true, false, false, false, false, false, false, false, false, false])
  (.seq (.seq (.sreg r_f12_3 [true, false])
  (.cond (.tmp 20) .ret
  .skip))
  (.seq (.sdreg r_f12_4 [(.read 0 0), (.read 0 0), .pure, (.read 0 0), (.read 0 0)] [false, false, false, false, false])
  (.seq (.seq (.sreg r_f12_5 [true, false, false, false, false])
  (.block 0 (.loop (.seq (.sreg r_f12_6 [true, false])
  (.seq (.cond (.tmp 32) .skip
  (.exit 0))
  (.block 1 (.seq (.sreg r_f12_7 [true, false, false])
  (.sreg r_f12_8 [false, false]))))))))
  (.sreg r_f12_9 [false, false, false, false]))))))), []⟩
def o_f12 : Nat → Nat → Nat := fun _ _ => 1
theorem c_f12_eq : lowF Tryz.prog o_f12 12 = some c_f12.raw := by kernel_rfl
theorem c_f12_ok : c_f12.code.okc = true := by kernel_rfl
/-! slices.Clone[[]string,string] -/
def r_f37_0 : List SOp :=
   [.op ⟨(some 2), (.mv (.av (.sl [] 0 (some 0)))), none⟩]
def r_f37_1 : List SOp :=
   [.op ⟨(some 3), (.mv (.tmp 0)), none⟩,
    .op ⟨(some 4), (.slnil false (.tmp 3)), none⟩]
def r_f37_2 : List SOp :=
   [.op ⟨(some 2), (.mv (.av (.sl [] 0 (some 0)))), none⟩]
def r_f37_3 : List SOp :=
   [.op ⟨(some 5), (.bslice false 1 0 [] []), none⟩,
    .op ⟨(some 6), (.mv (.tmp 0)), none⟩,
    .op ⟨(some 7), (.app 1 1 16 [(.str [])] (.tmp 5) (.tmp 6)), none⟩,
    .op ⟨(some 2), (.mv (.tmp 7)), none⟩]
def c_f37 : LFun := ⟨8, (.seq (.sreg r_f37_0 [])
  (.seq (.seq (.sreg r_f37_1 [true, false])
  (.cond (.tmp 4) (.seq (.sreg r_f37_2 [])
  .ret)
  .skip))
  (.seq (.sreg r_f37_3 [true, false, false, false])
  .ret))), [(.tmp 2)]⟩
def o_f37 : Nat → Nat → Nat := fun _ _ => 1
theorem c_f37_eq : lowF Tryz.prog o_f37 37 = some c_f37.raw := by kernel_rfl
theorem c_f37_ok : c_f37.code.okc = true := by kernel_rfl
/-! castellan/entry.Get -/
def r_f38_0 : List SOp :=
   [.op ⟨(some 4), (.mv (.av (.sl [] 0 (some 0)))), none⟩]
def r_f38_1 : List SOp :=
   [.op ⟨(some 8), (.mv (.tmp 0)), none⟩,
    .op ⟨(some 9), (.mv (.tmp 1)), none⟩,
    .op ⟨(some 10), (.call 77 [(.tmp 8), (.tmp 9)]), none⟩,
    .op ⟨(some 7), (.mv (.tmp 10)), none⟩,
    .op ⟨(some 11), (.extract (.tmp 7) 0), none⟩,
    .op ⟨(some 12), (.extract (.tmp 7) 1), none⟩,
    .op ⟨(some 5), (.mv (.tmp 11)), none⟩,
    .op ⟨(some 6), (.mv (.tmp 12)), none⟩]
def r_f38_2 : List SOp :=
   [.op ⟨(some 13), (.mv (.tmp 6)), none⟩]
def r_f38_3 : List SOp :=
   [.op ⟨(some 14), (.mv (.tmp 0)), none⟩,
    .op ⟨(some 15), (.mv (.tmp 5)), none⟩,
    .op ⟨(some 16), (.iaddr 2 (.tmp 14) (.tmp 15)), none⟩,
    .op ⟨(some 17), (.faddr 1 (.tmp 16)), none⟩,
    .op ⟨(some 18), (.load false 1 (.tmp 17)), none⟩,
    .op ⟨(some 19), (.call 37 [(.tmp 18)]), none⟩,
    .op ⟨(some 4), (.mv (.tmp 19)), none⟩]
def r_f38_4 : List SOp :=
   [.op ⟨(some 4), (.mv (.av (.sl [] 0 (some 0)))), none⟩]
def c_f38 : LFun := ⟨20, (.seq (.sreg r_f38_0 [])
  (.seq (.seq (.sreg r_f38_1 [true, true, false, false, false, false, false, false])
  (.seq (.sreg r_f38_2 [])
  (.cond (.tmp 13) (.seq (.sreg r_f38_3 [true, false, false, false, false, false, false])
  .ret)
  .skip)))
  (.seq (.sreg r_f38_4 [])
  .ret))), [(.tmp 4)]⟩
def o_f38 : Nat → Nat → Nat := fun _ _ => 1
theorem c_f38_eq : lowF Tryz.prog o_f38 38 = some c_f38.raw := by kernel_rfl
theorem c_f38_ok : c_f38.code.okc = true := by kernel_rfl
/-! (*castellan/index.Index).Put$1 -/
def r_f40_0 : List SOp :=
   [.op ⟨(some 3), (.box (.tmp 0)), none⟩]
def r_f40_1 : List SOp :=
   [.op ⟨(some 4), (.load false 1 (.tmp 1)), none⟩,
    .op ⟨(some 5), (.nilchk (.tmp 4)), none⟩,
    .op ⟨(some 6), (.faddr 3 (.tmp 5)), none⟩,
    .op ⟨(some 7), (.load false 1 (.tmp 6)), none⟩,
    .op ⟨(some 8), (.load true 3 (.tmp 3)), none⟩,
    .op ⟨(some 9), (.mget (.st [.str, .bool, .str]) false .nilmap (.tmp 7) (.tmp 8)), none⟩,
    .op ⟨(some 10), (.eqk false .map (.tmp 9) (.av .nilmap)), none⟩]
def r_f40_2 : List (LOper × Kd) :=
   [(⟨(some 11), (.load false 1 (.tmp 1)), none⟩, (.read 0 1)),
    (⟨(some 12), (.nilchk (.tmp 11)), none⟩, (.read 0 1)),
    (⟨(some 13), (.faddr 3 (.tmp 12)), none⟩, .pure),
    (⟨(some 14), (.load false 1 (.tmp 13)), none⟩, (.read 0 1)),
    (⟨(some 15), (.load true 3 (.tmp 3)), none⟩, (.read 0 1)),
    (⟨(some 16), .mkmap, none⟩, .eff)]
def r_f40_2t : List LOper :=
   [⟨none, (.mset (.st [.str, .bool, .str]) (.tmp 14) (.tmp 15) (.tmp 16)), none⟩]
def r_f40_3 : List (LOper × Kd) :=
   [(⟨(some 17), (.load false 1 (.tmp 1)), none⟩, (.read 0 0)),
    (⟨(some 18), (.nilchk (.tmp 17)), none⟩, (.read 0 0)),
    (⟨(some 19), (.faddr 3 (.tmp 18)), none⟩, .pure),
    (⟨(some 20), (.load false 1 (.tmp 19)), none⟩, (.read 0 0)),
    (⟨(some 21), (.load true 3 (.tmp 3)), none⟩, (.read 0 0)),
    (⟨(some 22), (.mget (.st [.str, .bool, .str]) false .nilmap (.tmp 20) (.tmp 21)), none⟩, (.read 0 0)),
    (⟨(some 23), (.load false 1 (.tmp 2)), none⟩, (.read 0 0))]
def r_f40_3t : List LOper :=
   [⟨none, (.mset .int (.tmp 22) (.tmp 23) (.av (.bool true))), none⟩]
def c_f40 : LFun := ⟨24, (.seq (.sreg r_f40_0 [])
  (.seq (.seq (.sdreg r_f40_1 [(.read 0 0), (.read 0 0), .pure, (.read 0 0), (.read 0 0)] [true, false, false, false, false, false, false])
  (.cond (.tmp 10) (.dregM r_f40_2 r_f40_2t [false, false, false, false, false, false])
  .skip))
  (.dregM r_f40_3 r_f40_3t [false, false, false, false, false, false, false]))), []⟩
def o_f40 : Nat → Nat → Nat := fun _ _ => 1
theorem c_f40_eq : lowF Tryz.prog o_f40 40 = some c_f40.raw := by kernel_rfl
theorem c_f40_ok : c_f40.code.okc = true := by kernel_rfl
/-! (*castellan/index.Index).each -/
def r_f39_0 : List SOp :=
   [.op ⟨(some 14), (.mv (.tmp 0)), none⟩,
    .op ⟨(some 15), (.nilchk (.tmp 14)), none⟩,
    .op ⟨(some 16), (.faddr 0 (.tmp 15)), none⟩,
    .op ⟨(some 17), (.load false 1 (.tmp 16)), none⟩,
    .op ⟨(some 18), (.mrange (.tmp 17)), none⟩]
def r_f39_1 : List SOp :=
   [.op ⟨(some 19), (.mnext (.tmp 18)), none⟩,
    .op ⟨(some 20), (.extract (.tmp 19) 0), none⟩]
def r_f39_2 : List SOp :=
   [.op ⟨(some 21), (.mentry (.tmp 18)), none⟩,
    .op ⟨(some 22), (.extract (.tmp 21) 0), none⟩,
    .op ⟨(some 23), (.extract (.tmp 21) 1), none⟩,
    .op ⟨(some 7), (.alloc [(.str []), (.int .i64 0), (.bool false), (.bool false)]), none⟩,
    .op ⟨(some 6), (.mv (.tmp 22)), none⟩,
    .op ⟨none, (.store 4 (.tmp 7) (.tmp 23)), none⟩]
def r_f39_3 : List SOp :=
   [.op ⟨(some 24), (.mv (.tmp 1)), none⟩,
    .op ⟨(some 25), (.mv (.tmp 6)), none⟩,
    .op ⟨(some 26), (.call 38 [(.tmp 24), (.tmp 25)]), none⟩,
    .op ⟨(some 27), (.len false (.tmp 26)), none⟩,
    .op ⟨(some 28), (.mv (.av (.int .i64 0))), none⟩]
def r_f39_4 : List SOp :=
   [.op ⟨(some 29), (.bin .lss (.tmp 28) (.tmp 27)), none⟩]
def r_f39_5 : List SOp :=
   [.op ⟨(some 30), (.iaddr 1 (.tmp 26) (.tmp 28)), none⟩,
    .op ⟨(some 31), (.load false 1 (.tmp 30)), none⟩,
    .op ⟨(some 9), (.mv (.tmp 31)), none⟩]
def r_f39_6 : List SOp :=
   [.op ⟨(some 33), (.faddr 1 (.tmp 7)), none⟩,
    .op ⟨(some 34), (.load false 1 (.tmp 33)), none⟩,
    .op ⟨(some 35), (.mv (.tmp 9)), none⟩,
    .op ⟨(some 36), (.call 8 [(.tmp 34), (.tmp 35)]), none⟩,
    .op ⟨(some 32), (.mv (.tmp 36)), none⟩,
    .op ⟨(some 37), (.extract (.tmp 32) 0), none⟩,
    .op ⟨(some 38), (.extract (.tmp 32) 1), none⟩,
    .op ⟨(some 10), (.mv (.tmp 37)), none⟩,
    .op ⟨(some 11), (.mv (.tmp 38)), none⟩]
def r_f39_7 : List SOp :=
   [.op ⟨(some 39), (.mv (.tmp 11)), none⟩,
    .op ⟨(some 40), (.un .not (.tmp 39)), none⟩]
def r_f39_8 : List SOp :=
   [.op ⟨(some 41), (.mv (.tmp 2)), none⟩,
    .op ⟨(some 42), (.mv (.tmp 6)), none⟩,
    .op ⟨(some 43), (.mv (.tmp 10)), none⟩,
    .op ⟨(some 44), (.build [(.str []), (.bool false), (.str [])] [(0, 1, (.tmp 42)), (1, 1, (.av (.bool false))), (2, 1, (.tmp 43))]), none⟩,
    .op ⟨(some 45), (.callv (.tmp 41) [(.tmp 44)]), none⟩]
def r_f39_9 : List SOp :=
   [.op ⟨(some 46), (.mv (.tmp 10)), none⟩,
    .op ⟨(some 47), (.call 49 [(.tmp 46)]), none⟩,
    .op ⟨(some 48), (.len false (.tmp 47)), none⟩,
    .op ⟨(some 49), (.mv (.av (.int .i64 0))), none⟩]
def r_f39_10 : List SOp :=
   [.op ⟨(some 50), (.bin .lss (.tmp 49) (.tmp 48)), none⟩]
def r_f39_11 : List SOp :=
   [.op ⟨(some 51), (.iaddr 1 (.tmp 47) (.tmp 49)), none⟩,
    .op ⟨(some 52), (.load false 1 (.tmp 51)), none⟩,
    .op ⟨(some 13), (.mv (.tmp 52)), none⟩]
def r_f39_12 : List SOp :=
   [.op ⟨(some 53), (.mv (.tmp 2)), none⟩,
    .op ⟨(some 54), (.mv (.tmp 6)), none⟩,
    .op ⟨(some 55), (.mv (.tmp 13)), none⟩,
    .op ⟨(some 56), (.build [(.str []), (.bool false), (.str [])] [(0, 1, (.tmp 54)), (1, 1, (.av (.bool true))), (2, 1, (.tmp 55))]), none⟩,
    .op ⟨(some 57), (.callv (.tmp 53) [(.tmp 56)]), none⟩]
def r_f39_13 : List SOp :=
   [.op ⟨(some 58), (.bin .add (.tmp 49) (.av (.int .i64 1))), none⟩,
    .op ⟨(some 49), (.mv (.tmp 58)), none⟩]
def r_f39_14 : List SOp :=
   [.op ⟨(some 59), (.bin .add (.tmp 28) (.av (.int .i64 1))), none⟩,
    .op ⟨(some 28), (.mv (.tmp 59)), none⟩]
def c_f39 : LFun := ⟨60, (.seq (.sreg r_f39_0 [true, false, false, false, false])
  (.block 0 (.loop (.seq (.sreg r_f39_1 [true, false])
  (.seq (.cond (.tmp 20) .skip
  (.exit 0))
  (.block 1 (.seq (.sreg r_f39_2 [true, true, false, false, false])
  (.seq (.sreg r_f39_3 [true, true, true, false, false])
  (.block 2 (.loop (.seq (.sreg r_f39_4 [])
  (.seq (.cond (.tmp 29) .skip
  (.exit 2))
  (.seq (.block 3 (.seq (.sreg r_f39_5 [true, false, false])
  (.seq (.sreg r_f39_6 [true, true, false, false, false, false, false, false, false])
  (.seq (.seq (.sreg r_f39_7 [true, false])
  (.cond (.tmp 40) (.exit 3)
  .skip))
  (.seq (.sreg r_f39_8 [false, false, false, false, false])
  (.seq (.sreg r_f39_9 [true, true, true, false])
  (.block 4 (.loop (.seq (.sreg r_f39_10 [])
  (.seq (.cond (.tmp 50) .skip
  (.exit 4))
  (.seq (.block 5 (.seq (.sreg r_f39_11 [true, false, false])
  (.sreg r_f39_12 [false, false, false, false, false])))
  (.sreg r_f39_13 [true, false]))))))))))))
  (.sreg r_f39_14 [true, false])))))))))))))), []⟩
def o_f39 : Nat → Nat → Nat := fun _ _ => 1
theorem c_f39_eq : lowF Tryz.prog o_f39 39 = some c_f39.raw := by kernel_rfl
theorem c_f39_ok : c_f39.code.okc = true := by kernel_rfl
/-! (*castellan/castellanref10.Reader).Filter -/
def r_f85_0 : List SOp :=
   [.op ⟨(some 4), (.alloc [(.int .i64 0), (.str []), (.str []), (.sl [] 0 (some 0)), (.sl [] 0 (some 0))]), none⟩]
def r_f85_1 : List SOp :=
   [.op ⟨(some 7), (.mv (.tmp 0)), none⟩,
    .op ⟨(some 8), (.call 118 [(.tmp 7), (.av (.int .u8 40))]), none⟩,
    .op ⟨(some 9), (.un .not (.tmp 8)), none⟩]
def r_f85_2 : List SOp :=
   [.op ⟨(some 10), (.mv (.tmp 0)), none⟩,
    .op ⟨(some 11), (.call 119 [(.tmp 10), (.av (.int .i64 4))]), none⟩,
    .op ⟨none, (.store 5 (.tmp 4) (.tmp 11)), none⟩]
def r_f85_3 : List SOp :=
   [.op ⟨(some 12), (.mv (.tmp 0)), none⟩,
    .op ⟨(some 13), (.nilchk (.tmp 12)), none⟩,
    .op ⟨(some 14), (.faddr 2 (.tmp 13)), none⟩,
    .op ⟨(some 15), (.load false 1 (.tmp 14)), none⟩,
    .op ⟨(some 16), (.bin .add (.tmp 15) (.av (.int .i64 1))), none⟩,
    .op ⟨(some 17), (.nilchk (.tmp 12)), none⟩,
    .op ⟨(some 18), (.faddr 2 (.tmp 17)), none⟩,
    .op ⟨none, (.store 1 (.tmp 18) (.tmp 16)), none⟩]
def r_f85_4 : List SOp :=
   [.op ⟨(some 19), (.mv (.tmp 1)), none⟩,
    .op ⟨(some 20), (.bin .gtr (.tmp 19) (.av (.int .i64 64))), none⟩]
def r_f85_5 : List SOp :=
   [.op ⟨(some 21), (.mv (.tmp 0)), none⟩,
    .op ⟨(some 22), (.call 119 [(.tmp 21), (.av (.int .i64 6))]), none⟩,
    .op ⟨none, (.store 5 (.tmp 4) (.tmp 22)), none⟩]
def r_f85_6 : List SOp :=
   [.op ⟨(some 23), (.mv (.tmp 0)), none⟩,
    .op ⟨(some 24), (.nilchk (.tmp 23)), none⟩,
    .op ⟨(some 25), (.faddr 2 (.tmp 24)), none⟩,
    .op ⟨(some 26), (.load false 1 (.tmp 25)), none⟩,
    .op ⟨(some 27), (.bin .gtr (.tmp 26) (.av (.int .i64 1000))), none⟩]
def r_f85_7 : List SOp :=
   [.op ⟨(some 28), (.mv (.tmp 0)), none⟩,
    .op ⟨(some 29), (.call 119 [(.tmp 28), (.av (.int .i64 9))]), none⟩,
    .op ⟨none, (.store 5 (.tmp 4) (.tmp 29)), none⟩]
def r_f85_8 : List SOp :=
   [.op ⟨(some 5), (.mv (.av (.int .i64 0))), none⟩]
def r_f85_9 : List SOp :=
   [.op ⟨(some 30), (.mv (.tmp 5)), none⟩,
    .op ⟨(some 31), (.bin .lss (.tmp 30) (.av (.int .i64 3))), none⟩]
def r_f85_10 : List SOp :=
   [.op ⟨(some 34), (.mv (.tmp 0)), none⟩,
    .op ⟨(some 35), (.mv (.tmp 5)), none⟩,
    .op ⟨(some 36), (.idxS (.av (.str [38, 124, 33])) (.tmp 35)), none⟩,
    .op ⟨(some 37), (.call 118 [(.tmp 34), (.tmp 36)]), none⟩,
    .op ⟨(some 38), (.un .not (.tmp 37)), none⟩]
def r_f85_11 : List SOp :=
   [.op ⟨(some 39), (.mv (.tmp 5)), none⟩,
    .op ⟨(some 40), (.build [(.int .i64 0), (.str []), (.str []), (.sl [] 0 (some 0)), (.sl [] 0 (some 0))] [(0, 1, (.tmp 39))]), none⟩,
    .op ⟨(some 6), (.alloc [(.int .i64 0), (.str []), (.str []), (.sl [] 0 (some 0)), (.sl [] 0 (some 0))]), none⟩,
    .op ⟨none, (.store 5 (.tmp 6) (.tmp 40)), none⟩]
def r_f85_12 : List SOp :=
   [.op ⟨(some 41), (.mv (.tmp 5)), none⟩,
    .op ⟨(some 42), (.bin .eql (.tmp 41) (.av (.int .i64 2))), none⟩]
def r_f85_13 : List (LOper × Kd) :=
   [(⟨(some 43), (.faddr 4 (.tmp 6)), none⟩, .pure),
    (⟨(some 44), (.load false 1 (.tmp 43)), none⟩, (.read 0 1)),
    (⟨(some 45), (.mv (.tmp 0)), none⟩, .pure),
    (⟨(some 46), (.mv (.tmp 1)), none⟩, .pure),
    (⟨(some 47), (.bin .add (.tmp 46) (.av (.int .i64 1))), none⟩, .pure),
    (⟨(some 48), (.call 85 [(.tmp 45), (.tmp 47)]), none⟩, .eff),
    (⟨(some 49), (.bslice false 5 1 [(.int .i64 0), (.str []), (.str []), (.sl [] 0 (some 0)), (.sl [] 0 (some 0))] [(0, 5, (.tmp 48))]), none⟩, (.read 0 0))]
def r_f85_13t : List LOper :=
   [⟨(some 50), (.app 1 5 88 [(.int .i64 0), (.str []), (.str []), (.sl [] 0 (some 0)), (.sl [] 0 (some 0))] (.tmp 44) (.tmp 49)), none⟩,
    ⟨(some 51), (.faddr 4 (.tmp 6)), none⟩,
    ⟨none, (.store 1 (.tmp 51) (.tmp 50)), none⟩]
def r_f85_14 : List SOp :=
   [.op ⟨(some 52), (.mv (.tmp 5)), none⟩,
    .op ⟨(some 53), (.bin .lss (.tmp 52) (.av (.int .i64 2))), none⟩,
    .op ⟨(some 54), (.mv (.tmp 53)), none⟩,
    .grp none 54 true
      [.op ⟨(some 55), (.mv (.tmp 0)), (some (54, true))⟩,
      .op ⟨(some 56), (.nilchk (.tmp 55)), (some (54, true))⟩,
      .op ⟨(some 57), (.faddr 3 (.tmp 56)), (some (54, true))⟩,
      .op ⟨(some 58), (.load false 1 (.tmp 57)), (some (54, true))⟩,
      .op ⟨(some 59), (.bin .eql (.tmp 58) (.av (.int .i64 0))), (some (54, true))⟩]
      60 (.tmp 59),
    .op ⟨(some 61), (.mv (.tmp 60)), none⟩,
    .grp none 61 true
      [.op ⟨(some 62), (.mv (.tmp 0)), (some (61, true))⟩,
      .op ⟨(some 63), (.nilchk (.tmp 62)), (some (61, true))⟩,
      .op ⟨(some 64), (.faddr 1 (.tmp 63)), (some (61, true))⟩,
      .op ⟨(some 65), (.load false 1 (.tmp 64)), (some (61, true))⟩,
      .op ⟨(some 66), (.mv (.tmp 0)), (some (61, true))⟩,
      .op ⟨(some 67), (.nilchk (.tmp 66)), (some (61, true))⟩,
      .op ⟨(some 68), (.faddr 0 (.tmp 67)), (some (61, true))⟩,
      .op ⟨(some 69), (.load false 1 (.tmp 68)), (some (61, true))⟩,
      .op ⟨(some 70), (.len true (.tmp 69)), (some (61, true))⟩,
      .op ⟨(some 71), (.bin .lss (.tmp 65) (.tmp 70)), (some (61, true))⟩]
      72 (.tmp 71),
    .op ⟨(some 73), (.mv (.tmp 72)), none⟩,
    .grp none 73 true
      [.op ⟨(some 74), (.mv (.tmp 0)), (some (73, true))⟩,
      .op ⟨(some 75), (.nilchk (.tmp 74)), (some (73, true))⟩,
      .op ⟨(some 76), (.faddr 0 (.tmp 75)), (some (73, true))⟩,
      .op ⟨(some 77), (.load false 1 (.tmp 76)), (some (73, true))⟩,
      .op ⟨(some 78), (.mv (.tmp 0)), (some (73, true))⟩,
      .op ⟨(some 79), (.nilchk (.tmp 78)), (some (73, true))⟩,
      .op ⟨(some 80), (.faddr 1 (.tmp 79)), (some (73, true))⟩,
      .op ⟨(some 81), (.load false 1 (.tmp 80)), (some (73, true))⟩,
      .op ⟨(some 82), (.idxS (.tmp 77) (.tmp 81)), (some (73, true))⟩,
      .op ⟨(some 83), (.bin .eql (.tmp 82) (.av (.int .u8 40))), (some (73, true))⟩]
      84 (.tmp 83)]
def r_f85_15 : List (LOper × Kd) :=
   [(⟨(some 85), (.faddr 4 (.tmp 6)), none⟩, .pure),
    (⟨(some 86), (.load false 1 (.tmp 85)), none⟩, (.read 0 1)),
    (⟨(some 87), (.mv (.tmp 0)), none⟩, .pure),
    (⟨(some 88), (.mv (.tmp 1)), none⟩, .pure),
    (⟨(some 89), (.bin .add (.tmp 88) (.av (.int .i64 1))), none⟩, .pure),
    (⟨(some 90), (.call 85 [(.tmp 87), (.tmp 89)]), none⟩, .eff),
    (⟨(some 91), (.bslice false 5 1 [(.int .i64 0), (.str []), (.str []), (.sl [] 0 (some 0)), (.sl [] 0 (some 0))] [(0, 5, (.tmp 90))]), none⟩, (.read 0 0))]
def r_f85_15t : List LOper :=
   [⟨(some 92), (.app 1 5 88 [(.int .i64 0), (.str []), (.str []), (.sl [] 0 (some 0)), (.sl [] 0 (some 0))] (.tmp 86) (.tmp 91)), none⟩,
    ⟨(some 93), (.faddr 4 (.tmp 6)), none⟩,
    ⟨none, (.store 1 (.tmp 93) (.tmp 92)), none⟩]
def r_f85_16 : List SOp :=
   [.op ⟨(some 94), (.mv (.tmp 0)), none⟩,
    .op ⟨(some 95), (.nilchk (.tmp 94)), none⟩,
    .op ⟨(some 96), (.faddr 3 (.tmp 95)), none⟩,
    .op ⟨(some 97), (.load false 1 (.tmp 96)), none⟩,
    .op ⟨(some 98), (.bin .eql (.tmp 97) (.av (.int .i64 0))), none⟩,
    .op ⟨(some 99), (.mv (.tmp 98)), none⟩,
    .op ⟨(some 100), (.mv (.tmp 0)), (some (99, true))⟩,
    .op ⟨(some 101), (.call 118 [(.tmp 100), (.av (.int .u8 41))]), (some (99, true))⟩,
    .op ⟨(some 102), (.un .not (.tmp 101)), (some (99, true))⟩,
    .op ⟨(some 103), (.pick (.tmp 99) (.tmp 102) (.av (.bool false))), none⟩]
def r_f85_17 : List SOp :=
   [.op ⟨(some 104), (.mv (.tmp 0)), none⟩,
    .op ⟨(some 105), (.call 119 [(.tmp 104), (.av (.int .i64 4))]), none⟩,
    .op ⟨none, (.store 5 (.tmp 4) (.tmp 105)), none⟩]
def r_f85_18 : List SOp :=
   [.op ⟨(some 106), (.load true 5 (.tmp 6)), none⟩,
    .op ⟨none, (.store 5 (.tmp 4) (.tmp 106)), none⟩]
def r_f85_19 : List SOp :=
   [.op ⟨(some 32), (.mv (.tmp 5)), none⟩,
    .op ⟨(some 33), (.bin .add (.tmp 32) (.av (.int .i64 1))), none⟩,
    .op ⟨(some 5), (.mv (.tmp 33)), none⟩]
def r_f85_20 : List SOp :=
   [.op ⟨(some 107), (.mv (.tmp 0)), none⟩,
    .op ⟨(some 108), (.call 120 [(.tmp 107)]), none⟩,
    .op ⟨none, (.store 5 (.tmp 4) (.tmp 108)), none⟩]
def c_f85 : LFun := ⟨109, (.seq (.sreg r_f85_0 [])
  (.seq (.seq (.sreg r_f85_1 [true, false, false])
  (.cond (.tmp 9) (.seq (.sreg r_f85_2 [false, false])
  .ret)
  .skip))
  (.seq (.sreg r_f85_3 [false, false, false, false, false, false, false])
  (.seq (.seq (.sreg r_f85_4 [true, false])
  (.cond (.tmp 20) (.seq (.sreg r_f85_5 [false, false])
  .ret)
  .skip))
  (.seq (.seq (.sreg r_f85_6 [true, false, false, false, false])
  (.cond (.tmp 27) (.seq (.sreg r_f85_7 [false, false])
  .ret)
  .skip))
  (.seq (.seq (.sreg r_f85_8 [])
  (.block 0 (.loop (.seq (.seq (.sreg r_f85_9 [true, false])
  (.cond (.tmp 31) .skip
  (.exit 0)))
  (.seq (.block 1 (.seq (.seq (.sreg r_f85_10 [true, false, false, false, false])
  (.cond (.tmp 38) (.exit 1)
  .skip))
  (.seq (.sreg r_f85_11 [true, false, false])
  (.seq (.seq (.sreg r_f85_12 [true, false])
  (.cond (.tmp 42) (.dregM r_f85_13 r_f85_13t [false, false, false, false, false, false, false, false, false])
  .skip))
  (.seq (.block 2 (.loop (.seq (.seq (.sdreg r_f85_14 [.pure, .pure, .pure, .pure, (.read 0 0), .pure, (.read 0 0), .pure, .pure, .pure, .pure, (.read 0 0), .pure, (.read 0 0), .pure, (.read 0 0), .pure, (.read 0 0), (.read 0 0), .pure, .pure, .pure, .pure, (.read 0 0), .pure, (.read 0 0), .pure, (.read 0 0), .pure, (.read 0 0)] [true, false, false, false, false, false, false, false])
  (.cond (.tmp 84) .skip
  (.exit 2)))
  (.block 3 (.dregM r_f85_15 r_f85_15t [false, false, false, false, false, false, false, false, false])))))
  (.seq (.seq (.sreg r_f85_16 [true, false, false, false, false, false, false, false, false, false])
  (.cond (.tmp 103) (.seq (.sreg r_f85_17 [false, false])
  .ret)
  .skip))
  (.seq (.sreg r_f85_18 [false])
  .ret)))))))
  (.sreg r_f85_19 [true, false, false]))))))
  (.seq (.sreg r_f85_20 [false, false])
  .ret))))))), [(.cell true 5 4)]⟩
def o_f85 : Nat → Nat → Nat := fun r i => if r = 14 ∧ i = 5 then 3 else if r = 16 ∧ i = 5 then 3 else 1
theorem c_f85_eq : lowF Tryz.prog o_f85 85 = some c_f85.raw := by kernel_rfl
theorem c_f85_ok : c_f85.code.okc = true := by kernel_rfl
/-! castellan/plan.among -/
def r_f86_0 : List SOp :=
   [.op ⟨(some 4), (.box (.tmp 1)), none⟩,
    .op ⟨(some 6), (.mv (.av (.sl [] 0 (some 0)))), none⟩,
    .op ⟨(some 7), (.mv (.av (.bool false))), none⟩]
def r_f86_1 : List SOp :=
   [.op ⟨(some 13), (.faddr 0 (.tmp 4)), none⟩,
    .op ⟨(some 14), (.load false 1 (.tmp 13)), none⟩]
def r_f86_2 : List SOp :=
   [.op ⟨(some 16), (.bin .eql (.tmp 14) (.av (.int .i64 0))), none⟩,
    .op ⟨(some 15), (.mv (.tmp 16)), none⟩]
def r_f86_3 : List SOp :=
   [.op ⟨(some 17), (.bin .eql (.tmp 14) (.av (.int .i64 1))), none⟩,
    .op ⟨(some 15), (.mv (.tmp 17)), none⟩]
def r_f86_4 : List SOp :=
   [.op ⟨(some 8), (.mv (.av (.sl [] 0 (some 0)))), none⟩]
def r_f86_5 : List SOp :=
   [.op ⟨(some 18), (.faddr 4 (.tmp 4)), none⟩,
    .op ⟨(some 19), (.load false 1 (.tmp 18)), none⟩,
    .op ⟨(some 20), (.len false (.tmp 19)), none⟩,
    .op ⟨(some 21), (.mv (.av (.int .i64 0))), none⟩]
def r_f86_6 : List SOp :=
   [.op ⟨(some 22), (.bin .lss (.tmp 21) (.tmp 20)), none⟩]
def r_f86_7 : List SOp :=
   [.op ⟨(some 23), (.iaddr 5 (.tmp 19) (.tmp 21)), none⟩,
    .op ⟨(some 24), (.load true 5 (.tmp 23)), none⟩,
    .op ⟨(some 10), (.alloc [(.int .i64 0), (.str []), (.str []), (.sl [] 0 (some 0)), (.sl [] 0 (some 0))]), none⟩,
    .op ⟨none, (.store 5 (.tmp 10) (.tmp 24)), none⟩]
def r_f86_8 : List SOp :=
   [.op ⟨(some 26), (.mv (.tmp 0)), none⟩,
    .op ⟨(some 27), (.load true 5 (.tmp 10)), none⟩,
    .op ⟨(some 28), (.mv (.tmp 2)), none⟩,
    .op ⟨(some 29), (.call 53 [(.tmp 26), (.tmp 27), (.tmp 28)]), none⟩,
    .op ⟨(some 25), (.mv (.tmp 29)), none⟩,
    .op ⟨(some 30), (.extract (.tmp 25) 0), none⟩,
    .op ⟨(some 31), (.extract (.tmp 25) 1), none⟩,
    .op ⟨(some 11), (.mv (.tmp 30)), none⟩,
    .op ⟨(some 12), (.mv (.tmp 31)), none⟩]
def r_f86_9 : List SOp :=
   [.op ⟨(some 33), (.mv (.tmp 12)), none⟩,
    .op ⟨(some 32), (.mv (.tmp 33)), none⟩]
def r_f86_10 : List SOp :=
   [.op ⟨(some 34), (.mv (.tmp 8)), none⟩,
    .op ⟨(some 35), (.mv (.tmp 11)), none⟩,
    .op ⟨(some 36), (.bslice false 1 1 [(.sl [] 0 (some 0))] [(0, 1, (.tmp 35))]), none⟩,
    .op ⟨(some 37), (.app 1 1 24 [(.sl [] 0 (some 0))] (.tmp 34) (.tmp 36)), none⟩,
    .op ⟨(some 8), (.mv (.tmp 37)), none⟩]
def r_f86_11 : List SOp :=
   [.op ⟨(some 39), (.faddr 0 (.tmp 4)), none⟩,
    .op ⟨(some 40), (.load false 1 (.tmp 39)), none⟩,
    .op ⟨(some 41), (.bin .eql (.tmp 40) (.av (.int .i64 1))), none⟩,
    .op ⟨(some 38), (.mv (.tmp 41)), none⟩]
def r_f86_12 : List SOp :=
   [.op ⟨(some 6), (.mv (.av (.sl [] 0 (some 0)))), none⟩,
    .op ⟨(some 7), (.mv (.av (.bool false))), none⟩]
def r_f86_13 : List SOp :=
   [.op ⟨(some 42), (.bin .add (.tmp 21) (.av (.int .i64 1))), none⟩,
    .op ⟨(some 21), (.mv (.tmp 42)), none⟩]
def r_f86_14 : List SOp :=
   [.op ⟨(some 43), (.faddr 0 (.tmp 4)), none⟩,
    .op ⟨(some 44), (.load false 1 (.tmp 43)), none⟩,
    .op ⟨(some 45), (.bin .eql (.tmp 44) (.av (.int .i64 1))), none⟩]
def r_f86_15 : List SOp :=
   [.op ⟨(some 46), (.mv (.tmp 8)), none⟩,
    .op ⟨(some 47), (.call 24 [(.tmp 46)]), none⟩,
    .op ⟨(some 6), (.mv (.tmp 47)), none⟩,
    .op ⟨(some 7), (.mv (.av (.bool true))), none⟩]
def r_f86_16 : List SOp :=
   [.op ⟨(some 48), (.mv (.tmp 8)), none⟩,
    .op ⟨(some 49), (.call 22 [(.tmp 48)]), none⟩,
    .op ⟨(some 50), (.mv (.tmp 8)), none⟩,
    .op ⟨(some 51), (.len false (.tmp 50)), none⟩,
    .op ⟨(some 52), (.bin .gtr (.tmp 51) (.av (.int .i64 0))), none⟩,
    .op ⟨(some 6), (.mv (.tmp 49)), none⟩,
    .op ⟨(some 7), (.mv (.tmp 52)), none⟩]
def r_f86_17 : List SOp :=
   [.op ⟨(some 54), (.bin .eql (.tmp 14) (.av (.int .i64 3))), none⟩,
    .op ⟨(some 53), (.mv (.tmp 54)), none⟩]
def r_f86_18 : List SOp :=
   [.op ⟨(some 55), (.bin .eql (.tmp 14) (.av (.int .i64 8))), none⟩,
    .op ⟨(some 53), (.mv (.tmp 55)), none⟩]
def r_f86_19 : List (LOper × Kd) :=
   [(⟨(some 56), (.mv (.tmp 0)), none⟩, .pure),
    (⟨(some 57), (.faddr 1 (.tmp 4)), none⟩, .pure),
    (⟨(some 58), (.load false 1 (.tmp 57)), none⟩, (.read 0 0)),
    (⟨(some 59), (.faddr 2 (.tmp 4)), none⟩, .pure),
    (⟨(some 60), (.load false 1 (.tmp 59)), none⟩, (.read 0 0)),
    (⟨(some 61), (.call 18 [(.tmp 56), (.tmp 58), (.tmp 60)]), none⟩, .eff),
    (⟨(some 62), (.mv (.tmp 0)), none⟩, .pure),
    (⟨(some 63), (.faddr 1 (.tmp 4)), none⟩, .pure),
    (⟨(some 64), (.load false 1 (.tmp 63)), none⟩, (.read 1 0))]
def r_f86_19t : List LOper :=
   [⟨(some 65), (.call 14 [(.tmp 62), (.tmp 64)]), none⟩,
    ⟨(some 6), (.mv (.tmp 61)), none⟩,
    ⟨(some 7), (.mv (.tmp 65)), none⟩]
def r_f86_20 : List SOp :=
   [.op ⟨(some 67), (.bin .eql (.tmp 14) (.av (.int .i64 7))), none⟩,
    .op ⟨(some 66), (.mv (.tmp 67)), none⟩]
def r_f86_21 : List (LOper × Kd) :=
   [(⟨(some 68), (.mv (.tmp 0)), none⟩, .pure),
    (⟨(some 69), (.faddr 1 (.tmp 4)), none⟩, .pure),
    (⟨(some 70), (.load false 1 (.tmp 69)), none⟩, (.read 0 0)),
    (⟨(some 71), (.call 17 [(.tmp 68), (.tmp 70)]), none⟩, .eff),
    (⟨(some 72), (.mv (.tmp 0)), none⟩, .pure),
    (⟨(some 73), (.faddr 1 (.tmp 4)), none⟩, .pure),
    (⟨(some 74), (.load false 1 (.tmp 73)), none⟩, (.read 1 0))]
def r_f86_21t : List LOper :=
   [⟨(some 75), (.call 14 [(.tmp 72), (.tmp 74)]), none⟩,
    ⟨(some 6), (.mv (.tmp 71)), none⟩,
    ⟨(some 7), (.mv (.tmp 75)), none⟩]
def r_f86_22 : List SOp :=
   [.op ⟨(some 77), (.bin .eql (.tmp 14) (.av (.int .i64 4))), none⟩,
    .op ⟨(some 76), (.mv (.tmp 77)), none⟩]
def r_f86_23 : List SOp :=
   [.op ⟨(some 78), (.mv (.tmp 0)), none⟩,
    .op ⟨(some 79), (.faddr 1 (.tmp 4)), none⟩,
    .op ⟨(some 80), (.load false 1 (.tmp 79)), none⟩,
    .op ⟨(some 81), (.call 14 [(.tmp 78), (.tmp 80)]), none⟩,
    .op ⟨(some 82), (.un .not (.tmp 81)), none⟩,
    .op ⟨(some 83), (.mv (.tmp 82)), none⟩,
    .op ⟨(some 84), (.mv (.tmp 0)), (some (83, false))⟩,
    .op ⟨(some 85), (.faddr 1 (.tmp 4)), (some (83, false))⟩,
    .op ⟨(some 86), (.load false 1 (.tmp 85)), (some (83, false))⟩,
    .op ⟨(some 87), (.call 15 [(.tmp 84), (.tmp 86)]), (some (83, false))⟩,
    .op ⟨(some 88), (.un .not (.tmp 87)), (some (83, false))⟩,
    .op ⟨(some 89), (.pick (.tmp 83) (.av (.bool true)) (.tmp 88)), none⟩,
    .op ⟨(some 90), (.mv (.tmp 89)), none⟩,
    .op ⟨(some 91), (.faddr 3 (.tmp 4)), (some (90, false))⟩,
    .op ⟨(some 92), (.load false 1 (.tmp 91)), (some (90, false))⟩,
    .op ⟨(some 93), (.build [(.int .i64 0), (.str []), (.str []), (.sl [] 0 (some 0)), (.sl [] 0 (some 0))] [(0, 1, (.av (.int .i64 4))), (1, 1, (.av (.str [97]))), (3, 1, (.tmp 92))]), (some (90, false))⟩,
    .op ⟨(some 94), (.call 73 [(.tmp 93)]), (some (90, false))⟩,
    .op ⟨(some 95), (.bin .neq (.tmp 94) (.av (.int .i64 0))), (some (90, false))⟩,
    .op ⟨(some 96), (.pick (.tmp 90) (.av (.bool true)) (.tmp 95)), none⟩]
def r_f86_24 : List SOp :=
   [.op ⟨(some 6), (.mv (.av (.sl [] 0 (some 0)))), none⟩,
    .op ⟨(some 7), (.mv (.av (.bool false))), none⟩]
def r_f86_25 : List SOp :=
   [.op ⟨(some 97), (.mv (.tmp 0)), none⟩,
    .op ⟨(some 98), (.faddr 1 (.tmp 4)), none⟩,
    .op ⟨(some 99), (.load false 1 (.tmp 98)), none⟩,
    .op ⟨(some 100), (.faddr 3 (.tmp 4)), none⟩,
    .op ⟨(some 101), (.load false 1 (.tmp 100)), none⟩,
    .op ⟨(some 102), (.call 19 [(.tmp 97), (.tmp 99), (.tmp 101)]), none⟩,
    .op ⟨(some 6), (.mv (.tmp 102)), none⟩,
    .op ⟨(some 7), (.mv (.av (.bool true))), none⟩]
def r_f86_26 : List SOp :=
   [.op ⟨(some 6), (.mv (.av (.sl [] 0 (some 0)))), none⟩,
    .op ⟨(some 7), (.mv (.av (.bool false))), none⟩]
def c_f86 : LFun := ⟨103, (.seq (.sreg r_f86_0 [])
  (.seq (.seq (.sreg r_f86_1 [true, false])
  (.block 0 (.seq (.seq (.sreg r_f86_2 [true, false])
  (.cond (.tmp 15) .skip
  (.sreg r_f86_3 [true, false])))
  (.cond (.tmp 15) (.seq (.sreg r_f86_4 [])
  (.seq (.seq (.sreg r_f86_5 [true, true, true, false])
  (.block 1 (.loop (.seq (.sreg r_f86_6 [])
  (.seq (.cond (.tmp 22) .skip
  (.exit 1))
  (.seq (.block 2 (.seq (.sreg r_f86_7 [true, false, false])
  (.seq (.sreg r_f86_8 [true, true, false, false, false, false, false, false, false])
  (.block 3 (.seq (.sreg r_f86_9 [true, false])
  (.cond (.tmp 32) (.sreg r_f86_10 [true, false, false, false, false])
  (.seq (.sreg r_f86_11 [true, false, false, false])
  (.cond (.tmp 38) (.seq (.sreg r_f86_12 [])
  .ret)
  .skip))))))))
  (.sreg r_f86_13 [true, false])))))))
  (.seq (.seq (.sreg r_f86_14 [true, false, false])
  (.cond (.tmp 45) (.seq (.sreg r_f86_15 [true, true, false, false])
  .ret)
  .skip))
  (.seq (.sreg r_f86_16 [true, true, false, false, false, false, false])
  .ret))))
  (.seq (.seq (.sreg r_f86_17 [true, false])
  (.cond (.tmp 53) .skip
  (.sreg r_f86_18 [true, false])))
  (.cond (.tmp 53) (.seq (.dregM r_f86_19 r_f86_19t [true, true, false, false, false, false, false, false, false, false, false, false])
  .ret)
  (.seq (.sreg r_f86_20 [true, false])
  (.cond (.tmp 66) (.seq (.dregM r_f86_21 r_f86_21t [true, true, false, false, false, false, false, false, false, false])
  .ret)
  (.seq (.sreg r_f86_22 [true, false])
  (.cond (.tmp 76) (.seq (.seq (.sreg r_f86_23 [true, false, false, false, false, false, false, false, false, false, false, false, false, false, false, false, false, false, false])
  (.cond (.tmp 96) (.seq (.sreg r_f86_24 [])
  .ret)
  .skip))
  (.seq (.sreg r_f86_25 [true, true, false, false, false, false, false, false])
  .ret))
  .skip))))))))))
  (.seq (.sreg r_f86_26 [])
  .ret))), [(.tmp 6), (.tmp 7)]⟩
def o_f86 : Nat → Nat → Nat := fun r i => if r = 19 ∧ i = 5 then 3 else if r = 19 ∧ i = 9 then 3 else if r = 21 ∧ i = 3 then 3 else if r = 21 ∧ i = 7 then 3 else 1
theorem c_f86_eq : lowF Tryz.prog o_f86 86 = some c_f86.raw := by kernel_rfl
theorem c_f86_ok : c_f86.code.okc = true := by kernel_rfl
/-! (castellan/schema.book).kind -/
def r_f113_0 : List SOp :=
   [.op ⟨(some 2), (.box (.tmp 0)), none⟩,
    .op ⟨(some 3), (.box (.tmp 1)), none⟩,
    .op ⟨(some 4), (.alloc [(.str []), (.int .i64 0), (.bool false), (.bool false)]), none⟩,
    .op ⟨(some 5), (.mv (.av (.bool false))), none⟩]
def r_f113_1 : List SOp :=
   [.op ⟨(some 7), (.faddr 0 (.tmp 2)), none⟩,
    .op ⟨(some 8), (.faddr 0 (.tmp 7)), none⟩,
    .op ⟨(some 9), (.load false 1 (.tmp 8)), none⟩,
    .op ⟨(some 10), (.mkfn 145 [(.tmp 3)]), none⟩,
    .op ⟨(some 11), (.call 144 [(.tmp 9), (.tmp 10)]), none⟩,
    .op ⟨(some 6), (.mv (.tmp 11)), none⟩]
def r_f113_2 : List SOp :=
   [.op ⟨(some 12), (.mv (.tmp 6)), none⟩,
    .op ⟨(some 13), (.bin .lss (.tmp 12) (.av (.int .i64 0))), none⟩]
def r_f113_3 : List SOp :=
   [.op ⟨(some 14), (.build [(.str []), (.int .i64 0), (.bool false), (.bool false)] []), none⟩,
    .op ⟨none, (.store 4 (.tmp 4) (.tmp 14)), none⟩,
    .op ⟨(some 5), (.mv (.av (.bool false))), none⟩]
def r_f113_4 : List SOp :=
   [.op ⟨(some 15), (.faddr 0 (.tmp 2)), none⟩,
    .op ⟨(some 16), (.faddr 0 (.tmp 15)), none⟩,
    .op ⟨(some 17), (.load false 1 (.tmp 16)), none⟩,
    .op ⟨(some 18), (.mv (.tmp 6)), none⟩,
    .op ⟨(some 19), (.iaddr 4 (.tmp 17) (.tmp 18)), none⟩,
    .op ⟨(some 20), (.load true 4 (.tmp 19)), none⟩,
    .op ⟨none, (.store 4 (.tmp 4) (.tmp 20)), none⟩,
    .op ⟨(some 5), (.mv (.av (.bool true))), none⟩]
def c_f113 : LFun := ⟨21, (.seq (.sreg r_f113_0 [])
  (.seq (.sreg r_f113_1 [true, false, false, false, false, false])
  (.seq (.seq (.sreg r_f113_2 [true, false])
  (.cond (.tmp 13) (.seq (.sreg r_f113_3 [true, false])
  .ret)
  .skip))
  (.seq (.sreg r_f113_4 [true, false, false, false, false, false, false])
  .ret)))), [(.cell true 4 4), (.tmp 5)]⟩
def o_f113 : Nat → Nat → Nat := fun _ _ => 1
theorem c_f113_eq : lowF Tryz.prog o_f113 113 = some c_f113.raw := by kernel_rfl
theorem c_f113_ok : c_f113.code.okc = true := by kernel_rfl
/-! castellan/entry.place -/
def r_f77_0 : List SOp :=
   [.op ⟨(some 4), (.mv (.av (.int .i64 0))), none⟩,
    .op ⟨(some 5), (.mv (.av (.bool false))), none⟩]
def r_f77_1 : List SOp :=
   [.op ⟨(some 6), (.mv (.tmp 0)), none⟩,
    .op ⟨(some 7), (.mv (.tmp 1)), none⟩,
    .op ⟨(some 8), (.call 44 [(.tmp 7)]), none⟩,
    .op ⟨(some 9), (.call 111 [(.tmp 6), (.tmp 8), (.av (.func 112 []))]), none⟩,
    .op ⟨(some 10), (.extract (.tmp 9) 0), none⟩,
    .op ⟨(some 11), (.extract (.tmp 9) 1), none⟩,
    .op ⟨(some 4), (.mv (.tmp 10)), none⟩,
    .op ⟨(some 5), (.mv (.tmp 11)), none⟩]
def c_f77 : LFun := ⟨12, (.seq (.sreg r_f77_0 [])
  (.seq (.sreg r_f77_1 [true, true, false, false, false, false, false, false])
  .ret)), [(.tmp 4), (.tmp 5)]⟩
def o_f77 : Nat → Nat → Nat := fun _ _ => 1
theorem c_f77_eq : lowF Tryz.prog o_f77 77 = some c_f77.raw := by kernel_rfl
theorem c_f77_ok : c_f77.code.okc = true := by kernel_rfl
/-! castellan/syntax.Norm -/
def r_f8_0 : List SOp :=
   [.op ⟨(some 4), (.mv (.av (.str []))), none⟩,
    .op ⟨(some 5), (.mv (.av (.bool false))), none⟩]
def r_f8_1 : List SOp :=
   [.op ⟨(some 10), (.mv (.tmp 1)), none⟩,
    .op ⟨(some 11), (.len true (.tmp 10)), none⟩,
    .op ⟨(some 12), (.bin .gtr (.tmp 11) (.av (.int .i64 4096))), none⟩]
def r_f8_2 : List SOp :=
   [.op ⟨(some 4), (.mv (.av (.str []))), none⟩,
    .op ⟨(some 5), (.mv (.av (.bool false))), none⟩]
def r_f8_3 : List SOp :=
   [.op ⟨(some 13), (.mv (.tmp 1)), none⟩,
    .op ⟨(some 6), (.mv (.tmp 13)), none⟩,
    .op ⟨(some 7), (.mv (.av (.bool false))), none⟩]
def r_f8_4 : List SOp :=
   [.op ⟨(some 14), (.mv (.tmp 0)), none⟩]
def r_f8_5 : List SOp :=
   [.op ⟨(some 16), (.bin .eql (.tmp 14) (.av (.int .i64 1))), none⟩,
    .op ⟨(some 15), (.mv (.tmp 16)), none⟩]
def r_f8_6 : List SOp :=
   [.op ⟨(some 17), (.mv (.tmp 1)), none⟩,
    .op ⟨(some 18), (.call 27 [(.tmp 17)]), none⟩,
    .op ⟨(some 19), (.mv (.tmp 1)), none⟩,
    .op ⟨(some 20), (.bin .neq (.tmp 19) (.av (.str []))), none⟩,
    .op ⟨(some 21), (.mv (.tmp 20)), none⟩,
    .op ⟨(some 22), (.mv (.tmp 1)), (some (21, true))⟩,
    .op ⟨(some 23), (.call 28 [(.tmp 22)]), (some (21, true))⟩,
    .op ⟨(some 24), (.pick (.tmp 21) (.tmp 23) (.av (.bool false))), none⟩,
    .op ⟨(some 6), (.mv (.tmp 18)), none⟩,
    .op ⟨(some 7), (.mv (.tmp 24)), none⟩]
def r_f8_7 : List SOp :=
   [.op ⟨(some 26), (.bin .eql (.tmp 14) (.av (.int .i64 2))), none⟩,
    .op ⟨(some 25), (.mv (.tmp 26)), none⟩]
def r_f8_8 : List SOp :=
   [.op ⟨(some 27), (.mv (.tmp 1)), none⟩,
    .op ⟨(some 28), (.bin .neq (.tmp 27) (.av (.str []))), none⟩,
    .op ⟨(some 29), (.mv (.tmp 28)), none⟩,
    .op ⟨(some 30), (.mv (.tmp 1)), (some (29, true))⟩,
    .op ⟨(some 31), (.call 28 [(.tmp 30)]), (some (29, true))⟩,
    .op ⟨(some 32), (.pick (.tmp 29) (.tmp 31) (.av (.bool false))), none⟩,
    .op ⟨(some 7), (.mv (.tmp 32)), none⟩]
def r_f8_9 : List SOp :=
   [.op ⟨(some 34), (.bin .eql (.tmp 14) (.av (.int .i64 3))), none⟩,
    .op ⟨(some 33), (.mv (.tmp 34)), none⟩]
def r_f8_10 : List SOp :=
   [.op ⟨(some 35), (.mv (.tmp 1)), none⟩,
    .op ⟨(some 36), (.call 27 [(.tmp 35)]), none⟩,
    .op ⟨(some 37), (.mv (.tmp 1)), none⟩,
    .op ⟨(some 38), (.call 29 [(.tmp 37), (.av (.func 30 []))]), none⟩,
    .op ⟨(some 39), (.bin .lss (.tmp 38) (.av (.int .i64 0))), none⟩,
    .op ⟨(some 6), (.mv (.tmp 36)), none⟩,
    .op ⟨(some 7), (.mv (.tmp 39)), none⟩]
def r_f8_11 : List SOp :=
   [.op ⟨(some 41), (.bin .eql (.tmp 14) (.av (.int .i64 4))), none⟩,
    .op ⟨(some 40), (.mv (.tmp 41)), none⟩]
def r_f8_12 : List SOp :=
   [.op ⟨(some 43), (.mv (.tmp 1)), none⟩,
    .op ⟨(some 44), (.call 31 [(.tmp 43)]), none⟩,
    .op ⟨(some 42), (.mv (.tmp 44)), none⟩,
    .op ⟨(some 45), (.extract (.tmp 42) 0), none⟩,
    .op ⟨(some 46), (.extract (.tmp 42) 1), none⟩,
    .op ⟨(some 7), (.mv (.tmp 46)), none⟩]
def r_f8_13 : List SOp :=
   [.op ⟨(some 48), (.bin .eql (.tmp 14) (.av (.int .i64 5))), none⟩,
    .op ⟨(some 47), (.mv (.tmp 48)), none⟩]
def r_f8_14 : List SOp :=
   [.op ⟨(some 49), (.mv (.tmp 1)), none⟩,
    .op ⟨(some 50), (.bin .eql (.tmp 49) (.av (.str [84, 82, 85, 69]))), none⟩,
    .op ⟨(some 51), (.mv (.tmp 50)), none⟩,
    .grp none 51 false
      [.op ⟨(some 52), (.mv (.tmp 1)), (some (51, false))⟩,
      .op ⟨(some 53), (.bin .eql (.tmp 52) (.av (.str [70, 65, 76, 83, 69]))), (some (51, false))⟩]
      54 (.tmp 53),
    .op ⟨(some 7), (.mv (.tmp 54)), none⟩]
def r_f8_15 : List SOp :=
   [.op ⟨(some 56), (.bin .eql (.tmp 14) (.av (.int .i64 6))), none⟩,
    .op ⟨(some 55), (.mv (.tmp 56)), none⟩]
def r_f8_16 : List SOp :=
   [.op ⟨(some 58), (.mv (.tmp 1)), none⟩,
    .op ⟨(some 59), (.call 32 [(.tmp 58)]), none⟩,
    .op ⟨(some 57), (.mv (.tmp 59)), none⟩,
    .op ⟨(some 60), (.extract (.tmp 57) 0), none⟩,
    .op ⟨(some 61), (.extract (.tmp 57) 1), none⟩,
    .op ⟨(some 8), (.mv (.tmp 60)), none⟩,
    .op ⟨(some 9), (.mv (.tmp 61)), none⟩]
def r_f8_17 : List SOp :=
   [.op ⟨(some 62), (.mv (.tmp 8)), none⟩,
    .op ⟨(some 63), (.mv (.tmp 9)), none⟩,
    .op ⟨(some 64), (.bin .eql (.tmp 63) (.av (.int .i64 0))), none⟩,
    .op ⟨(some 6), (.mv (.tmp 62)), none⟩,
    .op ⟨(some 7), (.mv (.tmp 64)), none⟩]
def r_f8_18 : List SOp :=
   [.op ⟨(some 66), (.bin .eql (.tmp 14) (.av (.int .i64 7))), none⟩,
    .op ⟨(some 65), (.mv (.tmp 66)), none⟩]
def r_f8_19 : List SOp :=
   [.op ⟨(some 7), (.mv (.av (.bool true))), none⟩]
def r_f8_20 : List SOp :=
   [.op ⟨(some 68), (.bin .eql (.tmp 14) (.av (.int .i64 8))), none⟩,
    .op ⟨(some 67), (.mv (.tmp 68)), none⟩]
def r_f8_21 : List SOp :=
   [.op ⟨(some 69), (.mv (.tmp 1)), none⟩,
    .op ⟨(some 70), (.call 33 [(.tmp 69)]), none⟩,
    .op ⟨(some 7), (.mv (.tmp 70)), none⟩]
def r_f8_22 : List SOp :=
   [.op ⟨(some 71), (.mv (.tmp 7)), none⟩,
    .op ⟨(some 72), (.un .not (.tmp 71)), none⟩]
def r_f8_23 : List SOp :=
   [.op ⟨(some 4), (.mv (.av (.str []))), none⟩,
    .op ⟨(some 5), (.mv (.av (.bool false))), none⟩]
def r_f8_24 : List SOp :=
   [.op ⟨(some 73), (.mv (.tmp 6)), none⟩,
    .op ⟨(some 4), (.mv (.tmp 73)), none⟩,
    .op ⟨(some 5), (.mv (.av (.bool true))), none⟩]
def c_f8 : LFun := ⟨74, (.seq (.sreg r_f8_0 [])
  (.seq (.seq (.sreg r_f8_1 [true, false, false])
  (.cond (.tmp 12) (.seq (.sreg r_f8_2 [])
  .ret)
  .skip))
  (.seq (.sreg r_f8_3 [true, true, false])
  (.seq (.seq (.sreg r_f8_4 [])
  (.block 0 (.seq (.sreg r_f8_5 [true, false])
  (.cond (.tmp 15) (.sreg r_f8_6 [true, true, false, false, false, false, false, false, false, false])
  (.seq (.sreg r_f8_7 [true, false])
  (.cond (.tmp 25) (.sreg r_f8_8 [true, false, false, false, false, false, false])
  (.seq (.sreg r_f8_9 [true, false])
  (.cond (.tmp 33) (.sreg r_f8_10 [true, true, false, false, false, false, false])
  (.seq (.sreg r_f8_11 [true, false])
  (.cond (.tmp 40) (.sreg r_f8_12 [true, false, false, false, false, false])
  (.seq (.sreg r_f8_13 [true, false])
  (.cond (.tmp 47) (.sreg r_f8_14 [true, false, false, false, false])
  (.seq (.sreg r_f8_15 [true, false])
  (.cond (.tmp 55) (.seq (.sreg r_f8_16 [true, true, false, false, false, false, false])
  (.sreg r_f8_17 [true, true, false, false, false]))
  (.seq (.sreg r_f8_18 [true, false])
  (.cond (.tmp 65) (.sreg r_f8_19 [])
  (.seq (.sreg r_f8_20 [true, false])
  (.cond (.tmp 67) (.sreg r_f8_21 [true, false, false])
  .skip))))))))))))))))))
  (.seq (.seq (.sreg r_f8_22 [true, false])
  (.cond (.tmp 72) (.seq (.sreg r_f8_23 [])
  .ret)
  .skip))
  (.seq (.sreg r_f8_24 [true, true, false])
  .ret)))))), [(.tmp 4), (.tmp 5)]⟩
def o_f8 : Nat → Nat → Nat := fun _ _ => 1
theorem c_f8_eq : lowF Tryz.prog o_f8 8 = some c_f8.raw := by kernel_rfl
theorem c_f8_ok : c_f8.code.okc = true := by kernel_rfl
/-! castellan/index.grams -/
def r_f49_0 : List SOp :=
   [.op ⟨(some 2), (.mv (.av (.sl [] 0 (some 0)))), none⟩]
def r_f49_1 : List SOp :=
   [.op ⟨(some 3), (.mv (.av (.sl [] 0 (some 0)))), none⟩]
def r_f49_2 : List SOp :=
   [.op ⟨(some 4), (.mv (.av (.int .i64 0))), none⟩]
def r_f49_3 : List SOp :=
   [.op ⟨(some 5), (.mv (.tmp 4)), none⟩,
    .op ⟨(some 6), (.bin .add (.tmp 5) (.av (.int .i64 3))), none⟩,
    .op ⟨(some 7), (.mv (.tmp 0)), none⟩,
    .op ⟨(some 8), (.len true (.tmp 7)), none⟩,
    .op ⟨(some 9), (.bin .leq (.tmp 6) (.tmp 8)), none⟩]
def r_f49_4 : List SOp :=
   [.op ⟨(some 12), (.mv (.tmp 3)), none⟩,
    .op ⟨(some 13), (.mv (.tmp 0)), none⟩,
    .op ⟨(some 14), (.mv (.tmp 4)), none⟩,
    .op ⟨(some 15), (.mv (.tmp 4)), none⟩,
    .op ⟨(some 16), (.bin .add (.tmp 15) (.av (.int .i64 3))), none⟩,
    .op ⟨(some 17), (.slS (.tmp 13) (some (.tmp 14)) (some (.tmp 16))), none⟩,
    .op ⟨(some 18), (.bslice false 1 1 [(.str [])] [(0, 1, (.tmp 17))]), none⟩,
    .op ⟨(some 19), (.app 1 1 16 [(.str [])] (.tmp 12) (.tmp 18)), none⟩,
    .op ⟨(some 3), (.mv (.tmp 19)), none⟩]
def r_f49_5 : List SOp :=
   [.op ⟨(some 10), (.mv (.tmp 4)), none⟩,
    .op ⟨(some 11), (.bin .add (.tmp 10) (.av (.int .i64 1))), none⟩,
    .op ⟨(some 4), (.mv (.tmp 11)), none⟩]
def r_f49_6 : List SOp :=
   [.op ⟨(some 20), (.mv (.tmp 3)), none⟩,
    .op ⟨(some 2), (.mv (.tmp 20)), none⟩]
def c_f49 : LFun := ⟨21, (.seq (.sreg r_f49_0 [])
  (.seq (.sreg r_f49_1 [])
  (.seq (.seq (.sreg r_f49_2 [])
  (.block 0 (.loop (.seq (.seq (.sreg r_f49_3 [true, false, false, false, false])
  (.cond (.tmp 9) .skip
  (.exit 0)))
  (.seq (.block 1 (.sreg r_f49_4 [true, false, false, false, false, false, false, false, false]))
  (.sreg r_f49_5 [true, false, false]))))))
  (.seq (.sreg r_f49_6 [true, false])
  .ret)))), [(.tmp 2)]⟩
def o_f49 : Nat → Nat → Nat := fun _ _ => 1
theorem c_f49_eq : lowF Tryz.prog o_f49 49 = some c_f49.raw := by kernel_rfl
theorem c_f49_ok : c_f49.code.okc = true := by kernel_rfl
/-! (*castellan/castellanref10.Reader).is -/
def r_f118_0 : List SOp :=
   [.op ⟨(some 4), (.mv (.av (.bool false))), none⟩]
def r_f118_1 : List SOp :=
   [.op ⟨(some 5), (.mv (.tmp 0)), none⟩,
    .op ⟨(some 6), (.nilchk (.tmp 5)), none⟩,
    .op ⟨(some 7), (.faddr 1 (.tmp 6)), none⟩,
    .op ⟨(some 8), (.load false 1 (.tmp 7)), none⟩,
    .op ⟨(some 9), (.mv (.tmp 0)), none⟩,
    .op ⟨(some 10), (.nilchk (.tmp 9)), none⟩,
    .op ⟨(some 11), (.faddr 0 (.tmp 10)), none⟩,
    .op ⟨(some 12), (.load false 1 (.tmp 11)), none⟩,
    .op ⟨(some 13), (.len true (.tmp 12)), none⟩,
    .op ⟨(some 14), (.bin .lss (.tmp 8) (.tmp 13)), none⟩,
    .op ⟨(some 15), (.mv (.tmp 14)), none⟩,
    .grp none 15 true
      [.op ⟨(some 16), (.mv (.tmp 0)), (some (15, true))⟩,
      .op ⟨(some 17), (.nilchk (.tmp 16)), (some (15, true))⟩,
      .op ⟨(some 18), (.faddr 0 (.tmp 17)), (some (15, true))⟩,
      .op ⟨(some 19), (.load false 1 (.tmp 18)), (some (15, true))⟩,
      .op ⟨(some 20), (.mv (.tmp 0)), (some (15, true))⟩,
      .op ⟨(some 21), (.nilchk (.tmp 20)), (some (15, true))⟩,
      .op ⟨(some 22), (.faddr 1 (.tmp 21)), (some (15, true))⟩,
      .op ⟨(some 23), (.load false 1 (.tmp 22)), (some (15, true))⟩,
      .op ⟨(some 24), (.idxS (.tmp 19) (.tmp 23)), (some (15, true))⟩,
      .op ⟨(some 25), (.mv (.tmp 1)), (some (15, true))⟩,
      .op ⟨(some 26), (.bin .eql (.tmp 24) (.tmp 25)), (some (15, true))⟩]
      27 (.tmp 26)]
def r_f118_2 : List SOp :=
   [.op ⟨(some 28), (.mv (.tmp 0)), none⟩,
    .op ⟨(some 29), (.nilchk (.tmp 28)), none⟩,
    .op ⟨(some 30), (.faddr 1 (.tmp 29)), none⟩,
    .op ⟨(some 31), (.load false 1 (.tmp 30)), none⟩,
    .op ⟨(some 32), (.bin .add (.tmp 31) (.av (.int .i64 1))), none⟩,
    .op ⟨(some 33), (.nilchk (.tmp 28)), none⟩,
    .op ⟨(some 34), (.faddr 1 (.tmp 33)), none⟩,
    .op ⟨none, (.store 1 (.tmp 34) (.tmp 32)), none⟩]
def r_f118_3 : List SOp :=
   [.op ⟨(some 4), (.mv (.av (.bool true))), none⟩]
def r_f118_4 : List SOp :=
   [.op ⟨(some 4), (.mv (.av (.bool false))), none⟩]
def c_f118 : LFun := ⟨35, (.seq (.sreg r_f118_0 [])
  (.seq (.seq (.sdreg r_f118_1 [.pure, (.read 0 0), .pure, (.read 0 0), .pure, (.read 0 0), .pure, (.read 0 0), (.read 0 0), .pure, .pure, .pure, (.read 0 0), .pure, (.read 0 0), .pure, (.read 0 0), .pure, (.read 0 0), (.read 0 0), .pure] [true, false, false, false, false, false, false, false, false, false, false, false])
  (.cond (.tmp 27) (.seq (.sreg r_f118_2 [false, false, false, false, false, false, false])
  (.seq (.sreg r_f118_3 [])
  .ret))
  .skip))
  (.seq (.sreg r_f118_4 [])
  .ret))), [(.tmp 4)]⟩
def o_f118 : Nat → Nat → Nat := fun _ _ => 1
theorem c_f118_eq : lowF Tryz.prog o_f118 118 = some c_f118.raw := by kernel_rfl
theorem c_f118_ok : c_f118.code.okc = true := by kernel_rfl
/-! (*castellan/castellanref10.Reader).item -/
def r_f120_0 : List SOp :=
   [.op ⟨(some 2), (.alloc [(.int .i64 0), (.str []), (.str []), (.sl [] 0 (some 0)), (.sl [] 0 (some 0))]), none⟩]
def r_f120_1 : List SOp :=
   [.op ⟨(some 14), (.mv (.tmp 0)), none⟩,
    .op ⟨(some 15), (.nilchk (.tmp 14)), none⟩,
    .op ⟨(some 16), (.faddr 1 (.tmp 15)), none⟩,
    .op ⟨(some 17), (.load false 1 (.tmp 16)), none⟩,
    .op ⟨(some 3), (.mv (.tmp 17)), none⟩]
def r_f120_2 : List (LOper × Kd) :=
   [(⟨(some 18), (.mv (.tmp 0)), none⟩, .pure),
    (⟨(some 19), (.nilchk (.tmp 18)), none⟩, (.read 0 0)),
    (⟨(some 20), (.faddr 1 (.tmp 19)), none⟩, .pure),
    (⟨(some 21), (.load false 1 (.tmp 20)), none⟩, (.read 0 0)),
    (⟨(some 22), (.mv (.tmp 0)), none⟩, .pure),
    (⟨(some 23), (.nilchk (.tmp 22)), none⟩, (.read 0 0)),
    (⟨(some 24), (.faddr 0 (.tmp 23)), none⟩, .pure),
    (⟨(some 25), (.load false 1 (.tmp 24)), none⟩, (.read 0 0)),
    (⟨(some 26), (.len true (.tmp 25)), none⟩, (.read 0 0)),
    (⟨(some 27), (.bin .lss (.tmp 21) (.tmp 26)), none⟩, .pure),
    (⟨(some 28), (.mv (.tmp 27)), none⟩, .pure),
    (⟨(some 29), (.mv (.tmp 0)), (some (28, true))⟩, .pure),
    (⟨(some 30), (.nilchk (.tmp 29)), (some (28, true))⟩, (.read 0 0)),
    (⟨(some 31), (.faddr 0 (.tmp 30)), (some (28, true))⟩, .pure),
    (⟨(some 32), (.load false 1 (.tmp 31)), (some (28, true))⟩, (.read 0 0)),
    (⟨(some 33), (.mv (.tmp 3)), (some (28, true))⟩, .pure),
    (⟨(some 34), (.mv (.tmp 0)), (some (28, true))⟩, .pure),
    (⟨(some 35), (.nilchk (.tmp 34)), (some (28, true))⟩, (.read 0 0)),
    (⟨(some 36), (.faddr 1 (.tmp 35)), (some (28, true))⟩, .pure),
    (⟨(some 37), (.load false 1 (.tmp 36)), (some (28, true))⟩, (.read 0 0)),
    (⟨(some 38), (.bin .add (.tmp 37) (.av (.int .i64 1))), (some (28, true))⟩, .pure)]
def r_f120_2t : List LOper :=
   [⟨(some 39), (.slS (.tmp 32) (some (.tmp 33)) (some (.tmp 38))), (some (28, true))⟩,
    ⟨(some 40), (.call 156 [(.tmp 39)]), (some (28, true))⟩,
    ⟨(some 41), (.pick (.tmp 28) (.tmp 40) (.av (.bool false))), none⟩]
def r_f120_3 : List SOp :=
   [.op ⟨(some 42), (.mv (.tmp 0)), none⟩,
    .op ⟨(some 43), (.nilchk (.tmp 42)), none⟩,
    .op ⟨(some 44), (.faddr 1 (.tmp 43)), none⟩,
    .op ⟨(some 45), (.load false 1 (.tmp 44)), none⟩,
    .op ⟨(some 46), (.bin .add (.tmp 45) (.av (.int .i64 1))), none⟩,
    .op ⟨(some 47), (.nilchk (.tmp 42)), none⟩,
    .op ⟨(some 48), (.faddr 1 (.tmp 47)), none⟩,
    .op ⟨none, (.store 1 (.tmp 48) (.tmp 46)), none⟩]
def r_f120_4 : List (LOper × Kd) :=
   [(⟨(some 49), (.mv (.tmp 0)), none⟩, .pure),
    (⟨(some 50), (.nilchk (.tmp 49)), none⟩, (.read 0 1)),
    (⟨(some 51), (.faddr 0 (.tmp 50)), none⟩, .pure),
    (⟨(some 52), (.load false 1 (.tmp 51)), none⟩, (.read 0 1)),
    (⟨(some 53), (.mv (.tmp 3)), none⟩, .pure),
    (⟨(some 54), (.mv (.tmp 0)), none⟩, .pure),
    (⟨(some 55), (.nilchk (.tmp 54)), none⟩, (.read 0 1)),
    (⟨(some 56), (.faddr 1 (.tmp 55)), none⟩, .pure),
    (⟨(some 57), (.load false 1 (.tmp 56)), none⟩, (.read 0 1)),
    (⟨(some 58), (.slS (.tmp 52) (some (.tmp 53)) (some (.tmp 57))), none⟩, (.read 0 1)),
    (⟨(some 59), (.build [(.int .i64 0), (.str []), (.str []), (.sl [] 0 (some 0)), (.sl [] 0 (some 0))] [(1, 1, (.tmp 58))]), none⟩, .pure),
    (⟨(some 4), (.alloc [(.int .i64 0), (.str []), (.str []), (.sl [] 0 (some 0)), (.sl [] 0 (some 0))]), none⟩, .eff)]
def r_f120_4t : List LOper :=
   [⟨none, (.store 5 (.tmp 4) (.tmp 59)), none⟩]
def r_f120_5 : List SOp :=
   [.op ⟨(some 60), (.faddr 1 (.tmp 4)), none⟩,
    .op ⟨(some 61), (.load false 1 (.tmp 60)), none⟩,
    .op ⟨(some 62), (.bin .eql (.tmp 61) (.av (.str []))), none⟩]
def r_f120_6 : List SOp :=
   [.op ⟨(some 63), (.mv (.tmp 0)), none⟩,
    .op ⟨(some 64), (.call 119 [(.tmp 63), (.av (.int .i64 4))]), none⟩,
    .op ⟨none, (.store 5 (.tmp 2) (.tmp 64)), none⟩]
def r_f120_7 : List SOp :=
   [.op ⟨(some 65), (.faddr 0 (.tmp 4)), none⟩,
    .op ⟨none, (.store 1 (.tmp 65) (.av (.int .i64 3))), none⟩]
def r_f120_8 : List SOp :=
   [.op ⟨(some 66), (.mv (.tmp 0)), none⟩,
    .op ⟨(some 67), (.call 118 [(.tmp 66), (.av (.int .u8 62))]), none⟩]
def r_f120_9 : List SOp :=
   [.op ⟨(some 68), (.faddr 0 (.tmp 4)), none⟩,
    .op ⟨none, (.store 1 (.tmp 68) (.av (.int .i64 5))), none⟩]
def r_f120_10 : List SOp :=
   [.op ⟨(some 69), (.mv (.tmp 0)), none⟩,
    .op ⟨(some 70), (.call 118 [(.tmp 69), (.av (.int .u8 60))]), none⟩]
def r_f120_11 : List SOp :=
   [.op ⟨(some 71), (.faddr 0 (.tmp 4)), none⟩,
    .op ⟨none, (.store 1 (.tmp 71) (.av (.int .i64 6))), none⟩]
def r_f120_12 : List SOp :=
   [.op ⟨(some 72), (.mv (.tmp 0)), none⟩,
    .op ⟨(some 73), (.call 118 [(.tmp 72), (.av (.int .u8 126))]), none⟩]
def r_f120_13 : List SOp :=
   [.op ⟨(some 74), (.faddr 0 (.tmp 4)), none⟩,
    .op ⟨none, (.store 1 (.tmp 74) (.av (.int .i64 8))), none⟩]
def r_f120_14 : List SOp :=
   [.op ⟨(some 75), (.mv (.tmp 0)), none⟩,
    .op ⟨(some 76), (.call 118 [(.tmp 75), (.av (.int .u8 61))]), none⟩,
    .op ⟨(some 77), (.un .not (.tmp 76)), none⟩]
def r_f120_15 : List SOp :=
   [.op ⟨(some 78), (.mv (.tmp 0)), none⟩,
    .op ⟨(some 79), (.call 119 [(.tmp 78), (.av (.int .i64 4))]), none⟩,
    .op ⟨none, (.store 5 (.tmp 2) (.tmp 79)), none⟩]
def r_f120_16 : List SOp :=
   [.op ⟨(some 5), (.mv (.av (.int .i64 0))), none⟩]
def r_f120_17 : List SOp :=
   [.op ⟨(some 6), (.mv (.av (.sl [] 0 (some 0)))), none⟩]
def r_f120_18 : List SOp :=
   [.op ⟨(some 7), (.mv (.av (.sl [] 0 (some 0)))), none⟩]
def r_f120_19 : List SOp :=
   [.op ⟨(some 80), (.mv (.tmp 0)), none⟩,
    .op ⟨(some 81), (.call 118 [(.tmp 80), (.av (.int .u8 41))]), none⟩,
    .op ⟨(some 82), (.un .not (.tmp 81)), none⟩]
def r_f120_20 : List SOp :=
   [.op ⟨(some 83), (.mv (.tmp 0)), none⟩,
    .op ⟨(some 84), (.nilchk (.tmp 83)), none⟩,
    .op ⟨(some 85), (.faddr 1 (.tmp 84)), none⟩,
    .op ⟨(some 86), (.load false 1 (.tmp 85)), none⟩,
    .op ⟨(some 87), (.mv (.tmp 0)), none⟩,
    .op ⟨(some 88), (.nilchk (.tmp 87)), none⟩,
    .op ⟨(some 89), (.faddr 0 (.tmp 88)), none⟩,
    .op ⟨(some 90), (.load false 1 (.tmp 89)), none⟩,
    .op ⟨(some 91), (.len true (.tmp 90)), none⟩,
    .op ⟨(some 92), (.bin .eql (.tmp 86) (.tmp 91)), none⟩]
def r_f120_21 : List SOp :=
   [.op ⟨(some 93), (.mv (.tmp 0)), none⟩,
    .op ⟨(some 94), (.call 119 [(.tmp 93), (.av (.int .i64 4))]), none⟩,
    .op ⟨none, (.store 5 (.tmp 2) (.tmp 94)), none⟩]
def r_f120_22 : List SOp :=
   [.op ⟨(some 95), (.mv (.tmp 0)), none⟩,
    .op ⟨(some 96), (.nilchk (.tmp 95)), none⟩,
    .op ⟨(some 97), (.faddr 0 (.tmp 96)), none⟩,
    .op ⟨(some 98), (.load false 1 (.tmp 97)), none⟩,
    .op ⟨(some 99), (.mv (.tmp 0)), none⟩,
    .op ⟨(some 100), (.nilchk (.tmp 99)), none⟩,
    .op ⟨(some 101), (.faddr 1 (.tmp 100)), none⟩,
    .op ⟨(some 102), (.load false 1 (.tmp 101)), none⟩,
    .op ⟨(some 103), (.idxS (.tmp 98) (.tmp 102)), none⟩,
    .op ⟨(some 8), (.mv (.tmp 103)), none⟩]
def r_f120_23 : List SOp :=
   [.op ⟨(some 104), (.mv (.tmp 0)), none⟩,
    .op ⟨(some 105), (.nilchk (.tmp 104)), none⟩,
    .op ⟨(some 106), (.faddr 1 (.tmp 105)), none⟩,
    .op ⟨(some 107), (.load false 1 (.tmp 106)), none⟩,
    .op ⟨(some 108), (.bin .add (.tmp 107) (.av (.int .i64 1))), none⟩,
    .op ⟨(some 109), (.nilchk (.tmp 104)), none⟩,
    .op ⟨(some 110), (.faddr 1 (.tmp 109)), none⟩,
    .op ⟨none, (.store 1 (.tmp 110) (.tmp 108)), none⟩]
def r_f120_24 : List SOp :=
   [.op ⟨(some 111), (.mv (.tmp 8)), none⟩,
    .op ⟨(some 112), (.bin .eql (.tmp 111) (.av (.int .u8 42))), none⟩]
def r_f120_25 : List SOp :=
   [.op ⟨(some 113), (.mv (.tmp 5)), none⟩,
    .op ⟨(some 114), (.bin .add (.tmp 113) (.av (.int .i64 1))), none⟩,
    .op ⟨(some 5), (.mv (.tmp 114)), none⟩]
def r_f120_26 : List SOp :=
   [.op ⟨(some 115), (.mv (.tmp 6)), none⟩,
    .op ⟨(some 116), (.mv (.tmp 7)), none⟩,
    .op ⟨(some 117), (.b2s (.tmp 116)), none⟩,
    .op ⟨(some 118), (.bslice false 1 1 [(.str [])] [(0, 1, (.tmp 117))]), none⟩,
    .op ⟨(some 119), (.app 1 1 16 [(.str [])] (.tmp 115) (.tmp 118)), none⟩,
    .op ⟨(some 6), (.mv (.tmp 119)), none⟩]
def r_f120_27 : List SOp :=
   [.op ⟨(some 7), (.mv (.av (.sl [] 0 (some 0)))), none⟩]
def r_f120_28 : List SOp :=
   [.op ⟨(some 120), (.mv (.tmp 8)), none⟩,
    .op ⟨(some 121), (.bin .eql (.tmp 120) (.av (.int .u8 92))), none⟩]
def r_f120_29 : List SOp :=
   [.op ⟨(some 122), (.mv (.tmp 0)), none⟩,
    .op ⟨(some 123), (.nilchk (.tmp 122)), none⟩,
    .op ⟨(some 124), (.faddr 1 (.tmp 123)), none⟩,
    .op ⟨(some 125), (.load false 1 (.tmp 124)), none⟩,
    .op ⟨(some 126), (.bin .add (.tmp 125) (.av (.int .i64 2))), none⟩,
    .op ⟨(some 127), (.mv (.tmp 0)), none⟩,
    .op ⟨(some 128), (.nilchk (.tmp 127)), none⟩,
    .op ⟨(some 129), (.faddr 0 (.tmp 128)), none⟩,
    .op ⟨(some 130), (.load false 1 (.tmp 129)), none⟩,
    .op ⟨(some 131), (.len true (.tmp 130)), none⟩,
    .op ⟨(some 132), (.bin .gtr (.tmp 126) (.tmp 131)), none⟩]
def r_f120_30 : List SOp :=
   [.op ⟨(some 133), (.mv (.tmp 0)), none⟩,
    .op ⟨(some 134), (.call 119 [(.tmp 133), (.av (.int .i64 4))]), none⟩,
    .op ⟨none, (.store 5 (.tmp 2) (.tmp 134)), none⟩]
def r_f120_31 : List (LOper × Kd) :=
   [(⟨(some 136), (.mv (.tmp 0)), none⟩, .pure),
    (⟨(some 137), (.nilchk (.tmp 136)), none⟩, (.read 0 0)),
    (⟨(some 138), (.faddr 0 (.tmp 137)), none⟩, .pure),
    (⟨(some 139), (.load false 1 (.tmp 138)), none⟩, (.read 0 0)),
    (⟨(some 140), (.mv (.tmp 0)), none⟩, .pure),
    (⟨(some 141), (.nilchk (.tmp 140)), none⟩, (.read 0 0)),
    (⟨(some 142), (.faddr 1 (.tmp 141)), none⟩, .pure),
    (⟨(some 143), (.load false 1 (.tmp 142)), none⟩, (.read 0 0)),
    (⟨(some 144), (.mv (.tmp 0)), none⟩, .pure),
    (⟨(some 145), (.nilchk (.tmp 144)), none⟩, (.read 0 0)),
    (⟨(some 146), (.faddr 1 (.tmp 145)), none⟩, .pure),
    (⟨(some 147), (.load false 1 (.tmp 146)), none⟩, (.read 0 0)),
    (⟨(some 148), (.bin .add (.tmp 147) (.av (.int .i64 2))), none⟩, .pure),
    (⟨(some 149), (.slS (.tmp 139) (some (.tmp 143)) (some (.tmp 148))), none⟩, (.read 0 0)),
    (⟨(some 150), (.call 157 [(.tmp 149)]), none⟩, .eff),
    (⟨(some 135), (.mv (.tmp 150)), none⟩, .pure),
    (⟨(some 151), (.extract (.tmp 135) 0), none⟩, .pure),
    (⟨(some 152), (.extract (.tmp 135) 1), none⟩, .pure),
    (⟨(some 9), (.mv (.tmp 151)), none⟩, .pure)]
def r_f120_31t : List LOper :=
   [⟨(some 10), (.mv (.tmp 152)), none⟩]
def r_f120_32 : List SOp :=
   [.op ⟨(some 153), (.mv (.tmp 10)), none⟩,
    .op ⟨(some 154), (.un .not (.tmp 153)), none⟩]
def r_f120_33 : List SOp :=
   [.op ⟨(some 155), (.mv (.tmp 0)), none⟩,
    .op ⟨(some 156), (.call 119 [(.tmp 155), (.av (.int .i64 4))]), none⟩,
    .op ⟨none, (.store 5 (.tmp 2) (.tmp 156)), none⟩]
def r_f120_34 : List SOp :=
   [.op ⟨(some 157), (.mv (.tmp 7)), none⟩,
    .op ⟨(some 158), (.mv (.tmp 9)), none⟩,
    .op ⟨(some 159), (.idxS (.tmp 158) (.av (.int .i64 0))), none⟩,
    .op ⟨(some 160), (.bslice false 1 1 [(.int .u8 0)] [(0, 1, (.tmp 159))]), none⟩,
    .op ⟨(some 161), (.app 1 1 1 [(.int .u8 0)] (.tmp 157) (.tmp 160)), none⟩,
    .op ⟨(some 7), (.mv (.tmp 161)), none⟩]
def r_f120_35 : List SOp :=
   [.op ⟨(some 162), (.mv (.tmp 0)), none⟩,
    .op ⟨(some 163), (.nilchk (.tmp 162)), none⟩,
    .op ⟨(some 164), (.faddr 1 (.tmp 163)), none⟩,
    .op ⟨(some 165), (.load false 1 (.tmp 164)), none⟩,
    .op ⟨(some 166), (.bin .add (.tmp 165) (.av (.int .i64 2))), none⟩,
    .op ⟨(some 167), (.nilchk (.tmp 162)), none⟩,
    .op ⟨(some 168), (.faddr 1 (.tmp 167)), none⟩,
    .op ⟨none, (.store 1 (.tmp 168) (.tmp 166)), none⟩]
def r_f120_36 : List SOp :=
   [.op ⟨(some 169), (.mv (.tmp 8)), none⟩,
    .op ⟨(some 170), (.bin .eql (.tmp 169) (.av (.int .u8 0))), none⟩,
    .op ⟨(some 171), (.mv (.tmp 170)), none⟩,
    .grp none 171 false
      [.op ⟨(some 172), (.mv (.tmp 8)), (some (171, false))⟩,
      .op ⟨(some 173), (.bin .eql (.tmp 172) (.av (.int .u8 40))), (some (171, false))⟩]
      174 (.tmp 173)]
def r_f120_37 : List SOp :=
   [.op ⟨(some 175), (.mv (.tmp 0)), none⟩,
    .op ⟨(some 176), (.call 119 [(.tmp 175), (.av (.int .i64 4))]), none⟩,
    .op ⟨none, (.store 5 (.tmp 2) (.tmp 176)), none⟩]
def r_f120_38 : List SOp :=
   [.op ⟨(some 177), (.mv (.tmp 7)), none⟩,
    .op ⟨(some 178), (.mv (.tmp 8)), none⟩,
    .op ⟨(some 179), (.bslice false 1 1 [(.int .u8 0)] [(0, 1, (.tmp 178))]), none⟩,
    .op ⟨(some 180), (.app 1 1 1 [(.int .u8 0)] (.tmp 177) (.tmp 179)), none⟩,
    .op ⟨(some 7), (.mv (.tmp 180)), none⟩]
def r_f120_39 : List SOp :=
   [.op ⟨(some 181), (.mv (.tmp 6)), none⟩,
    .op ⟨(some 182), (.mv (.tmp 7)), none⟩,
    .op ⟨(some 183), (.b2s (.tmp 182)), none⟩,
    .op ⟨(some 184), (.bslice false 1 1 [(.str [])] [(0, 1, (.tmp 183))]), none⟩,
    .op ⟨(some 185), (.app 1 1 16 [(.str [])] (.tmp 181) (.tmp 184)), none⟩,
    .op ⟨(some 6), (.mv (.tmp 185)), none⟩]
def r_f120_40 : List SOp :=
   [.op ⟨(some 186), (.mv (.tmp 5)), none⟩,
    .op ⟨(some 187), (.bin .eql (.tmp 186) (.av (.int .i64 0))), none⟩]
def r_f120_41 : List SOp :=
   [.op ⟨(some 188), (.mv (.tmp 6)), none⟩,
    .op ⟨(some 189), (.iaddr 1 (.tmp 188) (.av (.int .i64 0))), none⟩,
    .op ⟨(some 190), (.load false 1 (.tmp 189)), none⟩,
    .op ⟨(some 191), (.faddr 2 (.tmp 4)), none⟩,
    .op ⟨none, (.store 1 (.tmp 191) (.tmp 190)), none⟩]
def r_f120_42 : List SOp :=
   [.op ⟨(some 192), (.load true 5 (.tmp 4)), none⟩,
    .op ⟨none, (.store 5 (.tmp 2) (.tmp 192)), none⟩]
def r_f120_43 : List SOp :=
   [.op ⟨(some 193), (.faddr 0 (.tmp 4)), none⟩,
    .op ⟨(some 194), (.load false 1 (.tmp 193)), none⟩,
    .op ⟨(some 195), (.bin .neq (.tmp 194) (.av (.int .i64 3))), none⟩]
def r_f120_44 : List SOp :=
   [.op ⟨(some 196), (.mv (.tmp 0)), none⟩,
    .op ⟨(some 197), (.call 119 [(.tmp 196), (.av (.int .i64 4))]), none⟩,
    .op ⟨none, (.store 5 (.tmp 2) (.tmp 197)), none⟩]
def r_f120_45 : List SOp :=
   [.op ⟨(some 198), (.mv (.tmp 5)), none⟩,
    .op ⟨(some 199), (.bin .eql (.tmp 198) (.av (.int .i64 1))), none⟩,
    .op ⟨(some 200), (.mv (.tmp 199)), none⟩,
    .grp none 200 true
      [.op ⟨(some 201), (.mv (.tmp 6)), (some (200, true))⟩,
      .op ⟨(some 202), (.iaddr 1 (.tmp 201) (.av (.int .i64 0))), (some (200, true))⟩,
      .op ⟨(some 203), (.load false 1 (.tmp 202)), (some (200, true))⟩,
      .op ⟨(some 204), (.bin .eql (.tmp 203) (.av (.str []))), (some (200, true))⟩]
      205 (.tmp 204),
    .op ⟨(some 206), (.mv (.tmp 205)), none⟩,
    .grp none 206 true
      [.op ⟨(some 207), (.mv (.tmp 6)), (some (206, true))⟩,
      .op ⟨(some 208), (.iaddr 1 (.tmp 207) (.av (.int .i64 1))), (some (206, true))⟩,
      .op ⟨(some 209), (.load false 1 (.tmp 208)), (some (206, true))⟩,
      .op ⟨(some 210), (.bin .eql (.tmp 209) (.av (.str []))), (some (206, true))⟩]
      211 (.tmp 210)]
def r_f120_46 : List SOp :=
   [.op ⟨(some 212), (.faddr 0 (.tmp 4)), none⟩,
    .op ⟨none, (.store 1 (.tmp 212) (.av (.int .i64 7))), none⟩]
def r_f120_47 : List SOp :=
   [.op ⟨(some 213), (.load true 5 (.tmp 4)), none⟩,
    .op ⟨none, (.store 5 (.tmp 2) (.tmp 213)), none⟩]
def r_f120_48 : List SOp :=
   [.op ⟨(some 214), (.faddr 0 (.tmp 4)), none⟩,
    .op ⟨none, (.store 1 (.tmp 214) (.av (.int .i64 4))), none⟩]
def r_f120_49 : List SOp :=
   [.op ⟨(some 215), (.mv (.tmp 6)), none⟩,
    .op ⟨(some 216), (.len false (.tmp 215)), none⟩,
    .op ⟨(some 217), (.mv (.av (.int .i64 0))), none⟩]
def r_f120_50 : List SOp :=
   [.op ⟨(some 218), (.bin .lss (.tmp 217) (.tmp 216)), none⟩]
def r_f120_51 : List SOp :=
   [.op ⟨(some 219), (.mv (.tmp 217)), none⟩,
    .op ⟨(some 220), (.iaddr 1 (.tmp 215) (.tmp 217)), none⟩,
    .op ⟨(some 221), (.load false 1 (.tmp 220)), none⟩,
    .op ⟨(some 11), (.mv (.tmp 219)), none⟩,
    .op ⟨(some 12), (.mv (.tmp 221)), none⟩]
def r_f120_52 : List SOp :=
   [.op ⟨(some 222), (.mv (.tmp 11)), none⟩,
    .op ⟨(some 223), (.bin .gtr (.tmp 222) (.av (.int .i64 0))), none⟩,
    .op ⟨(some 224), (.mv (.tmp 223)), none⟩,
    .grp none 224 true
      [.op ⟨(some 225), (.mv (.tmp 11)), (some (224, true))⟩,
      .op ⟨(some 226), (.mv (.tmp 5)), (some (224, true))⟩,
      .op ⟨(some 227), (.bin .lss (.tmp 225) (.tmp 226)), (some (224, true))⟩]
      228 (.tmp 227),
    .op ⟨(some 229), (.mv (.tmp 228)), none⟩,
    .grp none 229 true
      [.op ⟨(some 230), (.mv (.tmp 12)), (some (229, true))⟩,
      .op ⟨(some 231), (.bin .eql (.tmp 230) (.av (.str []))), (some (229, true))⟩]
      232 (.tmp 231)]
def r_f120_53 : List SOp :=
   [.op ⟨(some 233), (.mv (.tmp 0)), none⟩,
    .op ⟨(some 234), (.call 119 [(.tmp 233), (.av (.int .i64 4))]), none⟩,
    .op ⟨none, (.store 5 (.tmp 2) (.tmp 234)), none⟩]
def r_f120_54 : List SOp :=
   [.op ⟨(some 235), (.mv (.tmp 12)), none⟩,
    .op ⟨(some 236), (.bin .neq (.tmp 235) (.av (.str []))), none⟩]
def r_f120_55 : List SOp :=
   [.op ⟨(some 13), (.mv (.av (.int .i64 1))), none⟩]
def r_f120_56 : List SOp :=
   [.op ⟨(some 237), (.mv (.tmp 11)), none⟩,
    .op ⟨(some 238), (.bin .eql (.tmp 237) (.av (.int .i64 0))), none⟩]
def r_f120_57 : List SOp :=
   [.op ⟨(some 13), (.mv (.av (.int .i64 0))), none⟩]
def r_f120_58 : List SOp :=
   [.op ⟨(some 239), (.mv (.tmp 11)), none⟩,
    .op ⟨(some 240), (.mv (.tmp 5)), none⟩,
    .op ⟨(some 241), (.bin .eql (.tmp 239) (.tmp 240)), none⟩]
def r_f120_59 : List SOp :=
   [.op ⟨(some 13), (.mv (.av (.int .i64 2))), none⟩]
def r_f120_60 : List SOp :=
   [.op ⟨(some 242), (.faddr 3 (.tmp 4)), none⟩,
    .op ⟨(some 243), (.load false 1 (.tmp 242)), none⟩,
    .op ⟨(some 244), (.mv (.tmp 13)), none⟩,
    .op ⟨(some 245), (.mv (.tmp 12)), none⟩,
    .op ⟨(some 246), (.build [(.int .i64 0), (.str [])] [(0, 1, (.tmp 244)), (1, 1, (.tmp 245))]), none⟩,
    .op ⟨(some 247), (.bslice false 2 1 [(.int .i64 0), (.str [])] [(0, 2, (.tmp 246))]), none⟩,
    .op ⟨(some 248), (.app 1 2 24 [(.int .i64 0), (.str [])] (.tmp 243) (.tmp 247)), none⟩,
    .op ⟨(some 249), (.faddr 3 (.tmp 4)), none⟩,
    .op ⟨none, (.store 1 (.tmp 249) (.tmp 248)), none⟩]
def r_f120_61 : List SOp :=
   [.op ⟨(some 250), (.bin .add (.tmp 217) (.av (.int .i64 1))), none⟩,
    .op ⟨(some 217), (.mv (.tmp 250)), none⟩]
def r_f120_62 : List SOp :=
   [.op ⟨(some 251), (.load true 5 (.tmp 4)), none⟩,
    .op ⟨none, (.store 5 (.tmp 2) (.tmp 251)), none⟩]
def c_f120 : LFun := ⟨252, (.seq (.sreg r_f120_0 [])
  (.seq (.sreg r_f120_1 [true, false, false, false, false])
  (.seq (.block 0 (.loop (.seq (.seq (.dregM r_f120_2 r_f120_2t [true, false, false, false, false, false, false, false, false, false, false, false, false, false, false, false, false, false, false, false, false, false, false, false])
  (.cond (.tmp 41) .skip
  (.exit 0)))
  (.block 1 (.sreg r_f120_3 [false, false, false, false, false, false, false])))))
  (.seq (.dregM r_f120_4 r_f120_4t [true, false, false, false, false, false, false, false, false, false, false, false])
  (.seq (.seq (.sreg r_f120_5 [true, false, false])
  (.cond (.tmp 62) (.seq (.sreg r_f120_6 [false, false])
  .ret)
  .skip))
  (.seq (.sreg r_f120_7 [false])
  (.seq (.seq (.sreg r_f120_8 [true, false])
  (.cond (.tmp 67) (.sreg r_f120_9 [false])
  (.seq (.sreg r_f120_10 [true, false])
  (.cond (.tmp 70) (.sreg r_f120_11 [false])
  (.seq (.sreg r_f120_12 [true, false])
  (.cond (.tmp 73) (.sreg r_f120_13 [false])
  .skip))))))
  (.seq (.seq (.sreg r_f120_14 [true, false, false])
  (.cond (.tmp 77) (.seq (.sreg r_f120_15 [false, false])
  .ret)
  .skip))
  (.seq (.sreg r_f120_16 [])
  (.seq (.sreg r_f120_17 [])
  (.seq (.sreg r_f120_18 [])
  (.seq (.block 2 (.loop (.seq (.seq (.sreg r_f120_19 [true, false, false])
  (.cond (.tmp 82) .skip
  (.exit 2)))
  (.block 3 (.seq (.seq (.sdreg r_f120_20 [.pure, (.read 0 0), .pure, (.read 0 0), .pure, (.read 0 0), .pure, (.read 0 0), (.read 0 0)] [true, false, false, false, false, false, false, false, false, false])
  (.cond (.tmp 92) (.seq (.sreg r_f120_21 [false, false])
  .ret)
  .skip))
  (.seq (.sdreg r_f120_22 [.pure, (.read 0 0), .pure, (.read 0 0), .pure, (.read 0 0), .pure, (.read 0 0)] [true, false, false, false, false, false, false, false, false, false])
  (.seq (.sreg r_f120_23 [false, false, false, false, false, false, false])
  (.seq (.sreg r_f120_24 [true, false])
  (.cond (.tmp 112) (.seq (.sreg r_f120_25 [true, false, false])
  (.seq (.sreg r_f120_26 [true, false, false, false, false, false])
  (.sreg r_f120_27 [])))
  (.seq (.sreg r_f120_28 [true, false])
  (.cond (.tmp 121) (.seq (.seq (.sdreg r_f120_29 [.pure, (.read 0 0), .pure, (.read 0 0), .pure, .pure, (.read 0 0), .pure, (.read 0 0), (.read 0 0)] [true, false, false, false, false, false, false, false, false, false, false])
  (.cond (.tmp 132) (.seq (.sreg r_f120_30 [false, false])
  .ret)
  .skip))
  (.seq (.dregM r_f120_31 r_f120_31t [true, true, false, false, false, false, false, false, false, false, false, false, false, false, false, false, false, false, false, false])
  (.seq (.seq (.sreg r_f120_32 [true, false])
  (.cond (.tmp 154) (.seq (.sreg r_f120_33 [false, false])
  .ret)
  .skip))
  (.seq (.sreg r_f120_34 [true, false, false, false, false, false])
  (.sreg r_f120_35 [false, false, false, false, false, false, false])))))
  (.seq (.sreg r_f120_36 [true, false, false, false])
  (.cond (.tmp 174) (.seq (.sreg r_f120_37 [false, false])
  .ret)
  (.sreg r_f120_38 [true, false, false, false, false]))))))))))))))
  (.seq (.sreg r_f120_39 [true, false, false, false, false, false])
  (.seq (.seq (.sreg r_f120_40 [true, false])
  (.cond (.tmp 187) (.seq (.sreg r_f120_41 [false, false, false, false])
  (.seq (.sreg r_f120_42 [false])
  .ret))
  .skip))
  (.seq (.seq (.sreg r_f120_43 [true, false, false])
  (.cond (.tmp 195) (.seq (.sreg r_f120_44 [false, false])
  .ret)
  .skip))
  (.seq (.seq (.sreg r_f120_45 [true, false, false, false, false, false])
  (.cond (.tmp 211) (.seq (.sreg r_f120_46 [false])
  (.seq (.sreg r_f120_47 [false])
  .ret))
  .skip))
  (.seq (.sreg r_f120_48 [false])
  (.seq (.seq (.sreg r_f120_49 [])
  (.block 4 (.loop (.seq (.sreg r_f120_50 [])
  (.seq (.cond (.tmp 218) .skip
  (.exit 4))
  (.seq (.block 5 (.seq (.sreg r_f120_51 [true, true, false, false, false])
  (.seq (.seq (.sreg r_f120_52 [true, false, false, false, false, false])
  (.cond (.tmp 232) (.seq (.sreg r_f120_53 [false, false])
  .ret)
  .skip))
  (.seq (.sreg r_f120_54 [true, false])
  (.cond (.tmp 236) (.seq (.sreg r_f120_55 [])
  (.seq (.seq (.sreg r_f120_56 [true, false])
  (.cond (.tmp 238) (.sreg r_f120_57 [])
  (.seq (.sreg r_f120_58 [true, false, false])
  (.cond (.tmp 241) (.sreg r_f120_59 [])
  .skip))))
  (.sreg r_f120_60 [false, false, false, false, false, false, false, false])))
  .skip)))))
  (.sreg r_f120_61 [true, false])))))))
  (.seq (.sreg r_f120_62 [false])
  .ret))))))))))))))))))), [(.cell true 5 2)]⟩
def o_f120 : Nat → Nat → Nat := fun r i => if r = 2 ∧ i = 22 then 3 else if r = 31 ∧ i = 14 then 3 else 1
theorem c_f120_eq : lowF Tryz.prog o_f120 120 = some c_f120.raw := by kernel_rfl
theorem c_f120_ok : c_f120.code.okc = true := by kernel_rfl
/-! castellan/plan.Join -/
def r_f24_0 : List SOp :=
   [.op ⟨(some 2), (.mv (.av (.sl [] 0 (some 0)))), none⟩]
def r_f24_1 : List SOp :=
   [.op ⟨(some 3), (.mv (.tmp 0)), none⟩,
    .op ⟨(some 4), (.call 59 [(.tmp 3)]), none⟩,
    .op ⟨(some 5), (.call 54 [(.tmp 4)]), none⟩,
    .op ⟨(some 2), (.mv (.tmp 5)), none⟩]
def c_f24 : LFun := ⟨6, (.seq (.sreg r_f24_0 [])
  (.seq (.sreg r_f24_1 [true, false, false, false])
  .ret)), [(.tmp 2)]⟩
def o_f24 : Nat → Nat → Nat := fun _ _ => 1
theorem c_f24_eq : lowF Tryz.prog o_f24 24 = some c_f24.raw := by kernel_rfl
theorem c_f24_ok : c_f24.code.okc = true := by kernel_rfl
/-! castellan/plan.Meet -/
def r_f22_0 : List SOp :=
   [.op ⟨(some 2), (.mv (.av (.sl [] 0 (some 0)))), none⟩]
def r_f22_1 : List SOp :=
   [.op ⟨(some 7), (.mv (.tmp 0)), none⟩,
    .op ⟨(some 8), (.len false (.tmp 7)), none⟩,
    .op ⟨(some 9), (.bin .eql (.tmp 8) (.av (.int .i64 0))), none⟩]
def r_f22_2 : List SOp :=
   [.op ⟨(some 2), (.mv (.av (.sl [] 0 (some 0)))), none⟩]
def r_f22_3 : List SOp :=
   [.op ⟨(some 10), (.mv (.tmp 0)), none⟩,
    .op ⟨(some 11), (.iaddr 1 (.tmp 10) (.av (.int .i64 0))), none⟩,
    .op ⟨(some 12), (.load false 1 (.tmp 11)), none⟩,
    .op ⟨(some 13), (.call 54 [(.tmp 12)]), none⟩,
    .op ⟨(some 3), (.mv (.tmp 13)), none⟩]
def r_f22_4 : List SOp :=
   [.op ⟨(some 14), (.mv (.tmp 0)), none⟩,
    .op ⟨(some 15), (.slV 1 (.tmp 14) (some (.av (.int .i64 1))) none none), none⟩,
    .op ⟨(some 16), (.len false (.tmp 15)), none⟩,
    .op ⟨(some 17), (.mv (.av (.int .i64 0))), none⟩]
def r_f22_5 : List SOp :=
   [.op ⟨(some 18), (.bin .lss (.tmp 17) (.tmp 16)), none⟩]
def r_f22_6 : List SOp :=
   [.op ⟨(some 19), (.iaddr 1 (.tmp 15) (.tmp 17)), none⟩,
    .op ⟨(some 20), (.load false 1 (.tmp 19)), none⟩,
    .op ⟨(some 5), (.mv (.tmp 20)), none⟩]
def r_f22_7 : List SOp :=
   [.op ⟨(some 21), (.mv (.tmp 5)), none⟩,
    .op ⟨(some 22), (.call 54 [(.tmp 21)]), none⟩,
    .op ⟨(some 6), (.alloc [(.sl [] 0 (some 0))]), none⟩,
    .op ⟨none, (.store 1 (.tmp 6) (.tmp 22)), none⟩]
def r_f22_8 : List SOp :=
   [.op ⟨(some 23), (.mv (.tmp 3)), none⟩,
    .op ⟨(some 24), (.mkfn 56 [(.tmp 6)]), none⟩,
    .op ⟨(some 25), (.call 55 [(.tmp 23), (.tmp 24)]), none⟩,
    .op ⟨(some 3), (.mv (.tmp 25)), none⟩]
def r_f22_9 : List SOp :=
   [.op ⟨(some 26), (.bin .add (.tmp 17) (.av (.int .i64 1))), none⟩,
    .op ⟨(some 17), (.mv (.tmp 26)), none⟩]
def r_f22_10 : List SOp :=
   [.op ⟨(some 27), (.mv (.tmp 3)), none⟩,
    .op ⟨(some 2), (.mv (.tmp 27)), none⟩]
def c_f22 : LFun := ⟨28, (.seq (.sreg r_f22_0 [])
  (.seq (.seq (.sreg r_f22_1 [true, false, false])
  (.cond (.tmp 9) (.seq (.sreg r_f22_2 [])
  .ret)
  .skip))
  (.seq (.sreg r_f22_3 [true, false, false, false, false])
  (.seq (.seq (.sreg r_f22_4 [true, true, true, false])
  (.block 0 (.loop (.seq (.sreg r_f22_5 [])
  (.seq (.cond (.tmp 18) .skip
  (.exit 0))
  (.seq (.block 1 (.seq (.sreg r_f22_6 [true, false, false])
  (.seq (.sreg r_f22_7 [true, false, false])
  (.sreg r_f22_8 [true, false, false, false]))))
  (.sreg r_f22_9 [true, false])))))))
  (.seq (.sreg r_f22_10 [true, false])
  .ret))))), [(.tmp 2)]⟩
def o_f22 : Nat → Nat → Nat := fun _ _ => 1
theorem c_f22_eq : lowF Tryz.prog o_f22 22 = some c_f22.raw := by kernel_rfl
theorem c_f22_ok : c_f22.code.okc = true := by kernel_rfl
/-! (*castellan/index.Index).Equal -/
def r_f18_0 : List SOp :=
   [.op ⟨(some 6), (.mv (.av (.sl [] 0 (some 0)))), none⟩]
def r_f18_1 : List SOp :=
   [.op ⟨(some 9), (.mv (.tmp 0)), none⟩,
    .op ⟨(some 10), (.mv (.tmp 1)), none⟩,
    .op ⟨(some 11), (.call 14 [(.tmp 9), (.tmp 10)]), none⟩,
    .op ⟨(some 12), (.un .not (.tmp 11)), none⟩]
def r_f18_2 : List SOp :=
   [.op ⟨(some 6), (.mv (.av (.sl [] 0 (some 0)))), none⟩]
def r_f18_3 : List (LOper × Kd) :=
   [(⟨(some 14), (.mv (.tmp 0)), none⟩, .pure),
    (⟨(some 15), (.nilchk (.tmp 14)), none⟩, (.read 0 1)),
    (⟨(some 16), (.faddr 0 (.tmp 15)), none⟩, .pure),
    (⟨(some 17), (.load false 1 (.tmp 16)), none⟩, (.read 0 1)),
    (⟨(some 18), (.mv (.tmp 1)), none⟩, .pure),
    (⟨(some 19), (.call 44 [(.tmp 18)]), none⟩, .eff),
    (⟨(some 20), (.mget .str false (.agg [(.str []), (.int .i64 0), (.bool false), (.bool false)]) (.tmp 17) (.tmp 19)), none⟩, (.read 0 0)),
    (⟨(some 21), (.field false 1 1 (.tmp 20)), none⟩, (.read 0 0)),
    (⟨(some 22), (.mv (.tmp 2)), none⟩, .pure),
    (⟨(some 23), (.call 8 [(.tmp 21), (.tmp 22)]), none⟩, .eff),
    (⟨(some 13), (.mv (.tmp 23)), none⟩, .pure),
    (⟨(some 24), (.extract (.tmp 13) 0), none⟩, .pure),
    (⟨(some 25), (.extract (.tmp 13) 1), none⟩, .pure),
    (⟨(some 7), (.mv (.tmp 24)), none⟩, .pure)]
def r_f18_3t : List LOper :=
   [⟨(some 8), (.mv (.tmp 25)), none⟩]
def r_f18_4 : List SOp :=
   [.op ⟨(some 26), (.mv (.tmp 8)), none⟩,
    .op ⟨(some 27), (.un .not (.tmp 26)), none⟩]
def r_f18_5 : List SOp :=
   [.op ⟨(some 6), (.mv (.av (.sl [] 0 (some 0)))), none⟩]
def r_f18_6 : List (LOper × Kd) :=
   [(⟨(some 28), (.mv (.tmp 0)), none⟩, .pure),
    (⟨(some 29), (.nilchk (.tmp 28)), none⟩, (.read 0 1)),
    (⟨(some 30), (.faddr 3 (.tmp 29)), none⟩, .pure),
    (⟨(some 31), (.load false 1 (.tmp 30)), none⟩, (.read 0 1)),
    (⟨(some 32), (.mv (.tmp 1)), none⟩, .pure),
    (⟨(some 33), (.call 44 [(.tmp 32)]), none⟩, .eff),
    (⟨(some 34), (.mv (.tmp 7)), none⟩, .pure),
    (⟨(some 35), (.build [(.str []), (.bool false), (.str [])] [(0, 1, (.tmp 33)), (1, 1, (.av (.bool false))), (2, 1, (.tmp 34))]), none⟩, .pure)]
def r_f18_6t : List LOper :=
   [⟨(some 36), (.mget (.st [.str, .bool, .str]) false .nilmap (.tmp 31) (.tmp 35)), none⟩,
    ⟨(some 37), (.call 47 [(.tmp 36)]), none⟩,
    ⟨(some 6), (.mv (.tmp 37)), none⟩]
def c_f18 : LFun := ⟨38, (.seq (.sreg r_f18_0 [])
  (.seq (.seq (.sreg r_f18_1 [true, false, false, false])
  (.cond (.tmp 12) (.seq (.sreg r_f18_2 [])
  .ret)
  .skip))
  (.seq (.dregM r_f18_3 r_f18_3t [true, true, false, false, false, false, false, false, false, false, false, false, false, false, false])
  (.seq (.seq (.sreg r_f18_4 [true, false])
  (.cond (.tmp 27) (.seq (.sreg r_f18_5 [])
  .ret)
  .skip))
  (.seq (.dregM r_f18_6 r_f18_6t [true, false, false, false, false, false, false, false, false, false, false])
  .ret))))), [(.tmp 6)]⟩
def o_f18 : Nat → Nat → Nat := fun r i => if r = 3 ∧ i = 5 then 3 else if r = 3 ∧ i = 9 then 3 else if r = 6 ∧ i = 5 then 3 else if r = 6 ∧ i = 9 then 3 else 1
theorem c_f18_eq : lowF Tryz.prog o_f18 18 = some c_f18.raw := by kernel_rfl
theorem c_f18_ok : c_f18.code.okc = true := by kernel_rfl
/-! (*castellan/index.Index).Has -/
def r_f14_0 : List SOp :=
   [.op ⟨(some 4), (.mv (.av (.bool false))), none⟩]
def r_f14_1 : List SOp :=
   [.op ⟨(some 7), (.mv (.tmp 0)), none⟩,
    .op ⟨(some 8), (.eqk false .ptr (.tmp 7) (.av .nilptr)), none⟩]
def r_f14_2 : List SOp :=
   [.op ⟨(some 4), (.mv (.av (.bool false))), none⟩]
def r_f14_3 : List (LOper × Kd) :=
   [(⟨(some 10), (.mv (.tmp 0)), none⟩, .pure),
    (⟨(some 11), (.nilchk (.tmp 10)), none⟩, (.read 0 1)),
    (⟨(some 12), (.faddr 0 (.tmp 11)), none⟩, .pure),
    (⟨(some 13), (.load false 1 (.tmp 12)), none⟩, (.read 0 1)),
    (⟨(some 14), (.mv (.tmp 1)), none⟩, .pure),
    (⟨(some 15), (.call 44 [(.tmp 14)]), none⟩, (.read 0 1)),
    (⟨(some 16), (.mget .str true (.agg [(.str []), (.int .i64 0), (.bool false), (.bool false)]) (.tmp 13) (.tmp 15)), none⟩, (.read 0 1)),
    (⟨(some 9), (.mv (.tmp 16)), none⟩, .pure),
    (⟨(some 17), (.extract (.tmp 9) 0), none⟩, .pure),
    (⟨(some 18), (.extract (.tmp 9) 1), none⟩, .pure),
    (⟨(some 5), (.alloc [(.str []), (.int .i64 0), (.bool false), (.bool false)]), none⟩, .eff),
    (⟨none, (.store 4 (.tmp 5) (.tmp 17)), none⟩, .eff)]
def r_f14_3t : List LOper :=
   [⟨(some 6), (.mv (.tmp 18)), none⟩]
def r_f14_4 : List SOp :=
   [.op ⟨(some 19), (.mv (.tmp 6)), none⟩,
    .op ⟨(some 4), (.mv (.tmp 19)), none⟩]
def c_f14 : LFun := ⟨20, (.seq (.sreg r_f14_0 [])
  (.seq (.seq (.sreg r_f14_1 [true, false])
  (.cond (.tmp 8) (.seq (.sreg r_f14_2 [])
  .ret)
  .skip))
  (.seq (.dregM r_f14_3 r_f14_3t [true, false, false, false, false, false, false, false, false, false, false, false])
  (.seq (.sreg r_f14_4 [true, false])
  .ret)))), [(.tmp 4)]⟩
def o_f14 : Nat → Nat → Nat := fun _ _ => 1
theorem c_f14_eq : lowF Tryz.prog o_f14 14 = some c_f14.raw := by kernel_rfl
theorem c_f14_ok : c_f14.code.okc = true := by kernel_rfl
/-! (castellan/schema.book).kind$1 -/
def r_f145_0 : List SOp :=
   [.op ⟨(some 2), (.box (.tmp 0)), none⟩,
    .op ⟨(some 3), (.mv (.av (.bool false))), none⟩]
def r_f145_1 : List SOp :=
   [.op ⟨(some 4), (.faddr 0 (.tmp 2)), none⟩,
    .op ⟨(some 5), (.load false 1 (.tmp 4)), none⟩,
    .op ⟨(some 6), (.load false 1 (.tmp 1)), none⟩,
    .op ⟨(some 7), (.call 146 [(.tmp 5), (.tmp 6)]), none⟩,
    .op ⟨(some 3), (.mv (.tmp 7)), none⟩]
def c_f145 : LFun := ⟨8, (.seq (.sreg r_f145_0 [])
  (.seq (.sreg r_f145_1 [true, false, false, false, false])
  .ret)), [(.tmp 3)]⟩
def o_f145 : Nat → Nat → Nat := fun _ _ => 1
theorem c_f145_eq : lowF Tryz.prog o_f145 145 = some c_f145.raw := by kernel_rfl
theorem c_f145_ok : c_f145.code.okc = true := by kernel_rfl
/-! slices.IndexFunc[[]castellan/api.Type,castellan/api.Type] -/
def r_f144_0 : List SOp :=
   [.op ⟨(some 4), (.mv (.av (.int .i64 0))), none⟩]
def r_f144_1 : List SOp :=
   [.op ⟨(some 6), (.mv (.tmp 0)), none⟩,
    .op ⟨(some 7), (.len false (.tmp 6)), none⟩,
    .op ⟨(some 8), (.mv (.av (.int .i64 0))), none⟩]
def r_f144_2 : List SOp :=
   [.op ⟨(some 9), (.bin .lss (.tmp 8) (.tmp 7)), none⟩]
def r_f144_3 : List SOp :=
   [.op ⟨(some 10), (.mv (.tmp 8)), none⟩,
    .op ⟨(some 5), (.mv (.tmp 10)), none⟩]
def r_f144_4 : List SOp :=
   [.op ⟨(some 11), (.mv (.tmp 1)), none⟩,
    .op ⟨(some 12), (.mv (.tmp 0)), none⟩,
    .op ⟨(some 13), (.mv (.tmp 5)), none⟩,
    .op ⟨(some 14), (.iaddr 4 (.tmp 12) (.tmp 13)), none⟩,
    .op ⟨(some 15), (.load true 4 (.tmp 14)), none⟩,
    .op ⟨(some 16), (.callv (.tmp 11) [(.tmp 15)]), none⟩]
def r_f144_5 : List SOp :=
   [.op ⟨(some 17), (.mv (.tmp 5)), none⟩,
    .op ⟨(some 4), (.mv (.tmp 17)), none⟩]
def r_f144_6 : List SOp :=
   [.op ⟨(some 18), (.bin .add (.tmp 8) (.av (.int .i64 1))), none⟩,
    .op ⟨(some 8), (.mv (.tmp 18)), none⟩]
def r_f144_7 : List SOp :=
   [.op ⟨(some 4), (.mv (.av (.int .i64 (-1)))), none⟩]
def c_f144 : LFun := ⟨19, (.seq (.sreg r_f144_0 [])
  (.seq (.seq (.sreg r_f144_1 [true, true, false])
  (.block 0 (.loop (.seq (.sreg r_f144_2 [])
  (.seq (.cond (.tmp 9) .skip
  (.exit 0))
  (.seq (.block 1 (.seq (.sreg r_f144_3 [true, false])
  (.seq (.sreg r_f144_4 [true, false, false, false, false, false])
  (.cond (.tmp 16) (.seq (.sreg r_f144_5 [true, false])
  .ret)
  .skip))))
  (.sreg r_f144_6 [true, false])))))))
  (.seq (.sreg r_f144_7 [])
  .ret))), [(.tmp 4)]⟩
def o_f144 : Nat → Nat → Nat := fun _ _ => 1
theorem c_f144_eq : lowF Tryz.prog o_f144 144 = some c_f144.raw := by kernel_rfl
theorem c_f144_ok : c_f144.code.okc = true := by kernel_rfl
/-! slices.BinarySearchFunc[[]castellan/api.Attr,castellan/api.Attr,string] -/
def r_f111_0 : List SOp :=
   [.op ⟨(some 6), (.mv (.av (.int .i64 0))), none⟩,
    .op ⟨(some 7), (.mv (.av (.bool false))), none⟩]
def r_f111_1 : List SOp :=
   [.op ⟨(some 12), (.mv (.tmp 0)), none⟩,
    .op ⟨(some 13), (.len false (.tmp 12)), none⟩,
    .op ⟨(some 8), (.mv (.tmp 13)), none⟩]
def r_f111_2 : List SOp :=
   [.op ⟨(some 14), (.mv (.tmp 8)), none⟩,
    .op ⟨(some 9), (.mv (.av (.int .i64 0))), none⟩,
    .op ⟨(some 10), (.mv (.tmp 14)), none⟩]
def r_f111_3 : List SOp :=
   [.op ⟨(some 15), (.mv (.tmp 9)), none⟩,
    .op ⟨(some 16), (.mv (.tmp 10)), none⟩,
    .op ⟨(some 17), (.bin .lss (.tmp 15) (.tmp 16)), none⟩]
def r_f111_4 : List SOp :=
   [.op ⟨(some 18), (.mv (.tmp 9)), none⟩,
    .op ⟨(some 19), (.mv (.tmp 10)), none⟩,
    .op ⟨(some 20), (.bin .add (.tmp 18) (.tmp 19)), none⟩,
    .op ⟨(some 21), (.conv .u64 (.tmp 20)), none⟩,
    .op ⟨(some 22), (.bin .shr (.tmp 21) (.av (.int .u64 1))), none⟩,
    .op ⟨(some 23), (.conv .i64 (.tmp 22)), none⟩,
    .op ⟨(some 11), (.mv (.tmp 23)), none⟩]
def r_f111_5 : List SOp :=
   [.op ⟨(some 24), (.mv (.tmp 2)), none⟩,
    .op ⟨(some 25), (.mv (.tmp 0)), none⟩,
    .op ⟨(some 26), (.mv (.tmp 11)), none⟩,
    .op ⟨(some 27), (.iaddr 2 (.tmp 25) (.tmp 26)), none⟩,
    .op ⟨(some 28), (.load true 2 (.tmp 27)), none⟩,
    .op ⟨(some 29), (.mv (.tmp 1)), none⟩,
    .op ⟨(some 30), (.callv (.tmp 24) [(.tmp 28), (.tmp 29)]), none⟩,
    .op ⟨(some 31), (.bin .lss (.tmp 30) (.av (.int .i64 0))), none⟩]
def r_f111_6 : List SOp :=
   [.op ⟨(some 32), (.mv (.tmp 11)), none⟩,
    .op ⟨(some 33), (.bin .add (.tmp 32) (.av (.int .i64 1))), none⟩,
    .op ⟨(some 9), (.mv (.tmp 33)), none⟩]
def r_f111_7 : List SOp :=
   [.op ⟨(some 34), (.mv (.tmp 11)), none⟩,
    .op ⟨(some 10), (.mv (.tmp 34)), none⟩]
def r_f111_8 : List SOp :=
   [.op ⟨(some 35), (.mv (.tmp 9)), none⟩,
    .op ⟨(some 36), (.mv (.tmp 9)), none⟩,
    .op ⟨(some 37), (.mv (.tmp 8)), none⟩,
    .op ⟨(some 38), (.bin .lss (.tmp 36) (.tmp 37)), none⟩,
    .op ⟨(some 39), (.mv (.tmp 38)), none⟩,
    .op ⟨(some 40), (.mv (.tmp 2)), (some (39, true))⟩,
    .op ⟨(some 41), (.mv (.tmp 0)), (some (39, true))⟩,
    .op ⟨(some 42), (.mv (.tmp 9)), (some (39, true))⟩,
    .op ⟨(some 43), (.iaddr 2 (.tmp 41) (.tmp 42)), (some (39, true))⟩,
    .op ⟨(some 44), (.load true 2 (.tmp 43)), (some (39, true))⟩,
    .op ⟨(some 45), (.mv (.tmp 1)), (some (39, true))⟩,
    .op ⟨(some 46), (.callv (.tmp 40) [(.tmp 44), (.tmp 45)]), (some (39, true))⟩,
    .op ⟨(some 47), (.bin .eql (.tmp 46) (.av (.int .i64 0))), (some (39, true))⟩,
    .op ⟨(some 48), (.pick (.tmp 39) (.tmp 47) (.av (.bool false))), none⟩,
    .op ⟨(some 6), (.mv (.tmp 35)), none⟩,
    .op ⟨(some 7), (.mv (.tmp 48)), none⟩]
def c_f111 : LFun := ⟨49, (.seq (.sreg r_f111_0 [])
  (.seq (.sreg r_f111_1 [true, false, false])
  (.seq (.sreg r_f111_2 [true, true, false])
  (.seq (.block 0 (.loop (.seq (.seq (.sreg r_f111_3 [true, false, false])
  (.cond (.tmp 17) .skip
  (.exit 0)))
  (.block 1 (.seq (.sreg r_f111_4 [true, false, false, false, false, false, false])
  (.seq (.sreg r_f111_5 [true, false, false, false, false, false, false, false])
  (.cond (.tmp 31) (.sreg r_f111_6 [true, false, false])
  (.sreg r_f111_7 [true, false]))))))))
  (.seq (.sreg r_f111_8 [true, true, false, false, false, false, false, false, false, false, false, false, false, false, false, false])
  .ret))))), [(.tmp 6), (.tmp 7)]⟩
def o_f111 : Nat → Nat → Nat := fun _ _ => 1
theorem c_f111_eq : lowF Tryz.prog o_f111 111 = some c_f111.raw := by kernel_rfl
theorem c_f111_ok : c_f111.code.okc = true := by kernel_rfl
/-! castellan/entry.place$1 -/
def r_f112_0 : List SOp :=
   [.op ⟨(some 2), (.box (.tmp 0)), none⟩,
    .op ⟨(some 4), (.mv (.av (.int .i64 0))), none⟩]
def r_f112_1 : List SOp :=
   [.op ⟨(some 5), (.faddr 0 (.tmp 2)), none⟩,
    .op ⟨(some 6), (.load false 1 (.tmp 5)), none⟩,
    .op ⟨(some 7), (.call 44 [(.tmp 6)]), none⟩,
    .op ⟨(some 8), (.mv (.tmp 1)), none⟩,
    .op ⟨(some 9), (.call 35 [(.tmp 7), (.tmp 8)]), none⟩,
    .op ⟨(some 4), (.mv (.tmp 9)), none⟩]
def c_f112 : LFun := ⟨10, (.seq (.sreg r_f112_0 [])
  (.seq (.sreg r_f112_1 [true, false, false, false, false, false])
  .ret)), [(.tmp 4)]⟩
def o_f112 : Nat → Nat → Nat := fun _ _ => 1
theorem c_f112_eq : lowF Tryz.prog o_f112 112 = some c_f112.raw := by kernel_rfl
theorem c_f112_ok : c_f112.code.okc = true := by kernel_rfl
/-! castellan/octet.Prep -/
def r_f27_0 : List SOp :=
   [.op ⟨(some 2), (.mv (.av (.str []))), none⟩]
def r_f27_1 : List SOp :=
   [.op ⟨(some 3), (.mv (.av (.sl [] 0 (some 0)))), none⟩]
def r_f27_2 : List SOp :=
   [.op ⟨(some 6), (.mv (.tmp 0)), none⟩,
    .op ⟨(some 7), (.call 44 [(.tmp 6)]), none⟩,
    .op ⟨(some 8), (.s2b (.tmp 7)), none⟩,
    .op ⟨(some 9), (.len false (.tmp 8)), none⟩,
    .op ⟨(some 10), (.mv (.av (.int .i64 0))), none⟩]
def r_f27_3 : List SOp :=
   [.op ⟨(some 11), (.bin .lss (.tmp 10) (.tmp 9)), none⟩]
def r_f27_4 : List SOp :=
   [.op ⟨(some 12), (.iaddr 1 (.tmp 8) (.tmp 10)), none⟩,
    .op ⟨(some 13), (.load false 1 (.tmp 12)), none⟩,
    .op ⟨(some 5), (.mv (.tmp 13)), none⟩]
def r_f27_5 : List SOp :=
   [.op ⟨(some 14), (.mv (.tmp 5)), none⟩,
    .op ⟨(some 15), (.bin .eql (.tmp 14) (.av (.int .u8 32))), none⟩,
    .op ⟨(some 16), (.mv (.tmp 15)), none⟩,
    .grp none 16 true
      [.op ⟨(some 17), (.mv (.tmp 3)), (some (16, true))⟩,
      .op ⟨(some 18), (.len false (.tmp 17)), (some (16, true))⟩,
      .op ⟨(some 19), (.bin .eql (.tmp 18) (.av (.int .i64 0))), (some (16, true))⟩,
      .op ⟨(some 20), (.mv (.tmp 19)), (some (16, true))⟩,
      .grp (some (16, true)) 20 false
        [.op ⟨(some 21), (.mv (.tmp 3)), (some (20, false))⟩,
        .op ⟨(some 22), (.mv (.tmp 3)), (some (20, false))⟩,
        .op ⟨(some 23), (.len false (.tmp 22)), (some (20, false))⟩,
        .op ⟨(some 24), (.bin .sub (.tmp 23) (.av (.int .i64 1))), (some (20, false))⟩,
        .op ⟨(some 25), (.iaddr 1 (.tmp 21) (.tmp 24)), (some (20, false))⟩,
        .op ⟨(some 26), (.load false 1 (.tmp 25)), (some (20, false))⟩,
        .op ⟨(some 27), (.bin .eql (.tmp 26) (.av (.int .u8 32))), (some (20, false))⟩]
        28 (.tmp 27)]
      29 (.tmp 28)]
def r_f27_6 : List SOp :=
   [.op ⟨(some 30), (.mv (.tmp 3)), none⟩,
    .op ⟨(some 31), (.mv (.tmp 5)), none⟩,
    .op ⟨(some 32), (.bslice false 1 1 [(.int .u8 0)] [(0, 1, (.tmp 31))]), none⟩,
    .op ⟨(some 33), (.app 1 1 1 [(.int .u8 0)] (.tmp 30) (.tmp 32)), none⟩,
    .op ⟨(some 3), (.mv (.tmp 33)), none⟩]
def r_f27_7 : List SOp :=
   [.op ⟨(some 34), (.bin .add (.tmp 10) (.av (.int .i64 1))), none⟩,
    .op ⟨(some 10), (.mv (.tmp 34)), none⟩]
def r_f27_8 : List SOp :=
   [.op ⟨(some 35), (.mv (.tmp 3)), none⟩,
    .op ⟨(some 36), (.len false (.tmp 35)), none⟩,
    .op ⟨(some 37), (.bin .gtr (.tmp 36) (.av (.int .i64 0))), none⟩,
    .op ⟨(some 38), (.mv (.tmp 37)), none⟩,
    .grp none 38 true
      [.op ⟨(some 39), (.mv (.tmp 3)), (some (38, true))⟩,
      .op ⟨(some 40), (.mv (.tmp 3)), (some (38, true))⟩,
      .op ⟨(some 41), (.len false (.tmp 40)), (some (38, true))⟩,
      .op ⟨(some 42), (.bin .sub (.tmp 41) (.av (.int .i64 1))), (some (38, true))⟩,
      .op ⟨(some 43), (.iaddr 1 (.tmp 39) (.tmp 42)), (some (38, true))⟩,
      .op ⟨(some 44), (.load false 1 (.tmp 43)), (some (38, true))⟩,
      .op ⟨(some 45), (.bin .eql (.tmp 44) (.av (.int .u8 32))), (some (38, true))⟩]
      46 (.tmp 45)]
def r_f27_9 : List SOp :=
   [.op ⟨(some 47), (.mv (.tmp 3)), none⟩,
    .op ⟨(some 48), (.mv (.tmp 3)), none⟩,
    .op ⟨(some 49), (.len false (.tmp 48)), none⟩,
    .op ⟨(some 50), (.bin .sub (.tmp 49) (.av (.int .i64 1))), none⟩,
    .op ⟨(some 51), (.slV 1 (.tmp 47) none (some (.tmp 50)) none), none⟩,
    .op ⟨(some 3), (.mv (.tmp 51)), none⟩]
def r_f27_10 : List SOp :=
   [.op ⟨(some 52), (.mv (.tmp 3)), none⟩,
    .op ⟨(some 53), (.b2s (.tmp 52)), none⟩,
    .op ⟨(some 2), (.mv (.tmp 53)), none⟩]
def c_f27 : LFun := ⟨54, (.seq (.sreg r_f27_0 [])
  (.seq (.sreg r_f27_1 [])
  (.seq (.seq (.sreg r_f27_2 [true, true, true, false, false])
  (.block 0 (.loop (.seq (.sreg r_f27_3 [])
  (.seq (.cond (.tmp 11) .skip
  (.exit 0))
  (.seq (.block 1 (.seq (.sreg r_f27_4 [true, false, false])
  (.seq (.seq (.sreg r_f27_5 [true, false, false, false])
  (.cond (.tmp 29) (.exit 1)
  .skip))
  (.sreg r_f27_6 [true, false, false, false, false]))))
  (.sreg r_f27_7 [true, false])))))))
  (.seq (.seq (.sreg r_f27_8 [true, false, false, false, false])
  (.cond (.tmp 46) (.sreg r_f27_9 [true, false, false, false, false, false])
  .skip))
  (.seq (.sreg r_f27_10 [true, false, false])
  .ret))))), [(.tmp 2)]⟩
def o_f27 : Nat → Nat → Nat := fun _ _ => 1
theorem c_f27_eq : lowF Tryz.prog o_f27 27 = some c_f27.raw := by kernel_rfl
theorem c_f27_ok : c_f27.code.okc = true := by kernel_rfl
/-! unicode/utf8.ValidString -/
def r_f28_0 : List SOp :=
   [.op ⟨(some 2), (.mv (.av (.bool false))), none⟩]
def r_f28_1 : List SOp :=
   [.op ⟨(some 7), (.mv (.tmp 0)), none⟩,
    .op ⟨(some 8), (.len true (.tmp 7)), none⟩,
    .op ⟨(some 9), (.bin .gtr (.tmp 8) (.av (.int .i64 0))), none⟩]
def r_f28_2 : List SOp :=
   [.op ⟨(some 10), (.mv (.tmp 0)), none⟩,
    .op ⟨(some 11), (.idxS (.tmp 10) (.av (.int .i64 0))), none⟩,
    .op ⟨(some 3), (.mv (.tmp 11)), none⟩]
def r_f28_3 : List SOp :=
   [.op ⟨(some 12), (.mv (.tmp 3)), none⟩,
    .op ⟨(some 13), (.bin .lss (.tmp 12) (.av (.int .u8 128))), none⟩]
def r_f28_4 : List SOp :=
   [.op ⟨(some 14), (.mv (.tmp 0)), none⟩,
    .op ⟨(some 15), (.slS (.tmp 14) (some (.av (.int .i64 1))) none), none⟩,
    .op ⟨(some 0), (.mv (.tmp 15)), none⟩]
def r_f28_5 : List SOp :=
   [.op ⟨(some 16), (.mv (.tmp 0)), none⟩,
    .op ⟨(some 17), (.len true (.tmp 16)), none⟩,
    .op ⟨(some 18), (.bin .gtr (.tmp 17) (.av (.int .i64 8))), none⟩,
    .op ⟨(some 19), (.mv (.tmp 18)), none⟩,
    .op ⟨(some 20), (.mv (.tmp 0)), (some (19, true))⟩,
    .op ⟨(some 21), (.call 65 [(.tmp 20)]), (some (19, true))⟩,
    .op ⟨(some 22), (.bin .and (.tmp 21) (.av (.int .u64 9259542123273814144))), (some (19, true))⟩,
    .op ⟨(some 23), (.bin .eql (.tmp 22) (.av (.int .u64 0))), (some (19, true))⟩,
    .op ⟨(some 24), (.pick (.tmp 19) (.tmp 23) (.av (.bool false))), none⟩]
def r_f28_6 : List SOp :=
   [.op ⟨(some 25), (.mv (.tmp 0)), none⟩,
    .op ⟨(some 26), (.slS (.tmp 25) (some (.av (.int .i64 8))) none), none⟩,
    .op ⟨(some 0), (.mv (.tmp 26)), none⟩]
def r_f28_7 : List (LOper × Kd) :=
   [(⟨(some 27), (.mv (.tmp 0)), none⟩, .pure),
    (⟨(some 28), (.len true (.tmp 27)), none⟩, (.read 0 0)),
    (⟨(some 29), (.bin .gtr (.tmp 28) (.av (.int .i64 16))), none⟩, .pure),
    (⟨(some 30), (.mv (.tmp 29)), none⟩, .pure),
    (⟨(some 31), (.mv (.tmp 0)), (some (30, true))⟩, .pure),
    (⟨(some 32), (.call 65 [(.tmp 31)]), (some (30, true))⟩, .eff),
    (⟨(some 33), (.mv (.tmp 0)), (some (30, true))⟩, .pure),
    (⟨(some 34), (.slS (.tmp 33) (some (.av (.int .i64 8))) none), (some (30, true))⟩, (.read 1 0))]
def r_f28_7t : List LOper :=
   [⟨(some 35), (.call 65 [(.tmp 34)]), (some (30, true))⟩,
    ⟨(some 36), (.bin .or (.tmp 32) (.tmp 35)), (some (30, true))⟩,
    ⟨(some 37), (.bin .and (.tmp 36) (.av (.int .u64 9259542123273814144))), (some (30, true))⟩,
    ⟨(some 38), (.bin .eql (.tmp 37) (.av (.int .u64 0))), (some (30, true))⟩,
    ⟨(some 39), (.pick (.tmp 30) (.tmp 38) (.av (.bool false))), none⟩]
def r_f28_8 : List SOp :=
   [.op ⟨(some 40), (.mv (.tmp 0)), none⟩,
    .op ⟨(some 41), (.slS (.tmp 40) (some (.av (.int .i64 16))) none), none⟩,
    .op ⟨(some 0), (.mv (.tmp 41)), none⟩]
def r_f28_9 : List (LOper × Kd) :=
   [(⟨(some 42), (.mv (.tmp 0)), none⟩, .pure),
    (⟨(some 43), (.len true (.tmp 42)), none⟩, (.read 0 0)),
    (⟨(some 44), (.bin .gtr (.tmp 43) (.av (.int .i64 32))), none⟩, .pure),
    (⟨(some 45), (.mv (.tmp 44)), none⟩, .pure),
    (⟨(some 46), (.mv (.tmp 0)), (some (45, true))⟩, .pure),
    (⟨(some 47), (.call 65 [(.tmp 46)]), (some (45, true))⟩, .eff),
    (⟨(some 48), (.mv (.tmp 0)), (some (45, true))⟩, .pure),
    (⟨(some 49), (.slS (.tmp 48) (some (.av (.int .i64 8))) none), (some (45, true))⟩, (.read 1 0)),
    (⟨(some 50), (.call 65 [(.tmp 49)]), (some (45, true))⟩, .eff),
    (⟨(some 51), (.bin .or (.tmp 47) (.tmp 50)), (some (45, true))⟩, .pure),
    (⟨(some 52), (.mv (.tmp 0)), (some (45, true))⟩, .pure),
    (⟨(some 53), (.slS (.tmp 52) (some (.av (.int .i64 16))) none), (some (45, true))⟩, (.read 2 0)),
    (⟨(some 54), (.call 65 [(.tmp 53)]), (some (45, true))⟩, .eff),
    (⟨(some 55), (.mv (.tmp 0)), (some (45, true))⟩, .pure),
    (⟨(some 56), (.slS (.tmp 55) (some (.av (.int .i64 24))) none), (some (45, true))⟩, (.read 3 0)),
    (⟨(some 57), (.call 65 [(.tmp 56)]), (some (45, true))⟩, .eff),
    (⟨(some 58), (.bin .or (.tmp 54) (.tmp 57)), (some (45, true))⟩, .pure)]
def r_f28_9t : List LOper :=
   [⟨(some 59), (.bin .or (.tmp 51) (.tmp 58)), (some (45, true))⟩,
    ⟨(some 60), (.bin .and (.tmp 59) (.av (.int .u64 9259542123273814144))), (some (45, true))⟩,
    ⟨(some 61), (.bin .eql (.tmp 60) (.av (.int .u64 0))), (some (45, true))⟩,
    ⟨(some 62), (.pick (.tmp 45) (.tmp 61) (.av (.bool false))), none⟩]
def r_f28_10 : List SOp :=
   [.op ⟨(some 63), (.mv (.tmp 0)), none⟩,
    .op ⟨(some 64), (.slS (.tmp 63) (some (.av (.int .i64 32))) none), none⟩,
    .op ⟨(some 0), (.mv (.tmp 64)), none⟩]
def r_f28_11 : List SOp :=
   [.op ⟨(some 65), (.mv (.tmp 3)), none⟩,
    .op ⟨(some 66), (.iaddrA 256 1 (.av (.gptr 0 0)) (.tmp 65)), none⟩,
    .op ⟨(some 67), (.load false 1 (.tmp 66)), none⟩,
    .op ⟨(some 4), (.mv (.tmp 67)), none⟩]
def r_f28_12 : List SOp :=
   [.op ⟨(some 68), (.mv (.tmp 4)), none⟩,
    .op ⟨(some 69), (.bin .and (.tmp 68) (.av (.int .u8 7))), none⟩,
    .op ⟨(some 70), (.conv .i64 (.tmp 69)), none⟩,
    .op ⟨(some 5), (.mv (.tmp 70)), none⟩]
def r_f28_13 : List SOp :=
   [.op ⟨(some 71), (.mv (.tmp 4)), none⟩,
    .op ⟨(some 72), (.bin .shr (.tmp 71) (.av (.int .u64 4))), none⟩,
    .op ⟨(some 73), (.iaddrA 16 2 (.av (.gptr 1 0)) (.tmp 72)), none⟩,
    .op ⟨(some 74), (.load true 2 (.tmp 73)), none⟩,
    .op ⟨(some 6), (.alloc [(.int .u8 0), (.int .u8 0)]), none⟩,
    .op ⟨none, (.store 2 (.tmp 6) (.tmp 74)), none⟩]
def r_f28_14 : List SOp :=
   [.op ⟨(some 75), (.mv (.tmp 5)), none⟩]
def r_f28_15 : List SOp :=
   [.op ⟨(some 77), (.bin .eql (.tmp 75) (.av (.int .i64 2))), none⟩,
    .op ⟨(some 76), (.mv (.tmp 77)), none⟩]
def r_f28_16 : List SOp :=
   [.op ⟨(some 78), (.mv (.tmp 0)), none⟩,
    .op ⟨(some 79), (.len true (.tmp 78)), none⟩,
    .op ⟨(some 80), (.bin .lss (.tmp 79) (.av (.int .i64 2))), none⟩,
    .op ⟨(some 81), (.mv (.tmp 80)), none⟩,
    .grp none 81 false
      [.op ⟨(some 82), (.mv (.tmp 0)), (some (81, false))⟩,
      .op ⟨(some 83), (.idxS (.tmp 82) (.av (.int .i64 1))), (some (81, false))⟩,
      .op ⟨(some 84), (.faddr 0 (.tmp 6)), (some (81, false))⟩,
      .op ⟨(some 85), (.load false 1 (.tmp 84)), (some (81, false))⟩,
      .op ⟨(some 86), (.bin .lss (.tmp 83) (.tmp 85)), (some (81, false))⟩]
      87 (.tmp 86),
    .op ⟨(some 88), (.mv (.tmp 87)), none⟩,
    .grp none 88 false
      [.op ⟨(some 89), (.faddr 1 (.tmp 6)), (some (88, false))⟩,
      .op ⟨(some 90), (.load false 1 (.tmp 89)), (some (88, false))⟩,
      .op ⟨(some 91), (.mv (.tmp 0)), (some (88, false))⟩,
      .op ⟨(some 92), (.idxS (.tmp 91) (.av (.int .i64 1))), (some (88, false))⟩,
      .op ⟨(some 93), (.bin .lss (.tmp 90) (.tmp 92)), (some (88, false))⟩]
      94 (.tmp 93)]
def r_f28_17 : List SOp :=
   [.op ⟨(some 2), (.mv (.av (.bool false))), none⟩]
def r_f28_18 : List SOp :=
   [.op ⟨(some 95), (.mv (.tmp 0)), none⟩,
    .op ⟨(some 96), (.slS (.tmp 95) (some (.av (.int .i64 2))) none), none⟩,
    .op ⟨(some 0), (.mv (.tmp 96)), none⟩]
def r_f28_19 : List SOp :=
   [.op ⟨(some 98), (.bin .eql (.tmp 75) (.av (.int .i64 3))), none⟩,
    .op ⟨(some 97), (.mv (.tmp 98)), none⟩]
def r_f28_20 : List SOp :=
   [.op ⟨(some 99), (.mv (.tmp 0)), none⟩,
    .op ⟨(some 100), (.len true (.tmp 99)), none⟩,
    .op ⟨(some 101), (.bin .lss (.tmp 100) (.av (.int .i64 3))), none⟩,
    .op ⟨(some 102), (.mv (.tmp 101)), none⟩,
    .grp none 102 false
      [.op ⟨(some 103), (.mv (.tmp 0)), (some (102, false))⟩,
      .op ⟨(some 104), (.idxS (.tmp 103) (.av (.int .i64 1))), (some (102, false))⟩,
      .op ⟨(some 105), (.faddr 0 (.tmp 6)), (some (102, false))⟩,
      .op ⟨(some 106), (.load false 1 (.tmp 105)), (some (102, false))⟩,
      .op ⟨(some 107), (.bin .lss (.tmp 104) (.tmp 106)), (some (102, false))⟩]
      108 (.tmp 107),
    .op ⟨(some 109), (.mv (.tmp 108)), none⟩,
    .grp none 109 false
      [.op ⟨(some 110), (.faddr 1 (.tmp 6)), (some (109, false))⟩,
      .op ⟨(some 111), (.load false 1 (.tmp 110)), (some (109, false))⟩,
      .op ⟨(some 112), (.mv (.tmp 0)), (some (109, false))⟩,
      .op ⟨(some 113), (.idxS (.tmp 112) (.av (.int .i64 1))), (some (109, false))⟩,
      .op ⟨(some 114), (.bin .lss (.tmp 111) (.tmp 113)), (some (109, false))⟩]
      115 (.tmp 114),
    .op ⟨(some 116), (.mv (.tmp 115)), none⟩,
    .grp none 116 false
      [.op ⟨(some 117), (.mv (.tmp 0)), (some (116, false))⟩,
      .op ⟨(some 118), (.idxS (.tmp 117) (.av (.int .i64 2))), (some (116, false))⟩,
      .op ⟨(some 119), (.bin .lss (.tmp 118) (.av (.int .u8 128))), (some (116, false))⟩]
      120 (.tmp 119),
    .op ⟨(some 121), (.mv (.tmp 120)), none⟩,
    .grp none 121 false
      [.op ⟨(some 122), (.mv (.tmp 0)), (some (121, false))⟩,
      .op ⟨(some 123), (.idxS (.tmp 122) (.av (.int .i64 2))), (some (121, false))⟩,
      .op ⟨(some 124), (.bin .lss (.av (.int .u8 191)) (.tmp 123)), (some (121, false))⟩]
      125 (.tmp 124)]
def r_f28_21 : List SOp :=
   [.op ⟨(some 2), (.mv (.av (.bool false))), none⟩]
def r_f28_22 : List SOp :=
   [.op ⟨(some 126), (.mv (.tmp 0)), none⟩,
    .op ⟨(some 127), (.slS (.tmp 126) (some (.av (.int .i64 3))) none), none⟩,
    .op ⟨(some 0), (.mv (.tmp 127)), none⟩]
def r_f28_23 : List SOp :=
   [.op ⟨(some 129), (.bin .eql (.tmp 75) (.av (.int .i64 4))), none⟩,
    .op ⟨(some 128), (.mv (.tmp 129)), none⟩]
def r_f28_24 : List SOp :=
   [.op ⟨(some 130), (.mv (.tmp 0)), none⟩,
    .op ⟨(some 131), (.len true (.tmp 130)), none⟩,
    .op ⟨(some 132), (.bin .lss (.tmp 131) (.av (.int .i64 4))), none⟩,
    .op ⟨(some 133), (.mv (.tmp 132)), none⟩,
    .grp none 133 false
      [.op ⟨(some 134), (.mv (.tmp 0)), (some (133, false))⟩,
      .op ⟨(some 135), (.idxS (.tmp 134) (.av (.int .i64 1))), (some (133, false))⟩,
      .op ⟨(some 136), (.faddr 0 (.tmp 6)), (some (133, false))⟩,
      .op ⟨(some 137), (.load false 1 (.tmp 136)), (some (133, false))⟩,
      .op ⟨(some 138), (.bin .lss (.tmp 135) (.tmp 137)), (some (133, false))⟩]
      139 (.tmp 138),
    .op ⟨(some 140), (.mv (.tmp 139)), none⟩,
    .grp none 140 false
      [.op ⟨(some 141), (.faddr 1 (.tmp 6)), (some (140, false))⟩,
      .op ⟨(some 142), (.load false 1 (.tmp 141)), (some (140, false))⟩,
      .op ⟨(some 143), (.mv (.tmp 0)), (some (140, false))⟩,
      .op ⟨(some 144), (.idxS (.tmp 143) (.av (.int .i64 1))), (some (140, false))⟩,
      .op ⟨(some 145), (.bin .lss (.tmp 142) (.tmp 144)), (some (140, false))⟩]
      146 (.tmp 145),
    .op ⟨(some 147), (.mv (.tmp 146)), none⟩,
    .grp none 147 false
      [.op ⟨(some 148), (.mv (.tmp 0)), (some (147, false))⟩,
      .op ⟨(some 149), (.idxS (.tmp 148) (.av (.int .i64 2))), (some (147, false))⟩,
      .op ⟨(some 150), (.bin .lss (.tmp 149) (.av (.int .u8 128))), (some (147, false))⟩]
      151 (.tmp 150),
    .op ⟨(some 152), (.mv (.tmp 151)), none⟩,
    .grp none 152 false
      [.op ⟨(some 153), (.mv (.tmp 0)), (some (152, false))⟩,
      .op ⟨(some 154), (.idxS (.tmp 153) (.av (.int .i64 2))), (some (152, false))⟩,
      .op ⟨(some 155), (.bin .lss (.av (.int .u8 191)) (.tmp 154)), (some (152, false))⟩]
      156 (.tmp 155),
    .op ⟨(some 157), (.mv (.tmp 156)), none⟩,
    .grp none 157 false
      [.op ⟨(some 158), (.mv (.tmp 0)), (some (157, false))⟩,
      .op ⟨(some 159), (.idxS (.tmp 158) (.av (.int .i64 3))), (some (157, false))⟩,
      .op ⟨(some 160), (.bin .lss (.tmp 159) (.av (.int .u8 128))), (some (157, false))⟩]
      161 (.tmp 160),
    .op ⟨(some 162), (.mv (.tmp 161)), none⟩,
    .grp none 162 false
      [.op ⟨(some 163), (.mv (.tmp 0)), (some (162, false))⟩,
      .op ⟨(some 164), (.idxS (.tmp 163) (.av (.int .i64 3))), (some (162, false))⟩,
      .op ⟨(some 165), (.bin .lss (.av (.int .u8 191)) (.tmp 164)), (some (162, false))⟩]
      166 (.tmp 165)]
def r_f28_25 : List SOp :=
   [.op ⟨(some 2), (.mv (.av (.bool false))), none⟩]
def r_f28_26 : List SOp :=
   [.op ⟨(some 167), (.mv (.tmp 0)), none⟩,
    .op ⟨(some 168), (.slS (.tmp 167) (some (.av (.int .i64 4))) none), none⟩,
    .op ⟨(some 0), (.mv (.tmp 168)), none⟩]
def r_f28_27 : List SOp :=
   [.op ⟨(some 2), (.mv (.av (.bool false))), none⟩]
def r_f28_28 : List SOp :=
   [.op ⟨(some 2), (.mv (.av (.bool true))), none⟩]
def c_f28 : LFun := ⟨169, (.seq (.sreg r_f28_0 [])
  (.seq (.block 0 (.loop (.seq (.seq (.sreg r_f28_1 [true, false, false])
  (.cond (.tmp 9) .skip
  (.exit 0)))
  (.block 1 (.seq (.sreg r_f28_2 [true, false, false])
  (.seq (.seq (.sreg r_f28_3 [true, false])
  (.cond (.tmp 13) (.seq (.sreg r_f28_4 [true, false, false])
  (.seq (.seq (.sreg r_f28_5 [true, false, false, false, false, false, false, false, false])
  (.cond (.tmp 24) (.seq (.sreg r_f28_6 [true, false, false])
  (.seq (.dregM r_f28_7 r_f28_7t [true, false, false, false, false, false, false, false, false, false, false, false, false])
  (.cond (.tmp 39) (.seq (.sreg r_f28_8 [true, false, false])
  (.block 2 (.loop (.seq (.seq (.dregM r_f28_9 r_f28_9t [true, false, false, false, false, false, false, false, false, false, false, false, false, false, false, false, false, false, false, false, false])
  (.cond (.tmp 62) .skip
  (.exit 2)))
  (.block 3 (.sreg r_f28_10 [true, false, false]))))))
  .skip)))
  .skip))
  (.exit 1)))
  .skip))
  (.seq (.sreg r_f28_11 [true, false, false, false])
  (.seq (.sreg r_f28_12 [true, false, false, false])
  (.seq (.sreg r_f28_13 [true, false, false, false, false])
  (.seq (.sreg r_f28_14 [])
  (.block 4 (.seq (.sreg r_f28_15 [true, false])
  (.cond (.tmp 76) (.seq (.seq (.sdreg r_f28_16 [.pure, (.read 0 0), .pure, .pure, .pure, (.read 0 0), .pure, (.read 0 0), .pure, .pure, .pure, .pure, (.read 0 0), .pure, (.read 0 0)] [true, false, false, false, false, false, false])
  (.cond (.tmp 94) (.seq (.sreg r_f28_17 [])
  .ret)
  .skip))
  (.sreg r_f28_18 [true, false, false]))
  (.seq (.sreg r_f28_19 [true, false])
  (.cond (.tmp 97) (.seq (.seq (.sdreg r_f28_20 [.pure, (.read 0 0), .pure, .pure, .pure, (.read 0 0), .pure, (.read 0 0), .pure, .pure, .pure, .pure, (.read 0 0), .pure, (.read 0 0)] [true, false, false, false, false, false, false, false, false, false, false])
  (.cond (.tmp 125) (.seq (.sreg r_f28_21 [])
  .ret)
  .skip))
  (.sreg r_f28_22 [true, false, false]))
  (.seq (.sreg r_f28_23 [true, false])
  (.cond (.tmp 128) (.seq (.seq (.sdreg r_f28_24 [.pure, (.read 0 0), .pure, .pure, .pure, (.read 0 0), .pure, (.read 0 0), .pure, .pure, .pure, .pure, (.read 0 0), .pure, (.read 0 0)] [true, false, false, false, false, false, false, false, false, false, false, false, false, false, false])
  (.cond (.tmp 166) (.seq (.sreg r_f28_25 [])
  .ret)
  .skip))
  (.sreg r_f28_26 [true, false, false]))
  (.seq (.sreg r_f28_27 [])
  .ret))))))))))))))))))
  (.seq (.sreg r_f28_28 [])
  .ret))), [(.tmp 2)]⟩
def o_f28 : Nat → Nat → Nat := fun r i => if r = 7 ∧ i = 5 then 3 else if r = 7 ∧ i = 8 then 3 else if r = 9 ∧ i = 5 then 3 else if r = 9 ∧ i = 8 then 3 else if r = 9 ∧ i = 12 then 3 else if r = 9 ∧ i = 15 then 3 else 1
theorem c_f28_eq : lowF Tryz.prog o_f28 28 = some c_f28.raw := by kernel_rfl
theorem c_f28_ok : c_f28.code.okc = true := by kernel_rfl
/-! castellan/castellanref09.Type -/
def r_f156_0 : List SOp :=
   [.op ⟨(some 2), (.mv (.av (.bool false))), none⟩]
def r_f156_1 : List SOp :=
   [.op ⟨(some 6), (.mv (.tmp 0)), none⟩,
    .op ⟨(some 7), (.call 176 [(.tmp 6)]), none⟩,
    .op ⟨(some 3), (.mv (.tmp 7)), none⟩]
def r_f156_2 : List SOp :=
   [.op ⟨(some 8), (.mv (.tmp 3)), none⟩,
    .op ⟨(some 9), (.len true (.tmp 8)), none⟩,
    .op ⟨(some 10), (.bin .geq (.tmp 9) (.av (.int .i64 1))), none⟩,
    .op ⟨(some 11), (.mv (.tmp 10)), none⟩,
    .grp none 11 true
      [.op ⟨(some 12), (.mv (.tmp 3)), (some (11, true))⟩,
      .op ⟨(some 13), (.len true (.tmp 12)), (some (11, true))⟩,
      .op ⟨(some 14), (.bin .leq (.tmp 13) (.av (.int .i64 32))), (some (11, true))⟩]
      15 (.tmp 14),
    .op ⟨(some 4), (.mv (.tmp 15)), none⟩]
def r_f156_3 : List SOp :=
   [.op ⟨(some 5), (.mv (.av (.int .i64 0))), none⟩]
def r_f156_4 : List SOp :=
   [.op ⟨(some 16), (.mv (.tmp 5)), none⟩,
    .op ⟨(some 17), (.mv (.tmp 3)), none⟩,
    .op ⟨(some 18), (.len true (.tmp 17)), none⟩,
    .op ⟨(some 19), (.bin .lss (.tmp 16) (.tmp 18)), none⟩,
    .op ⟨(some 20), (.mv (.tmp 19)), none⟩,
    .grp none 20 true
      [.op ⟨(some 21), (.mv (.tmp 4)), (some (20, true))⟩]
      22 (.tmp 21)]
def r_f156_5 : List SOp :=
   [.op ⟨(some 25), (.mv (.tmp 3)), none⟩,
    .op ⟨(some 26), (.mv (.tmp 5)), none⟩,
    .op ⟨(some 27), (.idxS (.tmp 25) (.tmp 26)), none⟩,
    .op ⟨(some 28), (.call 177 [(.tmp 27), (.av (.str [97, 98, 99, 100, 101, 102, 103, 104, 105, 106, 107, 108, 109, 110, 111, 112, 113, 114, 115, 116, 117, 118, 119, 120, 121, 122]))]), none⟩,
    .op ⟨(some 29), (.mv (.tmp 28)), none⟩,
    .op ⟨(some 30), (.mv (.tmp 5)), (some (29, false))⟩,
    .op ⟨(some 31), (.bin .gtr (.tmp 30) (.av (.int .i64 0))), (some (29, false))⟩,
    .op ⟨(some 32), (.mv (.tmp 31)), (some (29, false))⟩,
    .op ⟨(some 33), (.mv (.tmp 3)), (some (32, true))⟩,
    .op ⟨(some 34), (.mv (.tmp 5)), (some (32, true))⟩,
    .op ⟨(some 35), (.idxS (.tmp 33) (.tmp 34)), (some (32, true))⟩,
    .op ⟨(some 36), (.call 177 [(.tmp 35), (.av (.str [48, 49, 50, 51, 52, 53, 54, 55, 56, 57, 45]))]), (some (32, true))⟩,
    .op ⟨(some 37), (.pick (.tmp 32) (.tmp 36) (.av (.bool false))), (some (29, false))⟩,
    .op ⟨(some 38), (.pick (.tmp 29) (.av (.bool true)) (.tmp 37)), none⟩,
    .op ⟨(some 4), (.mv (.tmp 38)), none⟩]
def r_f156_6 : List SOp :=
   [.op ⟨(some 23), (.mv (.tmp 5)), none⟩,
    .op ⟨(some 24), (.bin .add (.tmp 23) (.av (.int .i64 1))), none⟩,
    .op ⟨(some 5), (.mv (.tmp 24)), none⟩]
def r_f156_7 : List SOp :=
   [.op ⟨(some 39), (.mv (.tmp 4)), none⟩,
    .op ⟨(some 2), (.mv (.tmp 39)), none⟩]
def c_f156 : LFun := ⟨40, (.seq (.sreg r_f156_0 [])
  (.seq (.sreg r_f156_1 [true, false, false])
  (.seq (.sreg r_f156_2 [true, false, false, false, false, false])
  (.seq (.seq (.sreg r_f156_3 [])
  (.block 0 (.loop (.seq (.seq (.sreg r_f156_4 [true, false, false, false, false, false])
  (.cond (.tmp 22) .skip
  (.exit 0)))
  (.seq (.block 1 (.sreg r_f156_5 [true, false, false, false, false, false, false, false, false, false, false, false, false, false, false]))
  (.sreg r_f156_6 [true, false, false]))))))
  (.seq (.sreg r_f156_7 [true, false])
  .ret))))), [(.tmp 2)]⟩
def o_f156 : Nat → Nat → Nat := fun _ _ => 1
theorem c_f156_eq : lowF Tryz.prog o_f156 156 = some c_f156.raw := by kernel_rfl
theorem c_f156_ok : c_f156.code.okc = true := by kernel_rfl
/-! slices.Concat[[]int,int] -/
def r_f59_0 : List SOp :=
   [.op ⟨(some 2), (.mv (.av (.sl [] 0 (some 0)))), none⟩]
def r_f59_1 : List SOp :=
   [.op ⟨(some 3), (.mv (.av (.int .i64 0))), none⟩]
def r_f59_2 : List SOp :=
   [.op ⟨(some 9), (.mv (.tmp 0)), none⟩,
    .op ⟨(some 10), (.len false (.tmp 9)), none⟩,
    .op ⟨(some 11), (.mv (.av (.int .i64 0))), none⟩]
def r_f59_3 : List SOp :=
   [.op ⟨(some 12), (.bin .lss (.tmp 11) (.tmp 10)), none⟩]
def r_f59_4 : List SOp :=
   [.op ⟨(some 13), (.iaddr 1 (.tmp 9) (.tmp 11)), none⟩,
    .op ⟨(some 14), (.load false 1 (.tmp 13)), none⟩,
    .op ⟨(some 5), (.mv (.tmp 14)), none⟩]
def r_f59_5 : List SOp :=
   [.op ⟨(some 15), (.mv (.tmp 3)), none⟩,
    .op ⟨(some 16), (.mv (.tmp 5)), none⟩,
    .op ⟨(some 17), (.len false (.tmp 16)), none⟩,
    .op ⟨(some 18), (.bin .add (.tmp 15) (.tmp 17)), none⟩,
    .op ⟨(some 3), (.mv (.tmp 18)), none⟩]
def r_f59_6 : List SOp :=
   [.op ⟨(some 19), (.mv (.tmp 3)), none⟩,
    .op ⟨(some 20), (.bin .lss (.tmp 19) (.av (.int .i64 0))), none⟩]
def r_f59_7 : List SOp :=
   [.op ⟨(some 21), (.mkif 9 (.av (.str [108, 101, 110, 32, 111, 117, 116, 32, 111, 102, 32, 114, 97, 110, 103, 101]))), none⟩,
    .op ⟨none, .bad, none⟩]
def r_f59_8 : List SOp :=
   [.op ⟨(some 22), (.bin .add (.tmp 11) (.av (.int .i64 1))), none⟩,
    .op ⟨(some 11), (.mv (.tmp 22)), none⟩]
def r_f59_9 : List SOp :=
   [.op ⟨(some 23), (.mv (.tmp 3)), none⟩,
    .op ⟨(some 24), (.call 92 [(.av (.sl [] 0 (some 0))), (.tmp 23)]), none⟩,
    .op ⟨(some 6), (.mv (.tmp 24)), none⟩]
def r_f59_10 : List SOp :=
   [.op ⟨(some 25), (.mv (.tmp 0)), none⟩,
    .op ⟨(some 26), (.len false (.tmp 25)), none⟩,
    .op ⟨(some 27), (.mv (.av (.int .i64 0))), none⟩]
def r_f59_11 : List SOp :=
   [.op ⟨(some 28), (.bin .lss (.tmp 27) (.tmp 26)), none⟩]
def r_f59_12 : List SOp :=
   [.op ⟨(some 29), (.iaddr 1 (.tmp 25) (.tmp 27)), none⟩,
    .op ⟨(some 30), (.load false 1 (.tmp 29)), none⟩,
    .op ⟨(some 8), (.mv (.tmp 30)), none⟩]
def r_f59_13 : List SOp :=
   [.op ⟨(some 31), (.mv (.tmp 6)), none⟩,
    .op ⟨(some 32), (.mv (.tmp 8)), none⟩,
    .op ⟨(some 33), (.app 1 1 8 [(.int .i64 0)] (.tmp 31) (.tmp 32)), none⟩,
    .op ⟨(some 6), (.mv (.tmp 33)), none⟩]
def r_f59_14 : List SOp :=
   [.op ⟨(some 34), (.bin .add (.tmp 27) (.av (.int .i64 1))), none⟩,
    .op ⟨(some 27), (.mv (.tmp 34)), none⟩]
def r_f59_15 : List SOp :=
   [.op ⟨(some 35), (.mv (.tmp 6)), none⟩,
    .op ⟨(some 2), (.mv (.tmp 35)), none⟩]
def c_f59 : LFun := ⟨36, (.seq (.sreg r_f59_0 [])
  (.seq (.sreg r_f59_1 [])
  (.seq (.seq (.sreg r_f59_2 [])
  (.block 0 (.loop (.seq (.sreg r_f59_3 [])
  (.seq (.cond (.tmp 12) .skip
  (.exit 0))
  (.seq (.block 1 (.seq (.sreg r_f59_4 [true, false, false])
  (.seq (.sreg r_f59_5 [true, false, false, false, false])
  (.seq (.sreg r_f59_6 [true, false])
  (.cond (.tmp 20) (.sreg r_f59_7 [false])
  .skip)))))
  (.sreg r_f59_8 [true, false])))))))
  (.seq (.sreg r_f59_9 [true, false, false])
  (.seq (.seq (.sreg r_f59_10 [])
  (.block 2 (.loop (.seq (.sreg r_f59_11 [])
  (.seq (.cond (.tmp 28) .skip
  (.exit 2))
  (.seq (.block 3 (.seq (.sreg r_f59_12 [true, false, false])
  (.sreg r_f59_13 [true, false, false, false])))
  (.sreg r_f59_14 [true, false])))))))
  (.seq (.sreg r_f59_15 [true, false])
  .ret)))))), [(.tmp 2)]⟩
def o_f59 : Nat → Nat → Nat := fun _ _ => 1
theorem c_f59_eq : lowF Tryz.prog o_f59 59 = some c_f59.raw := by kernel_rfl
theorem c_f59_ok : c_f59.code.okc = true := by kernel_rfl
/-! castellan/plan.clean -/
def r_f54_0 : List SOp :=
   [.op ⟨(some 2), (.mv (.av (.sl [] 0 (some 0)))), none⟩]
def r_f54_1 : List SOp :=
   [.op ⟨(some 4), (.mv (.tmp 0)), none⟩,
    .op ⟨(some 5), (.call 87 [(.tmp 4)]), none⟩,
    .op ⟨(some 3), (.mv (.tmp 5)), none⟩]
def r_f54_2 : List SOp :=
   [.op ⟨(some 6), (.mv (.tmp 3)), none⟩,
    .op ⟨(some 7), (.call 81 [(.tmp 6)]), none⟩]
def r_f54_3 : List SOp :=
   [.op ⟨(some 8), (.mv (.tmp 3)), none⟩,
    .op ⟨(some 9), (.call 88 [(.tmp 8)]), none⟩,
    .op ⟨(some 2), (.mv (.tmp 9)), none⟩]
def c_f54 : LFun := ⟨10, (.seq (.sreg r_f54_0 [])
  (.seq (.sreg r_f54_1 [true, false, false])
  (.seq (.sreg r_f54_2 [false, false])
  (.seq (.sreg r_f54_3 [true, false, false])
  .ret)))), [(.tmp 2)]⟩
def o_f54 : Nat → Nat → Nat := fun _ _ => 1
theorem c_f54_eq : lowF Tryz.prog o_f54 54 = some c_f54.raw := by kernel_rfl
theorem c_f54_ok : c_f54.code.okc = true := by kernel_rfl
/-! castellan/schema.like -/
def r_f146_0 : List SOp :=
   [.op ⟨(some 4), (.mv (.av (.bool false))), none⟩]
def r_f146_1 : List SOp :=
   [.op ⟨(some 5), (.mv (.tmp 0)), none⟩,
    .op ⟨(some 6), (.call 44 [(.tmp 5)]), none⟩,
    .op ⟨(some 7), (.mv (.tmp 1)), none⟩,
    .op ⟨(some 8), (.call 44 [(.tmp 7)]), none⟩,
    .op ⟨(some 9), (.bin .eql (.tmp 6) (.tmp 8)), none⟩,
    .op ⟨(some 4), (.mv (.tmp 9)), none⟩]
def c_f146 : LFun := ⟨10, (.seq (.sreg r_f146_0 [])
  (.seq (.sreg r_f146_1 [true, false, false, false, false, false])
  .ret)), [(.tmp 4)]⟩
def o_f146 : Nat → Nat → Nat := fun _ _ => 1
theorem c_f146_eq : lowF Tryz.prog o_f146 146 = some c_f146.raw := by kernel_rfl
theorem c_f146_ok : c_f146.code.okc = true := by kernel_rfl
/-! strings.Compare -/
def r_f35_0 : List SOp :=
   [.op ⟨(some 4), (.mv (.av (.int .i64 0))), none⟩]
def r_f35_1 : List SOp :=
   [.op ⟨(some 5), (.mv (.tmp 0)), none⟩,
    .op ⟨(some 6), (.mv (.tmp 1)), none⟩,
    .op ⟨(some 7), (.call 72 [(.tmp 5), (.tmp 6)]), none⟩,
    .op ⟨(some 4), (.mv (.tmp 7)), none⟩]
def c_f35 : LFun := ⟨8, (.seq (.sreg r_f35_0 [])
  (.seq (.sreg r_f35_1 [true, false, false, false])
  .ret)), [(.tmp 4)]⟩
def o_f35 : Nat → Nat → Nat := fun _ _ => 1
theorem c_f35_eq : lowF Tryz.prog o_f35 35 = some c_f35.raw := by kernel_rfl
theorem c_f35_ok : c_f35.code.okc = true := by kernel_rfl
/-! castellan/castellanref01.Fold -/
def r_f176_0 : List SOp :=
   [.op ⟨(some 2), (.mv (.av (.str []))), none⟩]
def r_f176_1 : List SOp :=
   [.op ⟨(some 3), (.mv (.av (.sl [] 0 (some 0)))), none⟩]
def r_f176_2 : List SOp :=
   [.op ⟨(some 4), (.mv (.av (.int .i64 0))), none⟩]
def r_f176_3 : List SOp :=
   [.op ⟨(some 6), (.mv (.tmp 4)), none⟩,
    .op ⟨(some 7), (.mv (.tmp 0)), none⟩,
    .op ⟨(some 8), (.len true (.tmp 7)), none⟩,
    .op ⟨(some 9), (.bin .lss (.tmp 6) (.tmp 8)), none⟩]
def r_f176_4 : List SOp :=
   [.op ⟨(some 12), (.mv (.tmp 0)), none⟩,
    .op ⟨(some 13), (.mv (.tmp 4)), none⟩,
    .op ⟨(some 14), (.idxS (.tmp 12) (.tmp 13)), none⟩,
    .op ⟨(some 5), (.mv (.tmp 14)), none⟩]
def r_f176_5 : List SOp :=
   [.op ⟨(some 15), (.mv (.tmp 5)), none⟩,
    .op ⟨(some 16), (.bin .geq (.tmp 15) (.av (.int .u8 65))), none⟩,
    .op ⟨(some 17), (.mv (.tmp 16)), none⟩,
    .grp none 17 true
      [.op ⟨(some 18), (.mv (.tmp 5)), (some (17, true))⟩,
      .op ⟨(some 19), (.bin .leq (.tmp 18) (.av (.int .u8 90))), (some (17, true))⟩]
      20 (.tmp 19)]
def r_f176_6 : List SOp :=
   [.op ⟨(some 21), (.mv (.tmp 5)), none⟩,
    .op ⟨(some 22), (.bin .sub (.tmp 21) (.av (.int .u8 65))), none⟩,
    .op ⟨(some 23), (.bin .add (.tmp 22) (.av (.int .u8 97))), none⟩,
    .op ⟨(some 5), (.mv (.tmp 23)), none⟩]
def r_f176_7 : List SOp :=
   [.op ⟨(some 24), (.mv (.tmp 3)), none⟩,
    .op ⟨(some 25), (.mv (.tmp 5)), none⟩,
    .op ⟨(some 26), (.bslice false 1 1 [(.int .u8 0)] [(0, 1, (.tmp 25))]), none⟩,
    .op ⟨(some 27), (.app 1 1 1 [(.int .u8 0)] (.tmp 24) (.tmp 26)), none⟩,
    .op ⟨(some 3), (.mv (.tmp 27)), none⟩]
def r_f176_8 : List SOp :=
   [.op ⟨(some 10), (.mv (.tmp 4)), none⟩,
    .op ⟨(some 11), (.bin .add (.tmp 10) (.av (.int .i64 1))), none⟩,
    .op ⟨(some 4), (.mv (.tmp 11)), none⟩]
def r_f176_9 : List SOp :=
   [.op ⟨(some 28), (.mv (.tmp 3)), none⟩,
    .op ⟨(some 29), (.b2s (.tmp 28)), none⟩,
    .op ⟨(some 2), (.mv (.tmp 29)), none⟩]
def c_f176 : LFun := ⟨30, (.seq (.sreg r_f176_0 [])
  (.seq (.sreg r_f176_1 [])
  (.seq (.seq (.sreg r_f176_2 [])
  (.block 0 (.loop (.seq (.seq (.sreg r_f176_3 [true, false, false, false])
  (.cond (.tmp 9) .skip
  (.exit 0)))
  (.seq (.block 1 (.seq (.sreg r_f176_4 [true, false, false, false])
  (.seq (.seq (.sreg r_f176_5 [true, false, false, false])
  (.cond (.tmp 20) (.sreg r_f176_6 [true, false, false, false])
  .skip))
  (.sreg r_f176_7 [true, false, false, false, false]))))
  (.sreg r_f176_8 [true, false, false]))))))
  (.seq (.sreg r_f176_9 [true, false, false])
  .ret)))), [(.tmp 2)]⟩
def o_f176 : Nat → Nat → Nat := fun _ _ => 1
theorem c_f176_eq : lowF Tryz.prog o_f176 176 = some c_f176.raw := by kernel_rfl
theorem c_f176_ok : c_f176.code.okc = true := by kernel_rfl
/-! castellan/castellanref09.in -/
def r_f177_0 : List SOp :=
   [.op ⟨(some 4), (.mv (.av (.bool false))), none⟩]
def r_f177_1 : List SOp :=
   [.op ⟨(some 5), (.mv (.av (.int .i64 0))), none⟩]
def r_f177_2 : List SOp :=
   [.op ⟨(some 6), (.mv (.tmp 5)), none⟩,
    .op ⟨(some 7), (.mv (.tmp 1)), none⟩,
    .op ⟨(some 8), (.len true (.tmp 7)), none⟩,
    .op ⟨(some 9), (.bin .lss (.tmp 6) (.tmp 8)), none⟩]
def r_f177_3 : List SOp :=
   [.op ⟨(some 12), (.mv (.tmp 1)), none⟩,
    .op ⟨(some 13), (.mv (.tmp 5)), none⟩,
    .op ⟨(some 14), (.idxS (.tmp 12) (.tmp 13)), none⟩,
    .op ⟨(some 15), (.mv (.tmp 0)), none⟩,
    .op ⟨(some 16), (.bin .eql (.tmp 14) (.tmp 15)), none⟩]
def r_f177_4 : List SOp :=
   [.op ⟨(some 4), (.mv (.av (.bool true))), none⟩]
def r_f177_5 : List SOp :=
   [.op ⟨(some 10), (.mv (.tmp 5)), none⟩,
    .op ⟨(some 11), (.bin .add (.tmp 10) (.av (.int .i64 1))), none⟩,
    .op ⟨(some 5), (.mv (.tmp 11)), none⟩]
def r_f177_6 : List SOp :=
   [.op ⟨(some 4), (.mv (.av (.bool false))), none⟩]
def c_f177 : LFun := ⟨17, (.seq (.sreg r_f177_0 [])
  (.seq (.seq (.sreg r_f177_1 [])
  (.block 0 (.loop (.seq (.seq (.sreg r_f177_2 [true, false, false, false])
  (.cond (.tmp 9) .skip
  (.exit 0)))
  (.seq (.block 1 (.seq (.sreg r_f177_3 [true, false, false, false, false])
  (.cond (.tmp 16) (.seq (.sreg r_f177_4 [])
  .ret)
  .skip)))
  (.sreg r_f177_5 [true, false, false]))))))
  (.seq (.sreg r_f177_6 [])
  .ret))), [(.tmp 4)]⟩
def o_f177 : Nat → Nat → Nat := fun _ _ => 1
theorem c_f177_eq : lowF Tryz.prog o_f177 177 = some c_f177.raw := by kernel_rfl
theorem c_f177_ok : c_f177.code.okc = true := by kernel_rfl
/-! slices.Grow[[]int,int] -/
def r_f92_0 : List SOp :=
   [.op ⟨(some 4), (.mv (.av (.sl [] 0 (some 0)))), none⟩]
def r_f92_1 : List SOp :=
   [.op ⟨(some 5), (.mv (.tmp 1)), none⟩,
    .op ⟨(some 6), (.bin .lss (.tmp 5) (.av (.int .i64 0))), none⟩]
def r_f92_2 : List SOp :=
   [.op ⟨(some 7), (.mkif 9 (.av (.str [99, 97, 110, 110, 111, 116, 32, 98, 101, 32, 110, 101, 103, 97, 116, 105, 118, 101]))), none⟩,
    .op ⟨none, .bad, none⟩]
def r_f92_3 : List SOp :=
   [.op ⟨(some 8), (.mv (.tmp 1)), none⟩,
    .op ⟨(some 9), (.mv (.tmp 0)), none⟩,
    .op ⟨(some 10), (.cap (.tmp 9)), none⟩,
    .op ⟨(some 11), (.mv (.tmp 0)), none⟩,
    .op ⟨(some 12), (.len false (.tmp 11)), none⟩,
    .op ⟨(some 13), (.bin .sub (.tmp 10) (.tmp 12)), none⟩,
    .op ⟨(some 14), (.bin .sub (.tmp 8) (.tmp 13)), none⟩,
    .op ⟨(some 1), (.mv (.tmp 14)), none⟩]
def r_f92_4 : List SOp :=
   [.op ⟨(some 15), (.mv (.tmp 1)), none⟩,
    .op ⟨(some 16), (.bin .gtr (.tmp 15) (.av (.int .i64 0))), none⟩]
def r_f92_5 : List SOp :=
   [.op ⟨(some 17), (.mv (.tmp 0)), none⟩,
    .op ⟨(some 18), (.mv (.tmp 0)), none⟩,
    .op ⟨(some 19), (.cap (.tmp 18)), none⟩,
    .op ⟨(some 20), (.slV 1 (.tmp 17) none (some (.tmp 19)) none), none⟩,
    .op ⟨(some 21), (.mv (.tmp 1)), none⟩,
    .op ⟨(some 22), (.appz 1 8 [(.int .i64 0)] (.tmp 20) (.tmp 21)), none⟩,
    .op ⟨(some 23), (.mv (.tmp 0)), none⟩,
    .op ⟨(some 24), (.len false (.tmp 23)), none⟩,
    .op ⟨(some 25), (.slV 1 (.tmp 22) none (some (.tmp 24)) none), none⟩,
    .op ⟨(some 0), (.mv (.tmp 25)), none⟩]
def r_f92_6 : List SOp :=
   [.op ⟨(some 26), (.mv (.tmp 0)), none⟩,
    .op ⟨(some 4), (.mv (.tmp 26)), none⟩]
def c_f92 : LFun := ⟨27, (.seq (.sreg r_f92_0 [])
  (.seq (.seq (.sreg r_f92_1 [true, false])
  (.cond (.tmp 6) (.sreg r_f92_2 [false])
  .skip))
  (.seq (.seq (.sreg r_f92_3 [true, false, false, false, false, false, false, false])
  (.seq (.sreg r_f92_4 [true, false])
  (.cond (.tmp 16) (.sreg r_f92_5 [true, false, false, false, false, false, false, false, false, false])
  .skip)))
  (.seq (.sreg r_f92_6 [true, false])
  .ret)))), [(.tmp 4)]⟩
def o_f92 : Nat → Nat → Nat := fun _ _ => 1
theorem c_f92_eq : lowF Tryz.prog o_f92 92 = some c_f92.raw := by kernel_rfl
theorem c_f92_ok : c_f92.code.okc = true := by kernel_rfl
/-! slices.Clone[[]int,int] -/
def r_f87_0 : List SOp :=
   [.op ⟨(some 2), (.mv (.av (.sl [] 0 (some 0)))), none⟩]
def r_f87_1 : List SOp :=
   [.op ⟨(some 3), (.mv (.tmp 0)), none⟩,
    .op ⟨(some 4), (.slnil false (.tmp 3)), none⟩]
def r_f87_2 : List SOp :=
   [.op ⟨(some 2), (.mv (.av (.sl [] 0 (some 0)))), none⟩]
def r_f87_3 : List SOp :=
   [.op ⟨(some 5), (.bslice false 1 0 [] []), none⟩,
    .op ⟨(some 6), (.mv (.tmp 0)), none⟩,
    .op ⟨(some 7), (.app 1 1 8 [(.int .i64 0)] (.tmp 5) (.tmp 6)), none⟩,
    .op ⟨(some 2), (.mv (.tmp 7)), none⟩]
def c_f87 : LFun := ⟨8, (.seq (.sreg r_f87_0 [])
  (.seq (.seq (.sreg r_f87_1 [true, false])
  (.cond (.tmp 4) (.seq (.sreg r_f87_2 [])
  .ret)
  .skip))
  (.seq (.sreg r_f87_3 [true, false, false, false])
  .ret))), [(.tmp 2)]⟩
def o_f87 : Nat → Nat → Nat := fun _ _ => 1
theorem c_f87_eq : lowF Tryz.prog o_f87 87 = some c_f87.raw := by kernel_rfl
theorem c_f87_ok : c_f87.code.okc = true := by kernel_rfl
/-! slices.Sort[[]int,int] -/
def r_f81_0 : List SOp :=
   [.op ⟨(some 3), (.mv (.tmp 0)), none⟩,
    .op ⟨(some 4), (.len false (.tmp 3)), none⟩,
    .op ⟨(some 2), (.mv (.tmp 4)), none⟩]
def r_f81_1 : List SOp :=
   [.op ⟨(some 5), (.mv (.tmp 0)), none⟩,
    .op ⟨(some 6), (.mv (.tmp 2)), none⟩,
    .op ⟨(some 7), (.mv (.tmp 2)), none⟩,
    .op ⟨(some 8), (.conv .u64 (.tmp 7)), none⟩,
    .op ⟨(some 9), (.call 116 [(.tmp 8)]), none⟩,
    .op ⟨(some 10), (.call 115 [(.tmp 5), (.av (.int .i64 0)), (.tmp 6), (.tmp 9)]), none⟩]
def c_f81 : LFun := ⟨11, (.seq (.sreg r_f81_0 [true, false, false])
  (.sreg r_f81_1 [false, false, false, false, false, false])), []⟩
def o_f81 : Nat → Nat → Nat := fun _ _ => 1
theorem c_f81_eq : lowF Tryz.prog o_f81 81 = some c_f81.raw := by kernel_rfl
theorem c_f81_ok : c_f81.code.okc = true := by kernel_rfl
/-! slices.Compact[[]int,int] -/
def r_f88_0 : List SOp :=
   [.op ⟨(some 2), (.mv (.av (.sl [] 0 (some 0)))), none⟩]
def r_f88_1 : List SOp :=
   [.op ⟨(some 6), (.mv (.tmp 0)), none⟩,
    .op ⟨(some 7), (.len false (.tmp 6)), none⟩,
    .op ⟨(some 8), (.bin .lss (.tmp 7) (.av (.int .i64 2))), none⟩]
def r_f88_2 : List SOp :=
   [.op ⟨(some 9), (.mv (.tmp 0)), none⟩,
    .op ⟨(some 2), (.mv (.tmp 9)), none⟩]
def r_f88_3 : List SOp :=
   [.op ⟨(some 3), (.mv (.av (.int .i64 1))), none⟩]
def r_f88_4 : List SOp :=
   [.op ⟨(some 10), (.mv (.tmp 3)), none⟩,
    .op ⟨(some 11), (.mv (.tmp 0)), none⟩,
    .op ⟨(some 12), (.len false (.tmp 11)), none⟩,
    .op ⟨(some 13), (.bin .lss (.tmp 10) (.tmp 12)), none⟩]
def r_f88_5 : List SOp :=
   [.op ⟨(some 16), (.mv (.tmp 0)), none⟩,
    .op ⟨(some 17), (.mv (.tmp 3)), none⟩,
    .op ⟨(some 18), (.iaddr 1 (.tmp 16) (.tmp 17)), none⟩,
    .op ⟨(some 19), (.load false 1 (.tmp 18)), none⟩,
    .op ⟨(some 20), (.mv (.tmp 0)), none⟩,
    .op ⟨(some 21), (.mv (.tmp 3)), none⟩,
    .op ⟨(some 22), (.bin .sub (.tmp 21) (.av (.int .i64 1))), none⟩,
    .op ⟨(some 23), (.iaddr 1 (.tmp 20) (.tmp 22)), none⟩,
    .op ⟨(some 24), (.load false 1 (.tmp 23)), none⟩,
    .op ⟨(some 25), (.bin .eql (.tmp 19) (.tmp 24)), none⟩]
def r_f88_6 : List SOp :=
   [.op ⟨(some 26), (.mv (.tmp 0)), none⟩,
    .op ⟨(some 27), (.mv (.tmp 3)), none⟩,
    .op ⟨(some 28), (.slV 1 (.tmp 26) (some (.tmp 27)) none none), none⟩,
    .op ⟨(some 4), (.mv (.tmp 28)), none⟩]
def r_f88_7 : List SOp :=
   [.op ⟨(some 5), (.mv (.av (.int .i64 1))), none⟩]
def r_f88_8 : List SOp :=
   [.op ⟨(some 29), (.mv (.tmp 5)), none⟩,
    .op ⟨(some 30), (.mv (.tmp 4)), none⟩,
    .op ⟨(some 31), (.len false (.tmp 30)), none⟩,
    .op ⟨(some 32), (.bin .lss (.tmp 29) (.tmp 31)), none⟩]
def r_f88_9 : List SOp :=
   [.op ⟨(some 35), (.mv (.tmp 4)), none⟩,
    .op ⟨(some 36), (.mv (.tmp 5)), none⟩,
    .op ⟨(some 37), (.iaddr 1 (.tmp 35) (.tmp 36)), none⟩,
    .op ⟨(some 38), (.load false 1 (.tmp 37)), none⟩,
    .op ⟨(some 39), (.mv (.tmp 4)), none⟩,
    .op ⟨(some 40), (.mv (.tmp 5)), none⟩,
    .op ⟨(some 41), (.bin .sub (.tmp 40) (.av (.int .i64 1))), none⟩,
    .op ⟨(some 42), (.iaddr 1 (.tmp 39) (.tmp 41)), none⟩,
    .op ⟨(some 43), (.load false 1 (.tmp 42)), none⟩,
    .op ⟨(some 44), (.bin .neq (.tmp 38) (.tmp 43)), none⟩]
def r_f88_10 : List SOp :=
   [.op ⟨(some 45), (.mv (.tmp 0)), none⟩,
    .op ⟨(some 46), (.mv (.tmp 3)), none⟩,
    .op ⟨(some 47), (.mv (.tmp 4)), none⟩,
    .op ⟨(some 48), (.mv (.tmp 5)), none⟩,
    .op ⟨(some 49), (.iaddr 1 (.tmp 47) (.tmp 48)), none⟩,
    .op ⟨(some 50), (.load false 1 (.tmp 49)), none⟩,
    .op ⟨(some 51), (.iaddr 1 (.tmp 45) (.tmp 46)), none⟩,
    .op ⟨none, (.store 1 (.tmp 51) (.tmp 50)), none⟩]
def r_f88_11 : List SOp :=
   [.op ⟨(some 52), (.mv (.tmp 3)), none⟩,
    .op ⟨(some 53), (.bin .add (.tmp 52) (.av (.int .i64 1))), none⟩,
    .op ⟨(some 3), (.mv (.tmp 53)), none⟩]
def r_f88_12 : List SOp :=
   [.op ⟨(some 33), (.mv (.tmp 5)), none⟩,
    .op ⟨(some 34), (.bin .add (.tmp 33) (.av (.int .i64 1))), none⟩,
    .op ⟨(some 5), (.mv (.tmp 34)), none⟩]
def r_f88_13 : List SOp :=
   [.op ⟨(some 54), (.mv (.tmp 0)), none⟩,
    .op ⟨(some 55), (.mv (.tmp 3)), none⟩,
    .op ⟨(some 56), (.slV 1 (.tmp 54) (some (.tmp 55)) none none), none⟩,
    .op ⟨none, (.clear 1 [(.int .i64 0)] (.tmp 56)), none⟩]
def r_f88_14 : List SOp :=
   [.op ⟨(some 57), (.mv (.tmp 0)), none⟩,
    .op ⟨(some 58), (.mv (.tmp 3)), none⟩,
    .op ⟨(some 59), (.slV 1 (.tmp 57) none (some (.tmp 58)) none), none⟩,
    .op ⟨(some 2), (.mv (.tmp 59)), none⟩]
def r_f88_15 : List SOp :=
   [.op ⟨(some 14), (.mv (.tmp 3)), none⟩,
    .op ⟨(some 15), (.bin .add (.tmp 14) (.av (.int .i64 1))), none⟩,
    .op ⟨(some 3), (.mv (.tmp 15)), none⟩]
def r_f88_16 : List SOp :=
   [.op ⟨(some 60), (.mv (.tmp 0)), none⟩,
    .op ⟨(some 2), (.mv (.tmp 60)), none⟩]
def c_f88 : LFun := ⟨61, (.seq (.sreg r_f88_0 [])
  (.seq (.seq (.sreg r_f88_1 [true, false, false])
  (.cond (.tmp 8) (.seq (.sreg r_f88_2 [true, false])
  .ret)
  .skip))
  (.seq (.seq (.sreg r_f88_3 [])
  (.block 0 (.loop (.seq (.seq (.sreg r_f88_4 [true, false, false, false])
  (.cond (.tmp 13) .skip
  (.exit 0)))
  (.seq (.block 1 (.seq (.sdreg r_f88_5 [.pure, .pure, (.read 0 0), (.read 0 0), .pure, .pure, .pure, (.read 0 0), (.read 0 0)] [true, false, false, false, false, false, false, false, false, false])
  (.cond (.tmp 25) (.seq (.sreg r_f88_6 [true, false, false, false])
  (.seq (.seq (.sreg r_f88_7 [])
  (.block 2 (.loop (.seq (.seq (.sreg r_f88_8 [true, false, false, false])
  (.cond (.tmp 32) .skip
  (.exit 2)))
  (.seq (.block 3 (.seq (.sdreg r_f88_9 [.pure, .pure, (.read 0 0), (.read 0 0), .pure, .pure, .pure, (.read 0 0), (.read 0 0)] [true, false, false, false, false, false, false, false, false, false])
  (.cond (.tmp 44) (.seq (.sreg r_f88_10 [false, false, false, false, false, false, false])
  (.sreg r_f88_11 [true, false, false]))
  .skip)))
  (.sreg r_f88_12 [true, false, false]))))))
  (.seq (.sreg r_f88_13 [false, false, false])
  (.seq (.sreg r_f88_14 [true, false, false, false])
  .ret))))
  .skip)))
  (.sreg r_f88_15 [true, false, false]))))))
  (.seq (.sreg r_f88_16 [true, false])
  .ret)))), [(.tmp 2)]⟩
def o_f88 : Nat → Nat → Nat := fun _ _ => 1
theorem c_f88_eq : lowF Tryz.prog o_f88 88 = some c_f88.raw := by kernel_rfl
theorem c_f88_ok : c_f88.code.okc = true := by kernel_rfl
/-! internal/bytealg.CompareString -/
def r_f72_0 : List SOp :=
   [.op ⟨(some 4), (.mv (.av (.int .i64 0))), none⟩]
def r_f72_1 : List SOp :=
   [.op ⟨(some 5), (.mv (.tmp 0)), none⟩,
    .op ⟨(some 6), (.mv (.tmp 1)), none⟩,
    .op ⟨(some 7), (.call 106 [(.tmp 5), (.tmp 6)]), none⟩,
    .op ⟨(some 4), (.mv (.tmp 7)), none⟩]
def c_f72 : LFun := ⟨8, (.seq (.sreg r_f72_0 [])
  (.seq (.sreg r_f72_1 [true, false, false, false])
  .ret)), [(.tmp 4)]⟩
def o_f72 : Nat → Nat → Nat := fun _ _ => 1
theorem c_f72_eq : lowF Tryz.prog o_f72 72 = some c_f72.raw := by kernel_rfl
theorem c_f72_ok : c_f72.code.okc = true := by kernel_rfl
/-! math/bits.Len -/
def r_f116_0 : List SOp :=
   [.op ⟨(some 2), (.mv (.av (.int .i64 0))), none⟩]
def r_f116_1 : List SOp :=
   [.op ⟨(some 3), (.mv (.tmp 0)), none⟩,
    .op ⟨(some 4), (.conv .u32 (.tmp 3)), none⟩,
    .op ⟨(some 5), (.call 155 [(.tmp 4)]), none⟩,
    .op ⟨(some 2), (.mv (.tmp 5)), none⟩]
def r_f116_2 : List SOp :=
   [.op ⟨(some 6), (.mv (.tmp 0)), none⟩,
    .op ⟨(some 7), (.call 94 [(.tmp 6)]), none⟩,
    .op ⟨(some 2), (.mv (.tmp 7)), none⟩]
def c_f116 : LFun := ⟨8, (.seq (.sreg r_f116_0 [])
  (.seq (.cond (.av (.bool false)) (.seq (.sreg r_f116_1 [true, false, false, false])
  .ret)
  .skip)
  (.seq (.sreg r_f116_2 [true, false, false])
  .ret))), [(.tmp 2)]⟩
def o_f116 : Nat → Nat → Nat := fun _ _ => 1
theorem c_f116_eq : lowF Tryz.prog o_f116 116 = some c_f116.raw := by kernel_rfl
theorem c_f116_ok : c_f116.code.okc = true := by kernel_rfl
/-! slices.pdqsortOrdered[int] -/
def r_f115_0 : List SOp :=
   [.op ⟨(some 8), (.mv (.av (.bool true))), none⟩]
def r_f115_1 : List SOp :=
   [.op ⟨(some 9), (.mv (.av (.bool true))), none⟩]
def r_f115_2 : List SOp :=
   [.op ⟨(some 19), (.mv (.tmp 2)), none⟩,
    .op ⟨(some 20), (.mv (.tmp 1)), none⟩,
    .op ⟨(some 21), (.bin .sub (.tmp 19) (.tmp 20)), none⟩,
    .op ⟨(some 10), (.mv (.tmp 21)), none⟩]
def r_f115_3 : List SOp :=
   [.op ⟨(some 22), (.mv (.tmp 10)), none⟩,
    .op ⟨(some 23), (.bin .leq (.tmp 22) (.av (.int .i64 12))), none⟩]
def r_f115_4 : List SOp :=
   [.op ⟨(some 24), (.mv (.tmp 0)), none⟩,
    .op ⟨(some 25), (.mv (.tmp 1)), none⟩,
    .op ⟨(some 26), (.mv (.tmp 2)), none⟩,
    .op ⟨(some 27), (.call 147 [(.tmp 24), (.tmp 25), (.tmp 26)]), none⟩]
def r_f115_5 : List SOp :=
   [.op ⟨(some 28), (.mv (.tmp 3)), none⟩,
    .op ⟨(some 29), (.bin .eql (.tmp 28) (.av (.int .i64 0))), none⟩]
def r_f115_6 : List SOp :=
   [.op ⟨(some 30), (.mv (.tmp 0)), none⟩,
    .op ⟨(some 31), (.mv (.tmp 1)), none⟩,
    .op ⟨(some 32), (.mv (.tmp 2)), none⟩,
    .op ⟨(some 33), (.call 148 [(.tmp 30), (.tmp 31), (.tmp 32)]), none⟩]
def r_f115_7 : List SOp :=
   [.op ⟨(some 34), (.mv (.tmp 8)), none⟩,
    .op ⟨(some 35), (.un .not (.tmp 34)), none⟩]
def r_f115_8 : List SOp :=
   [.op ⟨(some 36), (.mv (.tmp 0)), none⟩,
    .op ⟨(some 37), (.mv (.tmp 1)), none⟩,
    .op ⟨(some 38), (.mv (.tmp 2)), none⟩,
    .op ⟨(some 39), (.call 149 [(.tmp 36), (.tmp 37), (.tmp 38)]), none⟩]
def r_f115_9 : List SOp :=
   [.op ⟨(some 40), (.mv (.tmp 3)), none⟩,
    .op ⟨(some 41), (.bin .sub (.tmp 40) (.av (.int .i64 1))), none⟩,
    .op ⟨(some 3), (.mv (.tmp 41)), none⟩]
def r_f115_10 : List SOp :=
   [.op ⟨(some 43), (.mv (.tmp 0)), none⟩,
    .op ⟨(some 44), (.mv (.tmp 1)), none⟩,
    .op ⟨(some 45), (.mv (.tmp 2)), none⟩,
    .op ⟨(some 46), (.call 150 [(.tmp 43), (.tmp 44), (.tmp 45)]), none⟩,
    .op ⟨(some 42), (.mv (.tmp 46)), none⟩,
    .op ⟨(some 47), (.extract (.tmp 42) 0), none⟩,
    .op ⟨(some 48), (.extract (.tmp 42) 1), none⟩,
    .op ⟨(some 11), (.mv (.tmp 47)), none⟩,
    .op ⟨(some 12), (.mv (.tmp 48)), none⟩]
def r_f115_11 : List SOp :=
   [.op ⟨(some 49), (.mv (.tmp 12)), none⟩,
    .op ⟨(some 50), (.bin .eql (.tmp 49) (.av (.int .i64 2))), none⟩]
def r_f115_12 : List SOp :=
   [.op ⟨(some 51), (.mv (.tmp 0)), none⟩,
    .op ⟨(some 52), (.mv (.tmp 1)), none⟩,
    .op ⟨(some 53), (.mv (.tmp 2)), none⟩,
    .op ⟨(some 54), (.call 151 [(.tmp 51), (.tmp 52), (.tmp 53)]), none⟩]
def r_f115_13 : List SOp :=
   [.op ⟨(some 55), (.mv (.tmp 2)), none⟩,
    .op ⟨(some 56), (.bin .sub (.tmp 55) (.av (.int .i64 1))), none⟩,
    .op ⟨(some 57), (.mv (.tmp 11)), none⟩,
    .op ⟨(some 58), (.mv (.tmp 1)), none⟩,
    .op ⟨(some 59), (.bin .sub (.tmp 57) (.tmp 58)), none⟩,
    .op ⟨(some 60), (.bin .sub (.tmp 56) (.tmp 59)), none⟩,
    .op ⟨(some 11), (.mv (.tmp 60)), none⟩]
def r_f115_14 : List SOp :=
   [.op ⟨(some 12), (.mv (.av (.int .i64 1))), none⟩]
def r_f115_15 : List SOp :=
   [.op ⟨(some 61), (.mv (.tmp 8)), none⟩,
    .op ⟨(some 62), (.mv (.tmp 61)), none⟩,
    .grp none 62 true
      [.op ⟨(some 63), (.mv (.tmp 9)), (some (62, true))⟩]
      64 (.tmp 63),
    .op ⟨(some 65), (.mv (.tmp 64)), none⟩,
    .grp none 65 true
      [.op ⟨(some 66), (.mv (.tmp 12)), (some (65, true))⟩,
      .op ⟨(some 67), (.bin .eql (.tmp 66) (.av (.int .i64 1))), (some (65, true))⟩]
      68 (.tmp 67)]
def r_f115_16 : List SOp :=
   [.op ⟨(some 69), (.mv (.tmp 0)), none⟩,
    .op ⟨(some 70), (.mv (.tmp 1)), none⟩,
    .op ⟨(some 71), (.mv (.tmp 2)), none⟩,
    .op ⟨(some 72), (.call 152 [(.tmp 69), (.tmp 70), (.tmp 71)]), none⟩]
def r_f115_17 : List (LOper × Kd) :=
   [(⟨(some 73), (.mv (.tmp 1)), none⟩, .pure),
    (⟨(some 74), (.bin .gtr (.tmp 73) (.av (.int .i64 0))), none⟩, .pure),
    (⟨(some 75), (.mv (.tmp 74)), none⟩, .pure),
    (⟨(some 76), (.mv (.tmp 0)), (some (75, true))⟩, .pure),
    (⟨(some 77), (.mv (.tmp 1)), (some (75, true))⟩, .pure),
    (⟨(some 78), (.bin .sub (.tmp 77) (.av (.int .i64 1))), (some (75, true))⟩, .pure),
    (⟨(some 79), (.iaddr 1 (.tmp 76) (.tmp 78)), (some (75, true))⟩, (.read 0 0)),
    (⟨(some 80), (.load false 1 (.tmp 79)), (some (75, true))⟩, (.read 0 0)),
    (⟨(some 81), (.mv (.tmp 0)), (some (75, true))⟩, .pure),
    (⟨(some 82), (.mv (.tmp 11)), (some (75, true))⟩, .pure),
    (⟨(some 83), (.iaddr 1 (.tmp 81) (.tmp 82)), (some (75, true))⟩, (.read 0 0)),
    (⟨(some 84), (.load false 1 (.tmp 83)), (some (75, true))⟩, (.read 0 0))]
def r_f115_17t : List LOper :=
   [⟨(some 85), (.call 90 [(.tmp 80), (.tmp 84)]), (some (75, true))⟩,
    ⟨(some 86), (.un .not (.tmp 85)), (some (75, true))⟩,
    ⟨(some 87), (.pick (.tmp 75) (.tmp 86) (.av (.bool false))), none⟩]
def r_f115_18 : List SOp :=
   [.op ⟨(some 88), (.mv (.tmp 0)), none⟩,
    .op ⟨(some 89), (.mv (.tmp 1)), none⟩,
    .op ⟨(some 90), (.mv (.tmp 2)), none⟩,
    .op ⟨(some 91), (.mv (.tmp 11)), none⟩,
    .op ⟨(some 92), (.call 153 [(.tmp 88), (.tmp 89), (.tmp 90), (.tmp 91)]), none⟩,
    .op ⟨(some 13), (.mv (.tmp 92)), none⟩]
def r_f115_19 : List SOp :=
   [.op ⟨(some 93), (.mv (.tmp 13)), none⟩,
    .op ⟨(some 1), (.mv (.tmp 93)), none⟩]
def r_f115_20 : List SOp :=
   [.op ⟨(some 95), (.mv (.tmp 0)), none⟩,
    .op ⟨(some 96), (.mv (.tmp 1)), none⟩,
    .op ⟨(some 97), (.mv (.tmp 2)), none⟩,
    .op ⟨(some 98), (.mv (.tmp 11)), none⟩,
    .op ⟨(some 99), (.call 154 [(.tmp 95), (.tmp 96), (.tmp 97), (.tmp 98)]), none⟩,
    .op ⟨(some 94), (.mv (.tmp 99)), none⟩,
    .op ⟨(some 100), (.extract (.tmp 94) 0), none⟩,
    .op ⟨(some 101), (.extract (.tmp 94) 1), none⟩,
    .op ⟨(some 14), (.mv (.tmp 100)), none⟩,
    .op ⟨(some 15), (.mv (.tmp 101)), none⟩]
def r_f115_21 : List SOp :=
   [.op ⟨(some 102), (.mv (.tmp 15)), none⟩,
    .op ⟨(some 9), (.mv (.tmp 102)), none⟩]
def r_f115_22 : List SOp :=
   [.op ⟨(some 103), (.mv (.tmp 14)), none⟩,
    .op ⟨(some 104), (.mv (.tmp 1)), none⟩,
    .op ⟨(some 105), (.bin .sub (.tmp 103) (.tmp 104)), none⟩,
    .op ⟨(some 106), (.mv (.tmp 2)), none⟩,
    .op ⟨(some 107), (.mv (.tmp 14)), none⟩,
    .op ⟨(some 108), (.bin .sub (.tmp 106) (.tmp 107)), none⟩,
    .op ⟨(some 16), (.mv (.tmp 105)), none⟩,
    .op ⟨(some 17), (.mv (.tmp 108)), none⟩]
def r_f115_23 : List SOp :=
   [.op ⟨(some 109), (.mv (.tmp 10)), none⟩,
    .op ⟨(some 110), (.bin .quo (.tmp 109) (.av (.int .i64 8))), none⟩,
    .op ⟨(some 18), (.mv (.tmp 110)), none⟩]
def r_f115_24 : List SOp :=
   [.op ⟨(some 111), (.mv (.tmp 16)), none⟩,
    .op ⟨(some 112), (.mv (.tmp 17)), none⟩,
    .op ⟨(some 113), (.bin .lss (.tmp 111) (.tmp 112)), none⟩]
def r_f115_25 : List SOp :=
   [.op ⟨(some 114), (.mv (.tmp 16)), none⟩,
    .op ⟨(some 115), (.mv (.tmp 18)), none⟩,
    .op ⟨(some 116), (.bin .geq (.tmp 114) (.tmp 115)), none⟩,
    .op ⟨(some 8), (.mv (.tmp 116)), none⟩]
def r_f115_26 : List SOp :=
   [.op ⟨(some 117), (.mv (.tmp 0)), none⟩,
    .op ⟨(some 118), (.mv (.tmp 1)), none⟩,
    .op ⟨(some 119), (.mv (.tmp 14)), none⟩,
    .op ⟨(some 120), (.mv (.tmp 3)), none⟩,
    .op ⟨(some 121), (.call 115 [(.tmp 117), (.tmp 118), (.tmp 119), (.tmp 120)]), none⟩]
def r_f115_27 : List SOp :=
   [.op ⟨(some 122), (.mv (.tmp 14)), none⟩,
    .op ⟨(some 123), (.bin .add (.tmp 122) (.av (.int .i64 1))), none⟩,
    .op ⟨(some 1), (.mv (.tmp 123)), none⟩]
def r_f115_28 : List SOp :=
   [.op ⟨(some 124), (.mv (.tmp 17)), none⟩,
    .op ⟨(some 125), (.mv (.tmp 18)), none⟩,
    .op ⟨(some 126), (.bin .geq (.tmp 124) (.tmp 125)), none⟩,
    .op ⟨(some 8), (.mv (.tmp 126)), none⟩]
def r_f115_29 : List SOp :=
   [.op ⟨(some 127), (.mv (.tmp 0)), none⟩,
    .op ⟨(some 128), (.mv (.tmp 14)), none⟩,
    .op ⟨(some 129), (.bin .add (.tmp 128) (.av (.int .i64 1))), none⟩,
    .op ⟨(some 130), (.mv (.tmp 2)), none⟩,
    .op ⟨(some 131), (.mv (.tmp 3)), none⟩,
    .op ⟨(some 132), (.call 115 [(.tmp 127), (.tmp 129), (.tmp 130), (.tmp 131)]), none⟩]
def r_f115_30 : List SOp :=
   [.op ⟨(some 133), (.mv (.tmp 14)), none⟩,
    .op ⟨(some 2), (.mv (.tmp 133)), none⟩]
def c_f115 : LFun := ⟨134, (.seq (.sreg r_f115_0 [])
  (.seq (.sreg r_f115_1 [])
  (.block 0 (.loop (.block 1 (.seq (.sreg r_f115_2 [true, false, false, false])
  (.seq (.seq (.sreg r_f115_3 [true, false])
  (.cond (.tmp 23) (.seq (.sreg r_f115_4 [false, false, false, false])
  .ret)
  .skip))
  (.seq (.seq (.sreg r_f115_5 [true, false])
  (.cond (.tmp 29) (.seq (.sreg r_f115_6 [false, false, false, false])
  .ret)
  .skip))
  (.seq (.seq (.sreg r_f115_7 [true, false])
  (.cond (.tmp 35) (.seq (.sreg r_f115_8 [false, false, false, false])
  (.sreg r_f115_9 [true, false, false]))
  .skip))
  (.seq (.sreg r_f115_10 [true, true, false, false, false, false, false, false, false])
  (.seq (.seq (.sreg r_f115_11 [true, false])
  (.cond (.tmp 50) (.seq (.sreg r_f115_12 [false, false, false, false])
  (.seq (.sreg r_f115_13 [true, false, false, false, false, false, false])
  (.sreg r_f115_14 [])))
  .skip))
  (.seq (.seq (.sreg r_f115_15 [true, false, false, false, false])
  (.cond (.tmp 68) (.seq (.sreg r_f115_16 [true, false, false, false])
  (.cond (.tmp 72) .ret
  .skip))
  .skip))
  (.seq (.seq (.dregM r_f115_17 r_f115_17t [true, false, false, false, false, false, false, false, false, false, false, false, false, false, false])
  (.cond (.tmp 87) (.seq (.sreg r_f115_18 [true, false, false, false, false, false])
  (.seq (.sreg r_f115_19 [true, false])
  (.exit 1)))
  .skip))
  (.seq (.sreg r_f115_20 [true, true, false, false, false, false, false, false, false, false])
  (.seq (.sreg r_f115_21 [true, false])
  (.seq (.sreg r_f115_22 [true, true, false, false, false, false, false, false])
  (.seq (.sreg r_f115_23 [true, false, false])
  (.seq (.sreg r_f115_24 [true, false, false])
  (.cond (.tmp 113) (.seq (.sreg r_f115_25 [true, false, false, false])
  (.seq (.sreg r_f115_26 [false, false, false, false, false])
  (.sreg r_f115_27 [true, false, false])))
  (.seq (.sreg r_f115_28 [true, false, false, false])
  (.seq (.sreg r_f115_29 [false, false, false, false, false, false])
  (.sreg r_f115_30 [true, false])))))))))))))))))))))), []⟩
def o_f115 : Nat → Nat → Nat := fun r i => if r = 17 ∧ i = 12 then 3 else 1
theorem c_f115_eq : lowF Tryz.prog o_f115 115 = some c_f115.raw := by kernel_rfl
theorem c_f115_ok : c_f115.code.okc = true := by kernel_rfl
/-! math/bits.Len64 -/
def r_f94_0 : List SOp :=
   [.op ⟨(some 2), (.mv (.av (.int .i64 0))), none⟩]
def r_f94_1 : List SOp :=
   [.op ⟨(some 3), (.mv (.tmp 0)), none⟩,
    .op ⟨(some 4), (.bin .geq (.tmp 3) (.av (.int .u64 4294967296))), none⟩]
def r_f94_2 : List SOp :=
   [.op ⟨(some 5), (.mv (.tmp 0)), none⟩,
    .op ⟨(some 6), (.bin .shr (.tmp 5) (.av (.int .u64 32))), none⟩,
    .op ⟨(some 0), (.mv (.tmp 6)), none⟩]
def r_f94_3 : List SOp :=
   [.op ⟨(some 2), (.mv (.av (.int .i64 32))), none⟩]
def r_f94_4 : List SOp :=
   [.op ⟨(some 7), (.mv (.tmp 0)), none⟩,
    .op ⟨(some 8), (.bin .geq (.tmp 7) (.av (.int .u64 65536))), none⟩]
def r_f94_5 : List SOp :=
   [.op ⟨(some 9), (.mv (.tmp 0)), none⟩,
    .op ⟨(some 10), (.bin .shr (.tmp 9) (.av (.int .u64 16))), none⟩,
    .op ⟨(some 0), (.mv (.tmp 10)), none⟩]
def r_f94_6 : List SOp :=
   [.op ⟨(some 11), (.mv (.tmp 2)), none⟩,
    .op ⟨(some 12), (.bin .add (.tmp 11) (.av (.int .i64 16))), none⟩,
    .op ⟨(some 2), (.mv (.tmp 12)), none⟩]
def r_f94_7 : List SOp :=
   [.op ⟨(some 13), (.mv (.tmp 0)), none⟩,
    .op ⟨(some 14), (.bin .geq (.tmp 13) (.av (.int .u64 256))), none⟩]
def r_f94_8 : List SOp :=
   [.op ⟨(some 15), (.mv (.tmp 0)), none⟩,
    .op ⟨(some 16), (.bin .shr (.tmp 15) (.av (.int .u64 8))), none⟩,
    .op ⟨(some 0), (.mv (.tmp 16)), none⟩]
def r_f94_9 : List SOp :=
   [.op ⟨(some 17), (.mv (.tmp 2)), none⟩,
    .op ⟨(some 18), (.bin .add (.tmp 17) (.av (.int .i64 8))), none⟩,
    .op ⟨(some 2), (.mv (.tmp 18)), none⟩]
def r_f94_10 : List SOp :=
   [.op ⟨(some 19), (.mv (.tmp 2)), none⟩,
    .op ⟨(some 20), (.mv (.tmp 0)), none⟩,
    .op ⟨(some 21), (.conv .u8 (.tmp 20)), none⟩,
    .op ⟨(some 22), (.idxS (.av (.str [0, 1, 2, 2, 3, 3, 3, 3, 4, 4, 4, 4, 4, 4, 4, 4, 5, 5, 5, 5, 5, 5, 5, 5, 5, 5, 5, 5, 5, 5, 5, 5, 6, 6, 6, 6, 6, 6, 6, 6, 6, 6, 6, 6, 6, 6, 6, 6, 6, 6, 6, 6, 6, 6, 6, 6, 6, 6, 6, 6, 6, 6, 6, 6, 7, 7, 7, 7, 7, 7, 7, 7, 7, 7, 7, 7, 7, 7, 7, 7, 7, 7, 7, 7, 7, 7, 7, 7, 7, 7, 7, 7, 7, 7, 7, 7, 7, 7, 7, 7, 7, 7, 7, 7, 7, 7, 7, 7, 7, 7, 7, 7, 7, 7, 7, 7, 7, 7, 7, 7, 7, 7, 7, 7, 7, 7, 7, 7, 8, 8, 8, 8, 8, 8, 8, 8, 8, 8, 8, 8, 8, 8, 8, 8, 8, 8, 8, 8, 8, 8, 8, 8, 8, 8, 8, 8, 8, 8, 8, 8, 8, 8, 8, 8, 8, 8, 8, 8, 8, 8, 8, 8, 8, 8, 8, 8, 8, 8, 8, 8, 8, 8, 8, 8, 8, 8, 8, 8, 8, 8, 8, 8, 8, 8, 8, 8, 8, 8, 8, 8, 8, 8, 8, 8, 8, 8, 8, 8, 8, 8, 8, 8, 8, 8, 8, 8, 8, 8, 8, 8, 8, 8, 8, 8, 8, 8, 8, 8, 8, 8, 8, 8, 8, 8, 8, 8, 8, 8, 8, 8, 8, 8, 8, 8, 8, 8, 8, 8, 8, 8, 8, 8, 8, 8, 8, 8])) (.tmp 21)), none⟩,
    .op ⟨(some 23), (.conv .i64 (.tmp 22)), none⟩,
    .op ⟨(some 24), (.bin .add (.tmp 19) (.tmp 23)), none⟩,
    .op ⟨(some 2), (.mv (.tmp 24)), none⟩]
def c_f94 : LFun := ⟨25, (.seq (.sreg r_f94_0 [])
  (.seq (.seq (.sreg r_f94_1 [true, false])
  (.cond (.tmp 4) (.seq (.sreg r_f94_2 [true, false, false])
  (.sreg r_f94_3 []))
  .skip))
  (.seq (.seq (.sreg r_f94_4 [true, false])
  (.cond (.tmp 8) (.seq (.sreg r_f94_5 [true, false, false])
  (.sreg r_f94_6 [true, false, false]))
  .skip))
  (.seq (.seq (.sreg r_f94_7 [true, false])
  (.cond (.tmp 14) (.seq (.sreg r_f94_8 [true, false, false])
  (.sreg r_f94_9 [true, false, false]))
  .skip))
  (.seq (.sreg r_f94_10 [true, false, false, false, false, false, false])
  .ret))))), [(.tmp 2)]⟩
def o_f94 : Nat → Nat → Nat := fun _ _ => 1
theorem c_f94_eq : lowF Tryz.prog o_f94 94 = some c_f94.raw := by kernel_rfl
theorem c_f94_ok : c_f94.code.okc = true := by kernel_rfl

end Go.Proofs.YtpednpndahgleaaGreatDoor.Av
