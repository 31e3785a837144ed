/- Bodies of functions, lowered: printed by a program (wip/tools/lowx.py); each is held against the program by the kernel. -/
import Derived.Test.YtpednpndahgleaaGreatDoorExE
import Derived.Test.YtpednpndahgleaaGreatDoorRows
import Derived.KernelRfl
set_option maxRecDepth 100000
set_option linter.unusedSimpArgs false
set_option linter.unusedVariables false
namespace Go.Proofs.YtpednpndahgleaaGreatDoor.Av
open Go

/-! castellan/castellanlaw19.IndexNil -/
def r_f4_0 : List SOp :=
   [.op ⟨(some 0), (.mv (.av (.bool false))), none⟩]
def r_f4_1 : List SOp :=
   [.op ⟨(some 1), (.mv (.av .nilptr)), none⟩]
def r_f4_2 : List SOp :=
   [.op ⟨(some 2), (.mv (.tmp 1)), none⟩,
    .op ⟨(some 3), (.call 11 [(.tmp 2), (.av (.int .i64 1)), (.av (.sl [] 0 (some 0)))]), none⟩]
def r_f4_3 : List SOp :=
   [.op ⟨(some 4), (.mv (.tmp 1)), none⟩,
    .op ⟨(some 5), (.call 12 [(.tmp 4), (.av (.int .i64 1))]), none⟩]
def r_f4_4 : List SOp :=
   [.op ⟨(some 6), (.call 13 []), none⟩,
    .op ⟨(some 7), (.mv (.tmp 6)), none⟩,
    .op ⟨(some 8), (.mv (.tmp 1)), (some (7, true))⟩,
    .op ⟨(some 9), (.call 14 [(.tmp 8), (.av (.str [99, 110]))]), (some (7, true))⟩,
    .op ⟨(some 10), (.un .not (.tmp 9)), (some (7, true))⟩,
    .op ⟨(some 11), (.pick (.tmp 7) (.tmp 10) (.av (.bool false))), none⟩,
    .op ⟨(some 12), (.mv (.tmp 11)), none⟩,
    .op ⟨(some 13), (.mv (.tmp 1)), (some (12, true))⟩,
    .op ⟨(some 14), (.call 15 [(.tmp 13), (.av (.str [99, 110]))]), (some (12, true))⟩,
    .op ⟨(some 15), (.un .not (.tmp 14)), (some (12, true))⟩,
    .op ⟨(some 16), (.pick (.tmp 12) (.tmp 15) (.av (.bool false))), none⟩,
    .op ⟨(some 17), (.mv (.tmp 16)), none⟩,
    .op ⟨(some 18), (.mv (.tmp 1)), (some (17, true))⟩,
    .op ⟨(some 19), (.call 16 [(.tmp 18)]), (some (17, true))⟩,
    .op ⟨(some 20), (.len false (.tmp 19)), (some (17, true))⟩,
    .op ⟨(some 21), (.mv (.tmp 1)), (some (17, true))⟩,
    .op ⟨(some 22), (.call 17 [(.tmp 21), (.av (.str [99, 110]))]), (some (17, true))⟩,
    .op ⟨(some 23), (.len false (.tmp 22)), (some (17, true))⟩,
    .op ⟨(some 24), (.bin .add (.tmp 20) (.tmp 23)), (some (17, true))⟩,
    .op ⟨(some 25), (.mv (.tmp 1)), (some (17, true))⟩,
    .op ⟨(some 26), (.call 18 [(.tmp 25), (.av (.str [99, 110])), (.av (.str [97]))]), (some (17, true))⟩,
    .op ⟨(some 27), (.len false (.tmp 26)), (some (17, true))⟩,
    .op ⟨(some 28), (.bin .add (.tmp 24) (.tmp 27)), (some (17, true))⟩,
    .op ⟨(some 29), (.mv (.tmp 1)), (some (17, true))⟩,
    .op ⟨(some 30), (.call 19 [(.tmp 29), (.av (.str [99, 110])), (.av (.sl [] 0 (some 0)))]), (some (17, true))⟩,
    .op ⟨(some 31), (.len false (.tmp 30)), (some (17, true))⟩,
    .op ⟨(some 32), (.bin .add (.tmp 28) (.tmp 31)), (some (17, true))⟩,
    .op ⟨(some 33), (.bin .eql (.tmp 32) (.av (.int .i64 0))), (some (17, true))⟩,
    .op ⟨(some 34), (.pick (.tmp 17) (.tmp 33) (.av (.bool false))), none⟩,
    .op ⟨(some 0), (.mv (.tmp 34)), none⟩]
def c_f4 : LFun := ⟨35, (.seq (.sreg r_f4_0 [])
  (.seq (.sreg r_f4_1 [])
  (.seq (.sreg r_f4_2 [false, false])
  (.seq (.sreg r_f4_3 [false, false])
  (.seq (.sreg r_f4_4 [true, false, false, false, false, false, false, false, false, false, false, false, false, false, false, false, false, false, false, false, false, false, false, false, false, false, false, false, false, false])
  .ret))))), [(.tmp 0)]⟩
def o_f4 : Nat → Nat → Nat := fun _ _ => 1
theorem c_f4_eq : lowF Tryz.prog o_f4 4 = some c_f4.raw := by kernel_rfl
theorem c_f4_ok : c_f4.code.okc = true := by kernel_rfl
/-! (*castellan/index.Index).Put -/
def r_f11_0 : List SOp :=
   [.op ⟨(some 3), (.box (.tmp 0)), none⟩,
    .op ⟨(some 4), (.box (.tmp 1)), none⟩]
def r_f11_1 : List SOp :=
   [.op ⟨(some 10), (.load false 1 (.tmp 3)), none⟩,
    .op ⟨(some 11), (.eqk false .ptr (.tmp 10) (.av .nilptr)), none⟩]
def r_f11_2 : List SOp :=
   [.op ⟨(some 12), (.load false 1 (.tmp 3)), none⟩,
    .op ⟨(some 13), (.load false 1 (.tmp 4)), none⟩,
    .op ⟨(some 14), (.call 12 [(.tmp 12), (.tmp 13)]), none⟩]
def r_f11_3 : List SOp :=
   [.op ⟨(some 6), (.mv (.av (.sl [] 0 (some 0)))), none⟩]
def r_f11_4 : List SOp :=
   [.op ⟨(some 15), (.mv (.tmp 2)), none⟩,
    .op ⟨(some 16), (.len false (.tmp 15)), none⟩,
    .op ⟨(some 17), (.mv (.av (.int .i64 0))), none⟩]
def r_f11_5 : List SOp :=
   [.op ⟨(some 18), (.bin .lss (.tmp 17) (.tmp 16)), none⟩]
def r_f11_6 : List SOp :=
   [.op ⟨(some 19), (.iaddr 2 (.tmp 15) (.tmp 17)), none⟩,
    .op ⟨(some 20), (.load true 2 (.tmp 19)), none⟩,
    .op ⟨(some 8), (.alloc [(.str []), (.sl [] 0 (some 0))]), none⟩,
    .op ⟨none, (.store 2 (.tmp 8) (.tmp 20)), none⟩]
def r_f11_7 : List (LOper × Kd) :=
   [(⟨(some 21), (.mv (.tmp 6)), none⟩, .pure),
    (⟨(some 22), (.faddr 0 (.tmp 8)), none⟩, .pure),
    (⟨(some 23), (.load false 1 (.tmp 22)), none⟩, (.read 0 1)),
    (⟨(some 24), (.faddr 1 (.tmp 8)), none⟩, .pure),
    (⟨(some 25), (.load false 1 (.tmp 24)), none⟩, (.read 0 0)),
    (⟨(some 26), (.call 37 [(.tmp 25)]), none⟩, .eff),
    (⟨(some 27), (.build [(.str []), (.sl [] 0 (some 0))] [(0, 1, (.tmp 23)), (1, 1, (.tmp 26))]), none⟩, .pure),
    (⟨(some 28), (.bslice false 2 1 [(.str []), (.sl [] 0 (some 0))] [(0, 2, (.tmp 27))]), none⟩, (.read 0 0))]
def r_f11_7t : List LOper :=
   [⟨(some 29), (.app 1 2 40 [(.str []), (.sl [] 0 (some 0))] (.tmp 21) (.tmp 28)), none⟩,
    ⟨(some 6), (.mv (.tmp 29)), none⟩]
def r_f11_8 : List SOp :=
   [.op ⟨(some 30), (.bin .add (.tmp 17) (.av (.int .i64 1))), none⟩,
    .op ⟨(some 17), (.mv (.tmp 30)), none⟩]
def r_f11_9 : List (LOper × Kd) :=
   [(⟨(some 31), (.load false 1 (.tmp 3)), none⟩, (.read 0 0)),
    (⟨(some 32), (.nilchk (.tmp 31)), none⟩, (.read 0 0)),
    (⟨(some 33), (.faddr 1 (.tmp 32)), none⟩, .pure),
    (⟨(some 34), (.load false 1 (.tmp 33)), none⟩, (.read 0 0)),
    (⟨(some 35), (.load false 1 (.tmp 4)), none⟩, (.read 0 0)),
    (⟨(some 36), (.mv (.tmp 6)), none⟩, .pure)]
def r_f11_9t : List LOper :=
   [⟨none, (.mset .int (.tmp 34) (.tmp 35) (.tmp 36)), none⟩]
def r_f11_10 : List SOp :=
   [.op ⟨(some 37), (.load false 1 (.tmp 3)), none⟩,
    .op ⟨(some 38), (.nilchk (.tmp 37)), none⟩,
    .op ⟨(some 39), (.faddr 0 (.tmp 38)), none⟩,
    .op ⟨(some 40), (.load false 1 (.tmp 39)), none⟩,
    .op ⟨(some 41), (.mrange (.tmp 40)), none⟩]
def r_f11_11 : List SOp :=
   [.op ⟨(some 42), (.mnext (.tmp 41)), none⟩,
    .op ⟨(some 43), (.extract (.tmp 42) 0), none⟩]
def r_f11_12 : List SOp :=
   [.op ⟨(some 44), (.mentry (.tmp 41)), none⟩,
    .op ⟨(some 45), (.extract (.tmp 44) 0), none⟩,
    .op ⟨(some 9), (.mv (.tmp 45)), none⟩]
def r_f11_13 : List SOp :=
   [.op ⟨(some 46), (.mv (.tmp 6)), none⟩,
    .op ⟨(some 47), (.mv (.tmp 9)), none⟩,
    .op ⟨(some 48), (.call 38 [(.tmp 46), (.tmp 47)]), none⟩,
    .op ⟨(some 49), (.len false (.tmp 48)), none⟩,
    .op ⟨(some 50), (.bin .gtr (.tmp 49) (.av (.int .i64 0))), none⟩]
def r_f11_14 : List (LOper × Kd) :=
   [(⟨(some 51), (.load false 1 (.tmp 3)), none⟩, (.read 0 0)),
    (⟨(some 52), (.nilchk (.tmp 51)), none⟩, (.read 0 0)),
    (⟨(some 53), (.faddr 2 (.tmp 52)), none⟩, .pure),
    (⟨(some 54), (.load false 1 (.tmp 53)), none⟩, (.read 0 0)),
    (⟨(some 55), (.mv (.tmp 9)), none⟩, .pure),
    (⟨(some 56), (.mget .str false .nilmap (.tmp 54) (.tmp 55)), none⟩, (.read 0 0)),
    (⟨(some 57), (.load false 1 (.tmp 4)), none⟩, (.read 0 0))]
def r_f11_14t : List LOper :=
   [⟨none, (.mset .int (.tmp 56) (.tmp 57) (.av (.bool true))), none⟩]
def r_f11_15 : List SOp :=
   [.op ⟨(some 58), (.load false 1 (.tmp 3)), none⟩,
    .op ⟨(some 59), (.mv (.tmp 6)), none⟩,
    .op ⟨(some 60), (.mkfn 40 [(.tmp 3), (.tmp 4)]), none⟩,
    .op ⟨(some 61), (.call 39 [(.tmp 58), (.tmp 59), (.tmp 60)]), none⟩]
def c_f11 : LFun := ⟨62, (.seq (.sreg r_f11_0 [])
  (.seq (.seq (.sreg r_f11_1 [true, false])
  (.cond (.tmp 11) .ret
  .skip))
  (.seq (.sreg r_f11_2 [false, false, false])
  (.seq (.sreg r_f11_3 [])
  (.seq (.seq (.sreg r_f11_4 [])
  (.block 0 (.loop (.seq (.sreg r_f11_5 [])
  (.seq (.cond (.tmp 18) .skip
  (.exit 0))
  (.seq (.block 1 (.seq (.sreg r_f11_6 [true, false, false])
  (.dregM r_f11_7 r_f11_7t [true, false, false, false, false, false, false, false, false, false])))
  (.sreg r_f11_8 [true, false])))))))
  (.seq (.dregM r_f11_9 r_f11_9t [false, false, false, false, false, false])
  (.seq (.seq (.sreg r_f11_10 [true, false, false, false, false])
  (.block 2 (.loop (.seq (.sreg r_f11_11 [true, false])
  (.seq (.cond (.tmp 43) .skip
  (.exit 2))
  (.block 3 (.seq (.sreg r_f11_12 [true, false, false])
  (.seq (.sreg r_f11_13 [true, false, false, false, false])
  (.cond (.tmp 50) (.dregM r_f11_14 r_f11_14t [false, false, false, false, false, false, false])
  .skip)))))))))
  (.sreg r_f11_15 [false, false, false, false])))))))), []⟩
def o_f11 : Nat → Nat → Nat := fun r i => if r = 7 ∧ i = 5 then 3 else 1
theorem c_f11_eq : lowF Tryz.prog o_f11 11 = some c_f11.raw := by kernel_rfl
theorem c_f11_ok : c_f11.code.okc = true := by kernel_rfl
/-! (*castellan/index.Index).Drop -/
def r_f12_0 : List SOp :=
   [.op ⟨(some 2), (.box (.tmp 0)), none⟩,
    .op ⟨(some 3), (.box (.tmp 1)), none⟩]
def r_f12_1 : List SOp :=
   [.op ⟨(some 8), (.load false 1 (.tmp 2)), none⟩,
    .op ⟨(some 9), (.eqk false .ptr (.tmp 8) (.av .nilptr)), none⟩]
def r_f12_2 : List SOp :=
   [.op ⟨(some 11), (.load false 1 (.tmp 2)), none⟩,
    .op ⟨(some 12), (.nilchk (.tmp 11)), none⟩,
    .op ⟨(some 13), (.faddr 1 (.tmp 12)), none⟩,
    .op ⟨(some 14), (.load false 1 (.tmp 13)), none⟩,
    .op ⟨(some 15), (.load false 1 (.tmp 3)), none⟩,
    .op ⟨(some 16), (.mget .int true (.sl [] 0 (some 0)) (.tmp 14) (.tmp 15)), none⟩,
    .op ⟨(some 10), (.mv (.tmp 16)), none⟩,
    .op ⟨(some 17), (.extract (.tmp 10) 0), none⟩,
    .op ⟨(some 18), (.extract (.tmp 10) 1), none⟩,
    .op ⟨(some 4), (.mv (.tmp 17)), none⟩,
    .op ⟨(some 5), (.mv (.tmp 18)), none⟩]
def r_f12_3 : List SOp :=
   [.op ⟨(some 19), (.mv (.tmp 5)), none⟩,
    .op ⟨(some 20), (.un .not (.tmp 19)), none⟩]
def r_f12_4 : List (LOper × Kd) :=
   [(⟨(some 21), (.load false 1 (.tmp 2)), none⟩, (.read 0 0)),
    (⟨(some 22), (.nilchk (.tmp 21)), none⟩, (.read 0 0)),
    (⟨(some 23), (.faddr 1 (.tmp 22)), none⟩, .pure),
    (⟨(some 24), (.load false 1 (.tmp 23)), none⟩, (.read 0 0)),
    (⟨(some 25), (.load false 1 (.tmp 3)), none⟩, (.read 0 0))]
def r_f12_4t : List LOper :=
   [⟨none, (.mdel .int (.tmp 24) (.tmp 25)), none⟩]
def r_f12_5 : List SOp :=
   [.op ⟨(some 26), (.load false 1 (.tmp 2)), none⟩,
    .op ⟨(some 27), (.nilchk (.tmp 26)), none⟩,
    .op ⟨(some 28), (.faddr 2 (.tmp 27)), none⟩,
    .op ⟨(some 29), (.load false 1 (.tmp 28)), none⟩,
    .op ⟨(some 30), (.mrange (.tmp 29)), none⟩]
def r_f12_6 : List SOp :=
   [.op ⟨(some 31), (.mnext (.tmp 30)), none⟩,
    .op ⟨(some 32), (.extract (.tmp 31) 0), none⟩]
def r_f12_7 : List SOp :=
   [.op ⟨(some 33), (.mentry (.tmp 30)), none⟩,
    .op ⟨(some 34), (.extract (.tmp 33) 1), none⟩,
    .op ⟨(some 7), (.mv (.tmp 34)), none⟩]
def r_f12_8 : List SOp :=
   [.op ⟨(some 35), (.mv (.tmp 7)), none⟩,
    .op ⟨(some 36), (.load false 1 (.tmp 3)), none⟩,
    .op ⟨none, (.mdel .int (.tmp 35) (.tmp 36)), none⟩]
def r_f12_9 : List SOp :=
   [.op ⟨(some 37), (.load false 1 (.tmp 2)), none⟩,
    .op ⟨(some 38), (.mv (.tmp 4)), none⟩,
    .op ⟨(some 39), (.mkfn 41 [(.tmp 2), (.tmp 3)]), none⟩,
    .op ⟨(some 40), (.call 39 [(.tmp 37), (.tmp 38), (.tmp 39)]), none⟩]
def c_f12 : LFun := ⟨41, (.seq (.sreg r_f12_0 [])
  (.seq (.seq (.sreg r_f12_1 [true, false])
  (.cond (.tmp 9) .ret
  .skip))
  (.seq (.sdreg r_f12_2 [(.read 0 0), (.read 0 0), .pure, (.read 0 0), (.read 0 0), (.read 0 0), .pure, .pure, .pure, .pure] [true, true, false, false, false, false, false, false, false, false, false])
  (.seq (.seq (.sreg r_f12_3 [true, false])
  (.cond (.tmp 20) .ret
  .skip))
  (.seq (.dregM r_f12_4 r_f12_4t [false, false, false, false, false])
  (.seq (.seq (.sreg r_f12_5 [true, false, false, false, false])
  (.block 0 (.loop (.seq (.sreg r_f12_6 [true, false])
  (.seq (.cond (.tmp 32) .skip
  (.exit 0))
  (.block 1 (.seq (.sreg r_f12_7 [true, false, false])
  (.sreg r_f12_8 [false, false]))))))))
  (.sreg r_f12_9 [false, false, false, false]))))))), []⟩
def o_f12 : Nat → Nat → Nat := fun _ _ => 1
theorem c_f12_eq : lowF Tryz.prog o_f12 12 = some c_f12.raw := by kernel_rfl
theorem c_f12_ok : c_f12.code.okc = true := by kernel_rfl
/-! castellan/castellanlaw19.awake -/
def r_f13_0 : List SOp :=
   [.op ⟨(some 0), (.mv (.av (.bool false))), none⟩]
def r_f13_1 : List SOp :=
   [.op ⟨(some 4), (.call 43 []), none⟩,
    .op ⟨(some 5), (.bslice false 1 1 [(.str [])] [(0, 1, (.av (.str [99, 110])))]), none⟩,
    .op ⟨(some 6), (.call 42 [(.tmp 4), (.tmp 5)]), none⟩,
    .op ⟨(some 3), (.mv (.tmp 6)), none⟩,
    .op ⟨(some 7), (.extract (.tmp 3) 0), none⟩,
    .op ⟨(some 8), (.extract (.tmp 3) 1), none⟩,
    .op ⟨(some 1), (.mv (.tmp 7)), none⟩,
    .op ⟨(some 2), (.mv (.tmp 8)), none⟩]
def r_f13_2 : List SOp :=
   [.op ⟨(some 9), (.mv (.tmp 2)), none⟩,
    .op ⟨(some 10), (.bin .neq (.tmp 9) (.av (.int .i64 0))), none⟩,
    .op ⟨(some 11), (.mv (.tmp 10)), none⟩,
    .grp none 11 false
      [.op ⟨(some 12), (.mv (.tmp 1)), (some (11, false))⟩,
      .op ⟨(some 13), (.eqk false .ptr (.tmp 12) (.av .nilptr)), (some (11, false))⟩]
      14 (.tmp 13)]
def r_f13_3 : List SOp :=
   [.op ⟨(some 0), (.mv (.av (.bool false))), none⟩]
def r_f13_4 : List SOp :=
   [.op ⟨(some 15), (.mv (.tmp 1)), none⟩,
    .op ⟨(some 16), (.bslice false 1 1 [(.str [])] [(0, 1, (.av (.str [120, 97, 98, 99])))]), none⟩,
    .op ⟨(some 17), (.build [(.str []), (.sl [] 0 (some 0))] [(0, 1, (.av (.str [99, 110]))), (1, 1, (.tmp 16))]), none⟩,
    .op ⟨(some 18), (.bslice false 2 1 [(.str []), (.sl [] 0 (some 0))] [(0, 2, (.tmp 17))]), none⟩,
    .op ⟨(some 19), (.call 11 [(.tmp 15), (.av (.int .i64 2)), (.tmp 18)]), none⟩]
def r_f13_5 : List SOp :=
   [.op ⟨(some 20), (.mv (.tmp 1)), none⟩,
    .op ⟨(some 21), (.bslice false 1 1 [(.str [])] [(0, 1, (.av (.str [97, 98, 99, 100])))]), none⟩,
    .op ⟨(some 22), (.build [(.str []), (.sl [] 0 (some 0))] [(0, 1, (.av (.str [99, 110]))), (1, 1, (.tmp 21))]), none⟩,
    .op ⟨(some 23), (.bslice false 2 1 [(.str []), (.sl [] 0 (some 0))] [(0, 2, (.tmp 22))]), none⟩,
    .op ⟨(some 24), (.call 11 [(.tmp 20), (.av (.int .i64 1)), (.tmp 23)]), none⟩]
def r_f13_6 : List SOp :=
   [.op ⟨(some 25), (.mv (.tmp 1)), none⟩,
    .op ⟨(some 26), (.build [(.int .i64 0), (.str [])] [(0, 1, (.av (.int .i64 1))), (1, 1, (.av (.str [65, 66, 67])))]), none⟩,
    .op ⟨(some 27), (.bslice false 2 1 [(.int .i64 0), (.str [])] [(0, 2, (.tmp 26))]), none⟩,
    .op ⟨(some 28), (.call 19 [(.tmp 25), (.av (.str [67, 78])), (.tmp 27)]), none⟩,
    .op ⟨(some 29), (.bslice false 1 2 [(.int .i64 0), (.int .i64 0)] [(0, 1, (.av (.int .i64 1))), (1, 1, (.av (.int .i64 2)))]), none⟩,
    .op ⟨(some 30), (.call 21 [(.tmp 28), (.tmp 29)]), none⟩,
    .op ⟨(some 31), (.mv (.tmp 30)), none⟩,
    .op ⟨(some 32), (.mv (.tmp 1)), (some (31, true))⟩,
    .op ⟨(some 33), (.build [(.int .i64 0), (.str [])] [(0, 1, (.av (.int .i64 1))), (1, 1, (.av (.str [98, 99, 100])))]), (some (31, true))⟩,
    .op ⟨(some 34), (.bslice false 2 1 [(.int .i64 0), (.str [])] [(0, 2, (.tmp 33))]), (some (31, true))⟩,
    .op ⟨(some 35), (.call 19 [(.tmp 32), (.av (.str [99, 110])), (.tmp 34)]), (some (31, true))⟩,
    .op ⟨(some 36), (.bslice false 1 1 [(.int .i64 0)] [(0, 1, (.av (.int .i64 1)))]), (some (31, true))⟩,
    .op ⟨(some 37), (.call 21 [(.tmp 35), (.tmp 36)]), (some (31, true))⟩,
    .op ⟨(some 38), (.pick (.tmp 31) (.tmp 37) (.av (.bool false))), none⟩,
    .op ⟨(some 0), (.mv (.tmp 38)), none⟩]
def c_f13 : LFun := ⟨39, (.seq (.sreg r_f13_0 [])
  (.seq (.sreg r_f13_1 [true, true, false, false, false, false, false, false])
  (.seq (.seq (.sreg r_f13_2 [true, false, false, false])
  (.cond (.tmp 14) (.seq (.sreg r_f13_3 [])
  .ret)
  .skip))
  (.seq (.sreg r_f13_4 [false, false, false, false, false])
  (.seq (.sreg r_f13_5 [false, false, false, false, false])
  (.seq (.sreg r_f13_6 [true, false, false, false, false, false, false, false, false, false, false, false, false, false, false])
  .ret)))))), [(.tmp 0)]⟩
def o_f13 : Nat → Nat → Nat := fun _ _ => 1
theorem c_f13_eq : lowF Tryz.prog o_f13 13 = some c_f13.raw := by kernel_rfl
theorem c_f13_ok : c_f13.code.okc = true := by kernel_rfl
/-! (*castellan/index.Index).Has -/
def r_f14_0 : List SOp :=
   [.op ⟨(some 4), (.mv (.av (.bool false))), none⟩]
def r_f14_1 : List SOp :=
   [.op ⟨(some 7), (.mv (.tmp 0)), none⟩,
    .op ⟨(some 8), (.eqk false .ptr (.tmp 7) (.av .nilptr)), none⟩]
def r_f14_2 : List SOp :=
   [.op ⟨(some 4), (.mv (.av (.bool false))), none⟩]
def r_f14_3 : List (LOper × Kd) :=
   [(⟨(some 10), (.mv (.tmp 0)), none⟩, .pure),
    (⟨(some 11), (.nilchk (.tmp 10)), none⟩, (.read 0 1)),
    (⟨(some 12), (.faddr 0 (.tmp 11)), none⟩, .pure),
    (⟨(some 13), (.load false 1 (.tmp 12)), none⟩, (.read 0 1)),
    (⟨(some 14), (.mv (.tmp 1)), none⟩, .pure),
    (⟨(some 15), (.call 44 [(.tmp 14)]), none⟩, (.read 0 1)),
    (⟨(some 16), (.mget .str true (.agg [(.str []), (.int .i64 0), (.bool false), (.bool false)]) (.tmp 13) (.tmp 15)), none⟩, (.read 0 1)),
    (⟨(some 9), (.mv (.tmp 16)), none⟩, .pure),
    (⟨(some 17), (.extract (.tmp 9) 0), none⟩, .pure),
    (⟨(some 18), (.extract (.tmp 9) 1), none⟩, .pure),
    (⟨(some 5), (.alloc [(.str []), (.int .i64 0), (.bool false), (.bool false)]), none⟩, .eff),
    (⟨none, (.store 4 (.tmp 5) (.tmp 17)), none⟩, .eff)]
def r_f14_3t : List LOper :=
   [⟨(some 6), (.mv (.tmp 18)), none⟩]
def r_f14_4 : List SOp :=
   [.op ⟨(some 19), (.mv (.tmp 6)), none⟩,
    .op ⟨(some 4), (.mv (.tmp 19)), none⟩]
def c_f14 : LFun := ⟨20, (.seq (.sreg r_f14_0 [])
  (.seq (.seq (.sreg r_f14_1 [true, false])
  (.cond (.tmp 8) (.seq (.sreg r_f14_2 [])
  .ret)
  .skip))
  (.seq (.dregM r_f14_3 r_f14_3t [true, false, false, false, false, false, false, false, false, false, false, false])
  (.seq (.sreg r_f14_4 [true, false])
  .ret)))), [(.tmp 4)]⟩
def o_f14 : Nat → Nat → Nat := fun _ _ => 1
theorem c_f14_eq : lowF Tryz.prog o_f14 14 = some c_f14.raw := by kernel_rfl
theorem c_f14_ok : c_f14.code.okc = true := by kernel_rfl
/-! (*castellan/index.Index).Texts -/
def r_f15_0 : List SOp :=
   [.op ⟨(some 4), (.mv (.av (.bool false))), none⟩]
def r_f15_1 : List (LOper × Kd) :=
   [(⟨(some 5), (.mv (.tmp 0)), none⟩, .pure),
    (⟨(some 6), (.mv (.tmp 1)), none⟩, .pure),
    (⟨(some 7), (.call 14 [(.tmp 5), (.tmp 6)]), none⟩, .eff),
    (⟨(some 8), (.mv (.tmp 7)), none⟩, .pure),
    (⟨(some 9), (.mv (.tmp 0)), (some (8, true))⟩, .pure),
    (⟨(some 10), (.nilchk (.tmp 9)), (some (8, true))⟩, (.read 0 1)),
    (⟨(some 11), (.faddr 0 (.tmp 10)), (some (8, true))⟩, .pure),
    (⟨(some 12), (.load false 1 (.tmp 11)), (some (8, true))⟩, (.read 0 1)),
    (⟨(some 13), (.mv (.tmp 1)), (some (8, true))⟩, .pure),
    (⟨(some 14), (.call 44 [(.tmp 13)]), (some (8, true))⟩, .eff)]
def r_f15_1t : List LOper :=
   [⟨(some 15), (.mget .str false (.agg [(.str []), (.int .i64 0), (.bool false), (.bool false)]) (.tmp 12) (.tmp 14)), (some (8, true))⟩,
    ⟨(some 16), (.field false 1 1 (.tmp 15)), (some (8, true))⟩,
    ⟨(some 17), (.bin .leq (.tmp 16) (.av (.int .i64 3))), (some (8, true))⟩,
    ⟨(some 18), (.pick (.tmp 8) (.tmp 17) (.av (.bool false))), none⟩,
    ⟨(some 4), (.mv (.tmp 18)), none⟩]
def c_f15 : LFun := ⟨19, (.seq (.sreg r_f15_0 [])
  (.seq (.dregM r_f15_1 r_f15_1t [true, false, false, false, false, false, false, false, false, false, false, false, false, false, false])
  .ret)), [(.tmp 4)]⟩
def o_f15 : Nat → Nat → Nat := fun r i => if r = 1 ∧ i = 2 then 3 else if r = 1 ∧ i = 9 then 3 else 1
theorem c_f15_eq : lowF Tryz.prog o_f15 15 = some c_f15.raw := by kernel_rfl
theorem c_f15_ok : c_f15.code.okc = true := by kernel_rfl
/-! (*castellan/index.Index).All -/
def r_f16_0 : List SOp :=
   [.op ⟨(some 2), (.mv (.av (.sl [] 0 (some 0)))), none⟩]
def r_f16_1 : List SOp :=
   [.op ⟨(some 3), (.mv (.tmp 0)), none⟩,
    .op ⟨(some 4), (.eqk false .ptr (.tmp 3) (.av .nilptr)), none⟩]
def r_f16_2 : List SOp :=
   [.op ⟨(some 2), (.mv (.av (.sl [] 0 (some 0)))), none⟩]
def r_f16_3 : List SOp :=
   [.op ⟨(some 5), (.mv (.tmp 0)), none⟩,
    .op ⟨(some 6), (.nilchk (.tmp 5)), none⟩,
    .op ⟨(some 7), (.faddr 1 (.tmp 6)), none⟩,
    .op ⟨(some 8), (.load false 1 (.tmp 7)), none⟩,
    .op ⟨(some 9), (.call 46 [(.tmp 8)]), none⟩,
    .op ⟨(some 10), (.call 45 [(.tmp 9)]), none⟩,
    .op ⟨(some 2), (.mv (.tmp 10)), none⟩]
def c_f16 : LFun := ⟨11, (.seq (.sreg r_f16_0 [])
  (.seq (.seq (.sreg r_f16_1 [true, false])
  (.cond (.tmp 4) (.seq (.sreg r_f16_2 [])
  .ret)
  .skip))
  (.seq (.sreg r_f16_3 [true, false, false, false, false, false, false])
  .ret))), [(.tmp 2)]⟩
def o_f16 : Nat → Nat → Nat := fun _ _ => 1
theorem c_f16_eq : lowF Tryz.prog o_f16 16 = some c_f16.raw := by kernel_rfl
theorem c_f16_ok : c_f16.code.okc = true := by kernel_rfl
/-! (*castellan/index.Index).Present -/
def r_f17_0 : List SOp :=
   [.op ⟨(some 4), (.mv (.av (.sl [] 0 (some 0)))), none⟩]
def r_f17_1 : List SOp :=
   [.op ⟨(some 5), (.mv (.tmp 0)), none⟩,
    .op ⟨(some 6), (.mv (.tmp 1)), none⟩,
    .op ⟨(some 7), (.call 14 [(.tmp 5), (.tmp 6)]), none⟩,
    .op ⟨(some 8), (.un .not (.tmp 7)), none⟩]
def r_f17_2 : List SOp :=
   [.op ⟨(some 4), (.mv (.av (.sl [] 0 (some 0)))), none⟩]
def r_f17_3 : List (LOper × Kd) :=
   [(⟨(some 9), (.mv (.tmp 0)), none⟩, .pure),
    (⟨(some 10), (.nilchk (.tmp 9)), none⟩, (.read 0 1)),
    (⟨(some 11), (.faddr 2 (.tmp 10)), none⟩, .pure),
    (⟨(some 12), (.load false 1 (.tmp 11)), none⟩, (.read 0 1)),
    (⟨(some 13), (.mv (.tmp 1)), none⟩, .pure),
    (⟨(some 14), (.call 44 [(.tmp 13)]), none⟩, .eff)]
def r_f17_3t : List LOper :=
   [⟨(some 15), (.mget .str false .nilmap (.tmp 12) (.tmp 14)), none⟩,
    ⟨(some 16), (.call 47 [(.tmp 15)]), none⟩,
    ⟨(some 4), (.mv (.tmp 16)), none⟩]
def c_f17 : LFun := ⟨17, (.seq (.sreg r_f17_0 [])
  (.seq (.seq (.sreg r_f17_1 [true, false, false, false])
  (.cond (.tmp 8) (.seq (.sreg r_f17_2 [])
  .ret)
  .skip))
  (.seq (.dregM r_f17_3 r_f17_3t [true, false, false, false, false, false, false, false, false])
  .ret))), [(.tmp 4)]⟩
def o_f17 : Nat → Nat → Nat := fun r i => if r = 3 ∧ i = 5 then 3 else if r = 3 ∧ i = 7 then 3 else 1
theorem c_f17_eq : lowF Tryz.prog o_f17 17 = some c_f17.raw := by kernel_rfl
theorem c_f17_ok : c_f17.code.okc = true := by kernel_rfl
/-! (*castellan/index.Index).Equal -/
def r_f18_0 : List SOp :=
   [.op ⟨(some 6), (.mv (.av (.sl [] 0 (some 0)))), none⟩]
def r_f18_1 : List SOp :=
   [.op ⟨(some 9), (.mv (.tmp 0)), none⟩,
    .op ⟨(some 10), (.mv (.tmp 1)), none⟩,
    .op ⟨(some 11), (.call 14 [(.tmp 9), (.tmp 10)]), none⟩,
    .op ⟨(some 12), (.un .not (.tmp 11)), none⟩]
def r_f18_2 : List SOp :=
   [.op ⟨(some 6), (.mv (.av (.sl [] 0 (some 0)))), none⟩]
def r_f18_3 : List (LOper × Kd) :=
   [(⟨(some 14), (.mv (.tmp 0)), none⟩, .pure),
    (⟨(some 15), (.nilchk (.tmp 14)), none⟩, (.read 0 1)),
    (⟨(some 16), (.faddr 0 (.tmp 15)), none⟩, .pure),
    (⟨(some 17), (.load false 1 (.tmp 16)), none⟩, (.read 0 1)),
    (⟨(some 18), (.mv (.tmp 1)), none⟩, .pure),
    (⟨(some 19), (.call 44 [(.tmp 18)]), none⟩, .eff),
    (⟨(some 20), (.mget .str false (.agg [(.str []), (.int .i64 0), (.bool false), (.bool false)]) (.tmp 17) (.tmp 19)), none⟩, (.read 0 0)),
    (⟨(some 21), (.field false 1 1 (.tmp 20)), none⟩, (.read 0 0)),
    (⟨(some 22), (.mv (.tmp 2)), none⟩, .pure),
    (⟨(some 23), (.call 8 [(.tmp 21), (.tmp 22)]), none⟩, .eff),
    (⟨(some 13), (.mv (.tmp 23)), none⟩, .pure),
    (⟨(some 24), (.extract (.tmp 13) 0), none⟩, .pure),
    (⟨(some 25), (.extract (.tmp 13) 1), none⟩, .pure),
    (⟨(some 7), (.mv (.tmp 24)), none⟩, .pure)]
def r_f18_3t : List LOper :=
   [⟨(some 8), (.mv (.tmp 25)), none⟩]
def r_f18_4 : List SOp :=
   [.op ⟨(some 26), (.mv (.tmp 8)), none⟩,
    .op ⟨(some 27), (.un .not (.tmp 26)), none⟩]
def r_f18_5 : List SOp :=
   [.op ⟨(some 6), (.mv (.av (.sl [] 0 (some 0)))), none⟩]
def r_f18_6 : List (LOper × Kd) :=
   [(⟨(some 28), (.mv (.tmp 0)), none⟩, .pure),
    (⟨(some 29), (.nilchk (.tmp 28)), none⟩, (.read 0 1)),
    (⟨(some 30), (.faddr 3 (.tmp 29)), none⟩, .pure),
    (⟨(some 31), (.load false 1 (.tmp 30)), none⟩, (.read 0 1)),
    (⟨(some 32), (.mv (.tmp 1)), none⟩, .pure),
    (⟨(some 33), (.call 44 [(.tmp 32)]), none⟩, .eff),
    (⟨(some 34), (.mv (.tmp 7)), none⟩, .pure),
    (⟨(some 35), (.build [(.str []), (.bool false), (.str [])] [(0, 1, (.tmp 33)), (1, 1, (.av (.bool false))), (2, 1, (.tmp 34))]), none⟩, .pure)]
def r_f18_6t : List LOper :=
   [⟨(some 36), (.mget (.st [.str, .bool, .str]) false .nilmap (.tmp 31) (.tmp 35)), none⟩,
    ⟨(some 37), (.call 47 [(.tmp 36)]), none⟩,
    ⟨(some 6), (.mv (.tmp 37)), none⟩]
def c_f18 : LFun := ⟨38, (.seq (.sreg r_f18_0 [])
  (.seq (.seq (.sreg r_f18_1 [true, false, false, false])
  (.cond (.tmp 12) (.seq (.sreg r_f18_2 [])
  .ret)
  .skip))
  (.seq (.dregM r_f18_3 r_f18_3t [true, true, false, false, false, false, false, false, false, false, false, false, false, false, false])
  (.seq (.seq (.sreg r_f18_4 [true, false])
  (.cond (.tmp 27) (.seq (.sreg r_f18_5 [])
  .ret)
  .skip))
  (.seq (.dregM r_f18_6 r_f18_6t [true, false, false, false, false, false, false, false, false, false, false])
  .ret))))), [(.tmp 6)]⟩
def o_f18 : Nat → Nat → Nat := fun r i => if r = 3 ∧ i = 5 then 3 else if r = 3 ∧ i = 9 then 3 else if r = 6 ∧ i = 5 then 3 else if r = 6 ∧ i = 9 then 3 else 1
theorem c_f18_eq : lowF Tryz.prog o_f18 18 = some c_f18.raw := by kernel_rfl
theorem c_f18_ok : c_f18.code.okc = true := by kernel_rfl
/-! (*castellan/index.Index).Like -/
def r_f19_0 : List SOp :=
   [.op ⟨(some 6), (.mv (.av (.sl [] 0 (some 0)))), none⟩]
def r_f19_1 : List SOp :=
   [.op ⟨(some 15), (.mv (.tmp 0)), none⟩,
    .op ⟨(some 16), (.mv (.tmp 1)), none⟩,
    .op ⟨(some 17), (.call 14 [(.tmp 15), (.tmp 16)]), none⟩,
    .op ⟨(some 18), (.un .not (.tmp 17)), none⟩]
def r_f19_2 : List SOp :=
   [.op ⟨(some 6), (.mv (.av (.sl [] 0 (some 0)))), none⟩]
def r_f19_3 : List SOp :=
   [.op ⟨(some 19), (.mv (.tmp 1)), none⟩,
    .op ⟨(some 20), (.call 44 [(.tmp 19)]), none⟩,
    .op ⟨(some 7), (.mv (.tmp 20)), none⟩]
def r_f19_4 : List SOp :=
   [.op ⟨(some 21), (.mv (.tmp 0)), none⟩,
    .op ⟨(some 22), (.nilchk (.tmp 21)), none⟩,
    .op ⟨(some 23), (.faddr 2 (.tmp 22)), none⟩,
    .op ⟨(some 24), (.load false 1 (.tmp 23)), none⟩,
    .op ⟨(some 25), (.mv (.tmp 7)), none⟩,
    .op ⟨(some 26), (.mget .str false .nilmap (.tmp 24) (.tmp 25)), none⟩,
    .op ⟨(some 27), (.call 48 [(.tmp 26)]), none⟩,
    .op ⟨(some 8), (.mv (.tmp 27)), none⟩]
def r_f19_5 : List SOp :=
   [.op ⟨(some 28), (.mv (.tmp 2)), none⟩,
    .op ⟨(some 29), (.len false (.tmp 28)), none⟩,
    .op ⟨(some 30), (.mv (.av (.int .i64 0))), none⟩]
def r_f19_6 : List SOp :=
   [.op ⟨(some 31), (.bin .lss (.tmp 30) (.tmp 29)), none⟩]
def r_f19_7 : List SOp :=
   [.op ⟨(some 32), (.iaddr 2 (.tmp 28) (.tmp 30)), none⟩,
    .op ⟨(some 33), (.load true 2 (.tmp 32)), none⟩,
    .op ⟨(some 10), (.alloc [(.int .i64 0), (.str [])]), none⟩,
    .op ⟨none, (.store 2 (.tmp 10) (.tmp 33)), none⟩]
def r_f19_8 : List SOp :=
   [.op ⟨(some 34), (.faddr 1 (.tmp 10)), none⟩,
    .op ⟨(some 35), (.load false 1 (.tmp 34)), none⟩,
    .op ⟨(some 11), (.mv (.tmp 35)), none⟩]
def r_f19_9 : List SOp :=
   [.op ⟨(some 36), (.mv (.tmp 0)), none⟩,
    .op ⟨(some 37), (.nilchk (.tmp 36)), none⟩,
    .op ⟨(some 38), (.faddr 0 (.tmp 37)), none⟩,
    .op ⟨(some 39), (.load false 1 (.tmp 38)), none⟩,
    .op ⟨(some 40), (.mv (.tmp 7)), none⟩,
    .op ⟨(some 41), (.mget .str false (.agg [(.str []), (.int .i64 0), (.bool false), (.bool false)]) (.tmp 39) (.tmp 40)), none⟩,
    .op ⟨(some 42), (.field false 1 1 (.tmp 41)), none⟩,
    .op ⟨(some 43), (.bin .neq (.tmp 42) (.av (.int .i64 2))), none⟩]
def r_f19_10 : List SOp :=
   [.op ⟨(some 44), (.mv (.tmp 11)), none⟩,
    .op ⟨(some 45), (.call 44 [(.tmp 44)]), none⟩,
    .op ⟨(some 11), (.mv (.tmp 45)), none⟩]
def r_f19_11 : List SOp :=
   [.op ⟨(some 46), (.mv (.tmp 11)), none⟩,
    .op ⟨(some 47), (.call 49 [(.tmp 46)]), none⟩,
    .op ⟨(some 48), (.len false (.tmp 47)), none⟩,
    .op ⟨(some 49), (.mv (.av (.int .i64 0))), none⟩]
def r_f19_12 : List SOp :=
   [.op ⟨(some 50), (.bin .lss (.tmp 49) (.tmp 48)), none⟩]
def r_f19_13 : List SOp :=
   [.op ⟨(some 51), (.iaddr 1 (.tmp 47) (.tmp 49)), none⟩,
    .op ⟨(some 52), (.load false 1 (.tmp 51)), none⟩,
    .op ⟨(some 13), (.mv (.tmp 52)), none⟩]
def r_f19_14 : List SOp :=
   [.op ⟨(some 53), (.mv (.tmp 0)), none⟩,
    .op ⟨(some 54), (.nilchk (.tmp 53)), none⟩,
    .op ⟨(some 55), (.faddr 3 (.tmp 54)), none⟩,
    .op ⟨(some 56), (.load false 1 (.tmp 55)), none⟩,
    .op ⟨(some 57), (.mv (.tmp 7)), none⟩,
    .op ⟨(some 58), (.mv (.tmp 13)), none⟩,
    .op ⟨(some 59), (.build [(.str []), (.bool false), (.str [])] [(0, 1, (.tmp 57)), (1, 1, (.av (.bool true))), (2, 1, (.tmp 58))]), none⟩,
    .op ⟨(some 60), (.mget (.st [.str, .bool, .str]) false .nilmap (.tmp 56) (.tmp 59)), none⟩,
    .op ⟨(some 14), (.alloc [.nilmap]), none⟩,
    .op ⟨none, (.store 1 (.tmp 14) (.tmp 60)), none⟩]
def r_f19_15 : List SOp :=
   [.op ⟨(some 61), (.mv (.tmp 8)), none⟩,
    .op ⟨(some 62), (.mkfn 51 [(.tmp 14)]), none⟩,
    .op ⟨(some 63), (.call 50 [(.tmp 61), (.tmp 62)]), none⟩]
def r_f19_16 : List SOp :=
   [.op ⟨(some 64), (.bin .add (.tmp 49) (.av (.int .i64 1))), none⟩,
    .op ⟨(some 49), (.mv (.tmp 64)), none⟩]
def r_f19_17 : List SOp :=
   [.op ⟨(some 65), (.bin .add (.tmp 30) (.av (.int .i64 1))), none⟩,
    .op ⟨(some 30), (.mv (.tmp 65)), none⟩]
def r_f19_18 : List SOp :=
   [.op ⟨(some 66), (.mv (.tmp 8)), none⟩,
    .op ⟨(some 67), (.call 47 [(.tmp 66)]), none⟩,
    .op ⟨(some 6), (.mv (.tmp 67)), none⟩]
def c_f19 : LFun := ⟨68, (.seq (.sreg r_f19_0 [])
  (.seq (.seq (.sreg r_f19_1 [true, false, false, false])
  (.cond (.tmp 18) (.seq (.sreg r_f19_2 [])
  .ret)
  .skip))
  (.seq (.sreg r_f19_3 [true, false, false])
  (.seq (.sreg r_f19_4 [true, false, false, false, false, false, false, false])
  (.seq (.seq (.sreg r_f19_5 [])
  (.block 0 (.loop (.seq (.sreg r_f19_6 [])
  (.seq (.cond (.tmp 31) .skip
  (.exit 0))
  (.seq (.block 1 (.seq (.sreg r_f19_7 [true, false, false])
  (.seq (.sreg r_f19_8 [true, false, false])
  (.seq (.seq (.sreg r_f19_9 [true, false, false, false, false, false, false, false])
  (.cond (.tmp 43) (.sreg r_f19_10 [true, false, false])
  .skip))
  (.seq (.sreg r_f19_11 [true, true, true, false])
  (.block 2 (.loop (.seq (.sreg r_f19_12 [])
  (.seq (.cond (.tmp 50) .skip
  (.exit 2))
  (.seq (.block 3 (.seq (.sreg r_f19_13 [true, false, false])
  (.seq (.sreg r_f19_14 [true, false, false, false, false, false, false, false, false])
  (.sreg r_f19_15 [false, false, false]))))
  (.sreg r_f19_16 [true, false])))))))))))
  (.sreg r_f19_17 [true, false])))))))
  (.seq (.sreg r_f19_18 [true, false, false])
  .ret)))))), [(.tmp 6)]⟩
def o_f19 : Nat → Nat → Nat := fun _ _ => 1
theorem c_f19_eq : lowF Tryz.prog o_f19 19 = some c_f19.raw := by kernel_rfl
theorem c_f19_ok : c_f19.code.okc = true := by kernel_rfl
/-! slices.Clone[[]string,string] -/
def r_f37_0 : List SOp :=
   [.op ⟨(some 2), (.mv (.av (.sl [] 0 (some 0)))), none⟩]
def r_f37_1 : List SOp :=
   [.op ⟨(some 3), (.mv (.tmp 0)), none⟩,
    .op ⟨(some 4), (.slnil false (.tmp 3)), none⟩]
def r_f37_2 : List SOp :=
   [.op ⟨(some 2), (.mv (.av (.sl [] 0 (some 0)))), none⟩]
def r_f37_3 : List SOp :=
   [.op ⟨(some 5), (.bslice false 1 0 [] []), none⟩,
    .op ⟨(some 6), (.mv (.tmp 0)), none⟩,
    .op ⟨(some 7), (.app 1 1 16 [(.str [])] (.tmp 5) (.tmp 6)), none⟩,
    .op ⟨(some 2), (.mv (.tmp 7)), none⟩]
def c_f37 : LFun := ⟨8, (.seq (.sreg r_f37_0 [])
  (.seq (.seq (.sreg r_f37_1 [true, false])
  (.cond (.tmp 4) (.seq (.sreg r_f37_2 [])
  .ret)
  .skip))
  (.seq (.sreg r_f37_3 [true, false, false, false])
  .ret))), [(.tmp 2)]⟩
def o_f37 : Nat → Nat → Nat := fun _ _ => 1
theorem c_f37_eq : lowF Tryz.prog o_f37 37 = some c_f37.raw := by kernel_rfl
theorem c_f37_ok : c_f37.code.okc = true := by kernel_rfl
/-! castellan/entry.Get -/
def r_f38_0 : List SOp :=
   [.op ⟨(some 4), (.mv (.av (.sl [] 0 (some 0)))), none⟩]
def r_f38_1 : List SOp :=
   [.op ⟨(some 8), (.mv (.tmp 0)), none⟩,
    .op ⟨(some 9), (.mv (.tmp 1)), none⟩,
    .op ⟨(some 10), (.call 77 [(.tmp 8), (.tmp 9)]), none⟩,
    .op ⟨(some 7), (.mv (.tmp 10)), none⟩,
    .op ⟨(some 11), (.extract (.tmp 7) 0), none⟩,
    .op ⟨(some 12), (.extract (.tmp 7) 1), none⟩,
    .op ⟨(some 5), (.mv (.tmp 11)), none⟩,
    .op ⟨(some 6), (.mv (.tmp 12)), none⟩]
def r_f38_2 : List SOp :=
   [.op ⟨(some 13), (.mv (.tmp 6)), none⟩]
def r_f38_3 : List SOp :=
   [.op ⟨(some 14), (.mv (.tmp 0)), none⟩,
    .op ⟨(some 15), (.mv (.tmp 5)), none⟩,
    .op ⟨(some 16), (.iaddr 2 (.tmp 14) (.tmp 15)), none⟩,
    .op ⟨(some 17), (.faddr 1 (.tmp 16)), none⟩,
    .op ⟨(some 18), (.load false 1 (.tmp 17)), none⟩,
    .op ⟨(some 19), (.call 37 [(.tmp 18)]), none⟩,
    .op ⟨(some 4), (.mv (.tmp 19)), none⟩]
def r_f38_4 : List SOp :=
   [.op ⟨(some 4), (.mv (.av (.sl [] 0 (some 0)))), none⟩]
def c_f38 : LFun := ⟨20, (.seq (.sreg r_f38_0 [])
  (.seq (.seq (.sreg r_f38_1 [true, true, false, false, false, false, false, false])
  (.seq (.sreg r_f38_2 [])
  (.cond (.tmp 13) (.seq (.sreg r_f38_3 [true, false, false, false, false, false, false])
  .ret)
  .skip)))
  (.seq (.sreg r_f38_4 [])
  .ret))), [(.tmp 4)]⟩
def o_f38 : Nat → Nat → Nat := fun _ _ => 1
theorem c_f38_eq : lowF Tryz.prog o_f38 38 = some c_f38.raw := by kernel_rfl
theorem c_f38_ok : c_f38.code.okc = true := by kernel_rfl
/-! (*castellan/index.Index).Put$1 -/
def r_f40_0 : List SOp :=
   [.op ⟨(some 3), (.box (.tmp 0)), none⟩]
def r_f40_1 : List SOp :=
   [.op ⟨(some 4), (.load false 1 (.tmp 1)), none⟩,
    .op ⟨(some 5), (.nilchk (.tmp 4)), none⟩,
    .op ⟨(some 6), (.faddr 3 (.tmp 5)), none⟩,
    .op ⟨(some 7), (.load false 1 (.tmp 6)), none⟩,
    .op ⟨(some 8), (.load true 3 (.tmp 3)), none⟩,
    .op ⟨(some 9), (.mget (.st [.str, .bool, .str]) false .nilmap (.tmp 7) (.tmp 8)), none⟩,
    .op ⟨(some 10), (.eqk false .map (.tmp 9) (.av .nilmap)), none⟩]
def r_f40_2 : List (LOper × Kd) :=
   [(⟨(some 11), (.load false 1 (.tmp 1)), none⟩, (.read 0 1)),
    (⟨(some 12), (.nilchk (.tmp 11)), none⟩, (.read 0 1)),
    (⟨(some 13), (.faddr 3 (.tmp 12)), none⟩, .pure),
    (⟨(some 14), (.load false 1 (.tmp 13)), none⟩, (.read 0 1)),
    (⟨(some 15), (.load true 3 (.tmp 3)), none⟩, (.read 0 1)),
    (⟨(some 16), .mkmap, none⟩, .eff)]
def r_f40_2t : List LOper :=
   [⟨none, (.mset (.st [.str, .bool, .str]) (.tmp 14) (.tmp 15) (.tmp 16)), none⟩]
def r_f40_3 : List (LOper × Kd) :=
   [(⟨(some 17), (.load false 1 (.tmp 1)), none⟩, (.read 0 0)),
    (⟨(some 18), (.nilchk (.tmp 17)), none⟩, (.read 0 0)),
    (⟨(some 19), (.faddr 3 (.tmp 18)), none⟩, .pure),
    (⟨(some 20), (.load false 1 (.tmp 19)), none⟩, (.read 0 0)),
    (⟨(some 21), (.load true 3 (.tmp 3)), none⟩, (.read 0 0)),
    (⟨(some 22), (.mget (.st [.str, .bool, .str]) false .nilmap (.tmp 20) (.tmp 21)), none⟩, (.read 0 0)),
    (⟨(some 23), (.load false 1 (.tmp 2)), none⟩, (.read 0 0))]
def r_f40_3t : List LOper :=
   [⟨none, (.mset .int (.tmp 22) (.tmp 23) (.av (.bool true))), none⟩]
def c_f40 : LFun := ⟨24, (.seq (.sreg r_f40_0 [])
  (.seq (.seq (.sdreg r_f40_1 [(.read 0 0), (.read 0 0), .pure, (.read 0 0), (.read 0 0)] [true, false, false, false, false, false, false])
  (.cond (.tmp 10) (.dregM r_f40_2 r_f40_2t [false, false, false, false, false, false])
  .skip))
  (.dregM r_f40_3 r_f40_3t [false, false, false, false, false, false, false]))), []⟩
def o_f40 : Nat → Nat → Nat := fun _ _ => 1
theorem c_f40_eq : lowF Tryz.prog o_f40 40 = some c_f40.raw := by kernel_rfl
theorem c_f40_ok : c_f40.code.okc = true := by kernel_rfl
/-! (*castellan/index.Index).each -/
def r_f39_0 : List SOp :=
   [.op ⟨(some 14), (.mv (.tmp 0)), none⟩,
    .op ⟨(some 15), (.nilchk (.tmp 14)), none⟩,
    .op ⟨(some 16), (.faddr 0 (.tmp 15)), none⟩,
    .op ⟨(some 17), (.load false 1 (.tmp 16)), none⟩,
    .op ⟨(some 18), (.mrange (.tmp 17)), none⟩]
def r_f39_1 : List SOp :=
   [.op ⟨(some 19), (.mnext (.tmp 18)), none⟩,
    .op ⟨(some 20), (.extract (.tmp 19) 0), none⟩]
def r_f39_2 : List SOp :=
   [.op ⟨(some 21), (.mentry (.tmp 18)), none⟩,
    .op ⟨(some 22), (.extract (.tmp 21) 0), none⟩,
    .op ⟨(some 23), (.extract (.tmp 21) 1), none⟩,
    .op ⟨(some 7), (.alloc [(.str []), (.int .i64 0), (.bool false), (.bool false)]), none⟩,
    .op ⟨(some 6), (.mv (.tmp 22)), none⟩,
    .op ⟨none, (.store 4 (.tmp 7) (.tmp 23)), none⟩]
def r_f39_3 : List SOp :=
   [.op ⟨(some 24), (.mv (.tmp 1)), none⟩,
    .op ⟨(some 25), (.mv (.tmp 6)), none⟩,
    .op ⟨(some 26), (.call 38 [(.tmp 24), (.tmp 25)]), none⟩,
    .op ⟨(some 27), (.len false (.tmp 26)), none⟩,
    .op ⟨(some 28), (.mv (.av (.int .i64 0))), none⟩]
def r_f39_4 : List SOp :=
   [.op ⟨(some 29), (.bin .lss (.tmp 28) (.tmp 27)), none⟩]
def r_f39_5 : List SOp :=
   [.op ⟨(some 30), (.iaddr 1 (.tmp 26) (.tmp 28)), none⟩,
    .op ⟨(some 31), (.load false 1 (.tmp 30)), none⟩,
    .op ⟨(some 9), (.mv (.tmp 31)), none⟩]
def r_f39_6 : List SOp :=
   [.op ⟨(some 33), (.faddr 1 (.tmp 7)), none⟩,
    .op ⟨(some 34), (.load false 1 (.tmp 33)), none⟩,
    .op ⟨(some 35), (.mv (.tmp 9)), none⟩,
    .op ⟨(some 36), (.call 8 [(.tmp 34), (.tmp 35)]), none⟩,
    .op ⟨(some 32), (.mv (.tmp 36)), none⟩,
    .op ⟨(some 37), (.extract (.tmp 32) 0), none⟩,
    .op ⟨(some 38), (.extract (.tmp 32) 1), none⟩,
    .op ⟨(some 10), (.mv (.tmp 37)), none⟩,
    .op ⟨(some 11), (.mv (.tmp 38)), none⟩]
def r_f39_7 : List SOp :=
   [.op ⟨(some 39), (.mv (.tmp 11)), none⟩,
    .op ⟨(some 40), (.un .not (.tmp 39)), none⟩]
def r_f39_8 : List SOp :=
   [.op ⟨(some 41), (.mv (.tmp 2)), none⟩,
    .op ⟨(some 42), (.mv (.tmp 6)), none⟩,
    .op ⟨(some 43), (.mv (.tmp 10)), none⟩,
    .op ⟨(some 44), (.build [(.str []), (.bool false), (.str [])] [(0, 1, (.tmp 42)), (1, 1, (.av (.bool false))), (2, 1, (.tmp 43))]), none⟩,
    .op ⟨(some 45), (.callv (.tmp 41) [(.tmp 44)]), none⟩]
def r_f39_9 : List SOp :=
   [.op ⟨(some 46), (.mv (.tmp 10)), none⟩,
    .op ⟨(some 47), (.call 49 [(.tmp 46)]), none⟩,
    .op ⟨(some 48), (.len false (.tmp 47)), none⟩,
    .op ⟨(some 49), (.mv (.av (.int .i64 0))), none⟩]
def r_f39_10 : List SOp :=
   [.op ⟨(some 50), (.bin .lss (.tmp 49) (.tmp 48)), none⟩]
def r_f39_11 : List SOp :=
   [.op ⟨(some 51), (.iaddr 1 (.tmp 47) (.tmp 49)), none⟩,
    .op ⟨(some 52), (.load false 1 (.tmp 51)), none⟩,
    .op ⟨(some 13), (.mv (.tmp 52)), none⟩]
def r_f39_12 : List SOp :=
   [.op ⟨(some 53), (.mv (.tmp 2)), none⟩,
    .op ⟨(some 54), (.mv (.tmp 6)), none⟩,
    .op ⟨(some 55), (.mv (.tmp 13)), none⟩,
    .op ⟨(some 56), (.build [(.str []), (.bool false), (.str [])] [(0, 1, (.tmp 54)), (1, 1, (.av (.bool true))), (2, 1, (.tmp 55))]), none⟩,
    .op ⟨(some 57), (.callv (.tmp 53) [(.tmp 56)]), none⟩]
def r_f39_13 : List SOp :=
   [.op ⟨(some 58), (.bin .add (.tmp 49) (.av (.int .i64 1))), none⟩,
    .op ⟨(some 49), (.mv (.tmp 58)), none⟩]
def r_f39_14 : List SOp :=
   [.op ⟨(some 59), (.bin .add (.tmp 28) (.av (.int .i64 1))), none⟩,
    .op ⟨(some 28), (.mv (.tmp 59)), none⟩]
def c_f39 : LFun := ⟨60, (.seq (.sreg r_f39_0 [true, false, false, false, false])
  (.block 0 (.loop (.seq (.sreg r_f39_1 [true, false])
  (.seq (.cond (.tmp 20) .skip
  (.exit 0))
  (.block 1 (.seq (.sreg r_f39_2 [true, true, false, false, false])
  (.seq (.sreg r_f39_3 [true, true, true, false, false])
  (.block 2 (.loop (.seq (.sreg r_f39_4 [])
  (.seq (.cond (.tmp 29) .skip
  (.exit 2))
  (.seq (.block 3 (.seq (.sreg r_f39_5 [true, false, false])
  (.seq (.sreg r_f39_6 [true, true, false, false, false, false, false, false, false])
  (.seq (.seq (.sreg r_f39_7 [true, false])
  (.cond (.tmp 40) (.exit 3)
  .skip))
  (.seq (.sreg r_f39_8 [false, false, false, false, false])
  (.seq (.sreg r_f39_9 [true, true, true, false])
  (.block 4 (.loop (.seq (.sreg r_f39_10 [])
  (.seq (.cond (.tmp 50) .skip
  (.exit 4))
  (.seq (.block 5 (.seq (.sreg r_f39_11 [true, false, false])
  (.sreg r_f39_12 [false, false, false, false, false])))
  (.sreg r_f39_13 [true, false]))))))))))))
  (.sreg r_f39_14 [true, false])))))))))))))), []⟩
def o_f39 : Nat → Nat → Nat := fun _ _ => 1
theorem c_f39_eq : lowF Tryz.prog o_f39 39 = some c_f39.raw := by kernel_rfl
theorem c_f39_ok : c_f39.code.okc = true := by kernel_rfl
/-! castellan/castellanref13.Core -/
def r_f43_0 : List SOp :=
   [.op ⟨(some 0), (.alloc [(.sl [] 0 (some 0)), (.sl [] 0 (some 0))]), none⟩]
def r_f43_1 : List SOp :=
   [.op ⟨(some 1), (.alloc [(.sl [] 0 (some 0)), (.sl [] 0 (some 0))]), none⟩]
def r_f43_2 : List SOp :=
   [.op ⟨(some 5), (.faddr 0 (.tmp 1)), none⟩,
    .op ⟨(some 6), (.load false 1 (.tmp 5)), none⟩,
    .op ⟨(some 7), (.bslice false 1 1 [(.str [])] [(0, 1, (.av (.str [111, 98, 106, 101, 99, 116, 67, 108, 97, 115, 115])))]), none⟩,
    .op ⟨(some 8), (.call 79 [(.tmp 6), (.av (.int .i64 3)), (.tmp 7)]), none⟩,
    .op ⟨(some 9), (.faddr 0 (.tmp 1)), none⟩,
    .op ⟨none, (.store 1 (.tmp 9) (.tmp 8)), none⟩]
def r_f43_3 : List SOp :=
   [.op ⟨(some 10), (.faddr 0 (.tmp 1)), none⟩,
    .op ⟨(some 11), (.load false 1 (.tmp 10)), none⟩,
    .op ⟨(some 12), (.bslice false 1 4 [(.str []), (.str []), (.str []), (.str [])] [(0, 1, (.av (.str [99, 110]))), (1, 1, (.av (.str [115, 110]))), (2, 1, (.av (.str [111, 117]))), (3, 1, (.av (.str [111])))]), none⟩,
    .op ⟨(some 13), (.call 79 [(.tmp 11), (.av (.int .i64 1)), (.tmp 12)]), none⟩,
    .op ⟨(some 14), (.faddr 0 (.tmp 1)), none⟩,
    .op ⟨none, (.store 1 (.tmp 14) (.tmp 13)), none⟩]
def r_f43_4 : List SOp :=
   [.op ⟨(some 15), (.faddr 0 (.tmp 1)), none⟩,
    .op ⟨(some 16), (.load false 1 (.tmp 15)), none⟩,
    .op ⟨(some 17), (.bslice false 1 3 [(.str []), (.str []), (.str [])] [(0, 1, (.av (.str [100, 99]))), (1, 1, (.av (.str [117, 105, 100]))), (2, 1, (.av (.str [109, 97, 105, 108])))]), none⟩,
    .op ⟨(some 18), (.call 79 [(.tmp 16), (.av (.int .i64 3)), (.tmp 17)]), none⟩,
    .op ⟨(some 19), (.faddr 0 (.tmp 1)), none⟩,
    .op ⟨none, (.store 1 (.tmp 19) (.tmp 18)), none⟩]
def r_f43_5 : List SOp :=
   [.op ⟨(some 20), (.faddr 0 (.tmp 1)), none⟩,
    .op ⟨(some 21), (.load false 1 (.tmp 20)), none⟩,
    .op ⟨(some 22), (.bslice false 1 1 [(.str [])] [(0, 1, (.av (.str [100, 101, 115, 99, 114, 105, 112, 116, 105, 111, 110])))]), none⟩,
    .op ⟨(some 23), (.call 79 [(.tmp 21), (.av (.int .i64 1)), (.tmp 22)]), none⟩,
    .op ⟨(some 24), (.faddr 0 (.tmp 1)), none⟩,
    .op ⟨none, (.store 1 (.tmp 24) (.tmp 23)), none⟩]
def r_f43_6 : List SOp :=
   [.op ⟨(some 25), (.faddr 0 (.tmp 1)), none⟩,
    .op ⟨(some 26), (.load false 1 (.tmp 25)), none⟩,
    .op ⟨(some 27), (.bslice false 1 1 [(.str [])] [(0, 1, (.av (.str [109, 101, 109, 98, 101, 114])))]), none⟩,
    .op ⟨(some 28), (.call 79 [(.tmp 26), (.av (.int .i64 6)), (.tmp 27)]), none⟩,
    .op ⟨(some 29), (.faddr 0 (.tmp 1)), none⟩,
    .op ⟨none, (.store 1 (.tmp 29) (.tmp 28)), none⟩]
def r_f43_7 : List SOp :=
   [.op ⟨(some 30), (.faddr 0 (.tmp 1)), none⟩,
    .op ⟨(some 31), (.load false 1 (.tmp 30)), none⟩,
    .op ⟨(some 32), (.bslice false 1 1 [(.str [])] [(0, 1, (.av (.str [117, 115, 101, 114, 80, 97, 115, 115, 119, 111, 114, 100])))]), none⟩,
    .op ⟨(some 33), (.call 79 [(.tmp 31), (.av (.int .i64 7)), (.tmp 32)]), none⟩,
    .op ⟨(some 34), (.faddr 0 (.tmp 1)), none⟩,
    .op ⟨none, (.store 1 (.tmp 34) (.tmp 33)), none⟩]
def r_f43_8 : List SOp :=
   [.op ⟨(some 35), (.faddr 0 (.tmp 1)), none⟩,
    .op ⟨(some 36), (.load false 1 (.tmp 35)), none⟩,
    .op ⟨(some 37), (.build [(.str []), (.int .i64 0), (.bool false), (.bool false)] [(0, 1, (.av (.str [101, 109, 112, 108, 111, 121, 101, 101, 78, 117, 109, 98, 101, 114]))), (1, 1, (.av (.int .i64 4))), (2, 1, (.av (.bool true)))]), none⟩,
    .op ⟨(some 38), (.bslice false 4 1 [(.str []), (.int .i64 0), (.bool false), (.bool false)] [(0, 4, (.tmp 37))]), none⟩,
    .op ⟨(some 39), (.app 1 4 32 [(.str []), (.int .i64 0), (.bool false), (.bool false)] (.tmp 36) (.tmp 38)), none⟩,
    .op ⟨(some 40), (.faddr 0 (.tmp 1)), none⟩,
    .op ⟨none, (.store 1 (.tmp 40) (.tmp 39)), none⟩]
def r_f43_9 : List SOp :=
   [.op ⟨(some 41), (.faddr 0 (.tmp 1)), none⟩,
    .op ⟨(some 42), (.load false 1 (.tmp 41)), none⟩,
    .op ⟨(some 43), (.build [(.str []), (.int .i64 0), (.bool false), (.bool false)] [(0, 1, (.av (.str [97, 99, 116, 105, 118, 101]))), (1, 1, (.av (.int .i64 5))), (2, 1, (.av (.bool true)))]), none⟩,
    .op ⟨(some 44), (.bslice false 4 1 [(.str []), (.int .i64 0), (.bool false), (.bool false)] [(0, 4, (.tmp 43))]), none⟩,
    .op ⟨(some 45), (.app 1 4 32 [(.str []), (.int .i64 0), (.bool false), (.bool false)] (.tmp 42) (.tmp 44)), none⟩,
    .op ⟨(some 46), (.faddr 0 (.tmp 1)), none⟩,
    .op ⟨none, (.store 1 (.tmp 46) (.tmp 45)), none⟩]
def r_f43_10 : List SOp :=
   [.op ⟨(some 47), (.bslice false 1 5 [(.str []), (.str []), (.str []), (.str []), (.str [])] [(0, 1, (.av (.str [99, 114, 101, 97, 116, 101, 100, 65, 116]))), (1, 1, (.av (.str [99, 104, 97, 110, 103, 101, 100, 65, 116]))), (2, 1, (.av (.str [112, 119, 100, 70, 97, 105, 108, 117, 114, 101]))), (3, 1, (.av (.str [112, 119, 100, 76, 111, 99, 107, 101, 100]))), (4, 1, (.av (.str [112, 119, 100, 67, 104, 97, 110, 103, 101, 100])))]), none⟩,
    .op ⟨(some 48), (.len false (.tmp 47)), none⟩,
    .op ⟨(some 49), (.mv (.av (.int .i64 0))), none⟩]
def r_f43_11 : List SOp :=
   [.op ⟨(some 50), (.bin .lss (.tmp 49) (.tmp 48)), none⟩]
def r_f43_12 : List SOp :=
   [.op ⟨(some 51), (.iaddr 1 (.tmp 47) (.tmp 49)), none⟩,
    .op ⟨(some 52), (.load false 1 (.tmp 51)), none⟩,
    .op ⟨(some 3), (.mv (.tmp 52)), none⟩]
def r_f43_13 : List SOp :=
   [.op ⟨(some 53), (.mv (.tmp 3)), none⟩,
    .op ⟨(some 54), (.build [(.str []), (.int .i64 0), (.bool false), (.bool false)] [(0, 1, (.tmp 53)), (1, 1, (.av (.int .i64 4))), (2, 1, (.av (.bool true))), (3, 1, (.av (.bool true)))]), none⟩,
    .op ⟨(some 4), (.alloc [(.str []), (.int .i64 0), (.bool false), (.bool false)]), none⟩,
    .op ⟨none, (.store 4 (.tmp 4) (.tmp 54)), none⟩]
def r_f43_14 : List SOp :=
   [.op ⟨(some 55), (.mv (.tmp 3)), none⟩,
    .op ⟨(some 56), (.bin .eql (.tmp 55) (.av (.str [112, 119, 100, 70, 97, 105, 108, 117, 114, 101]))), none⟩]
def r_f43_15 : List SOp :=
   [.op ⟨(some 57), (.faddr 1 (.tmp 4)), none⟩,
    .op ⟨none, (.store 1 (.tmp 57) (.av (.int .i64 3))), none⟩]
def r_f43_16 : List SOp :=
   [.op ⟨(some 58), (.faddr 2 (.tmp 4)), none⟩,
    .op ⟨none, (.store 1 (.tmp 58) (.av (.bool false))), none⟩]
def r_f43_17 : List SOp :=
   [.op ⟨(some 59), (.faddr 0 (.tmp 1)), none⟩,
    .op ⟨(some 60), (.load false 1 (.tmp 59)), none⟩,
    .op ⟨(some 61), (.load true 4 (.tmp 4)), none⟩,
    .op ⟨(some 62), (.bslice false 4 1 [(.str []), (.int .i64 0), (.bool false), (.bool false)] [(0, 4, (.tmp 61))]), none⟩,
    .op ⟨(some 63), (.app 1 4 32 [(.str []), (.int .i64 0), (.bool false), (.bool false)] (.tmp 60) (.tmp 62)), none⟩,
    .op ⟨(some 64), (.faddr 0 (.tmp 1)), none⟩,
    .op ⟨none, (.store 1 (.tmp 64) (.tmp 63)), none⟩]
def r_f43_18 : List SOp :=
   [.op ⟨(some 65), (.bin .add (.tmp 49) (.av (.int .i64 1))), none⟩,
    .op ⟨(some 49), (.mv (.tmp 65)), none⟩]
def r_f43_19 : List SOp :=
   [.op ⟨(some 66), (.faddr 1 (.tmp 1)), none⟩,
    .op ⟨(some 67), (.load false 1 (.tmp 66)), none⟩,
    .op ⟨(some 68), (.bslice false 1 1 [(.str [])] [(0, 1, (.av (.str [111, 98, 106, 101, 99, 116, 67, 108, 97, 115, 115])))]), none⟩,
    .op ⟨(some 69), (.bslice false 1 5 [(.str []), (.str []), (.str []), (.str []), (.str [])] [(0, 1, (.av (.str [99, 114, 101, 97, 116, 101, 100, 65, 116]))), (1, 1, (.av (.str [99, 104, 97, 110, 103, 101, 100, 65, 116]))), (2, 1, (.av (.str [112, 119, 100, 70, 97, 105, 108, 117, 114, 101]))), (3, 1, (.av (.str [112, 119, 100, 76, 111, 99, 107, 101, 100]))), (4, 1, (.av (.str [112, 119, 100, 67, 104, 97, 110, 103, 101, 100])))]), none⟩,
    .op ⟨(some 70), (.build [(.str []), (.str []), (.int .i64 0), (.sl [] 0 (some 0)), (.sl [] 0 (some 0))] [(0, 1, (.av (.str [116, 111, 112]))), (3, 1, (.tmp 68)), (4, 1, (.tmp 69))]), none⟩,
    .op ⟨(some 71), (.bslice false 5 1 [(.str []), (.str []), (.int .i64 0), (.sl [] 0 (some 0)), (.sl [] 0 (some 0))] [(0, 5, (.tmp 70))]), none⟩,
    .op ⟨(some 72), (.app 1 5 88 [(.str []), (.str []), (.int .i64 0), (.sl [] 0 (some 0)), (.sl [] 0 (some 0))] (.tmp 67) (.tmp 71)), none⟩,
    .op ⟨(some 73), (.faddr 1 (.tmp 1)), none⟩,
    .op ⟨none, (.store 1 (.tmp 73) (.tmp 72)), none⟩]
def r_f43_20 : List SOp :=
   [.op ⟨(some 74), (.faddr 1 (.tmp 1)), none⟩,
    .op ⟨(some 75), (.load false 1 (.tmp 74)), none⟩,
    .op ⟨(some 76), (.bslice false 1 1 [(.str [])] [(0, 1, (.av (.str [100, 99])))]), none⟩,
    .op ⟨(some 77), (.bslice false 1 1 [(.str [])] [(0, 1, (.av (.str [100, 101, 115, 99, 114, 105, 112, 116, 105, 111, 110])))]), none⟩,
    .op ⟨(some 78), (.build [(.str []), (.str []), (.int .i64 0), (.sl [] 0 (some 0)), (.sl [] 0 (some 0))] [(0, 1, (.av (.str [100, 111, 109, 97, 105, 110]))), (1, 1, (.av (.str [116, 111, 112]))), (2, 1, (.av (.int .i64 1))), (3, 1, (.tmp 76)), (4, 1, (.tmp 77))]), none⟩,
    .op ⟨(some 79), (.bslice false 5 1 [(.str []), (.str []), (.int .i64 0), (.sl [] 0 (some 0)), (.sl [] 0 (some 0))] [(0, 5, (.tmp 78))]), none⟩,
    .op ⟨(some 80), (.app 1 5 88 [(.str []), (.str []), (.int .i64 0), (.sl [] 0 (some 0)), (.sl [] 0 (some 0))] (.tmp 75) (.tmp 79)), none⟩,
    .op ⟨(some 81), (.faddr 1 (.tmp 1)), none⟩,
    .op ⟨none, (.store 1 (.tmp 81) (.tmp 80)), none⟩]
def r_f43_21 : List SOp :=
   [.op ⟨(some 82), (.faddr 1 (.tmp 1)), none⟩,
    .op ⟨(some 83), (.load false 1 (.tmp 82)), none⟩,
    .op ⟨(some 84), (.bslice false 1 1 [(.str [])] [(0, 1, (.av (.str [111])))]), none⟩,
    .op ⟨(some 85), (.bslice false 1 1 [(.str [])] [(0, 1, (.av (.str [100, 101, 115, 99, 114, 105, 112, 116, 105, 111, 110])))]), none⟩,
    .op ⟨(some 86), (.build [(.str []), (.str []), (.int .i64 0), (.sl [] 0 (some 0)), (.sl [] 0 (some 0))] [(0, 1, (.av (.str [111, 114, 103, 97, 110, 105, 122, 97, 116, 105, 111, 110]))), (1, 1, (.av (.str [116, 111, 112]))), (2, 1, (.av (.int .i64 1))), (3, 1, (.tmp 84)), (4, 1, (.tmp 85))]), none⟩,
    .op ⟨(some 87), (.bslice false 5 1 [(.str []), (.str []), (.int .i64 0), (.sl [] 0 (some 0)), (.sl [] 0 (some 0))] [(0, 5, (.tmp 86))]), none⟩,
    .op ⟨(some 88), (.app 1 5 88 [(.str []), (.str []), (.int .i64 0), (.sl [] 0 (some 0)), (.sl [] 0 (some 0))] (.tmp 83) (.tmp 87)), none⟩,
    .op ⟨(some 89), (.faddr 1 (.tmp 1)), none⟩,
    .op ⟨none, (.store 1 (.tmp 89) (.tmp 88)), none⟩]
def r_f43_22 : List SOp :=
   [.op ⟨(some 90), (.faddr 1 (.tmp 1)), none⟩,
    .op ⟨(some 91), (.load false 1 (.tmp 90)), none⟩,
    .op ⟨(some 92), (.bslice false 1 1 [(.str [])] [(0, 1, (.av (.str [111, 117])))]), none⟩,
    .op ⟨(some 93), (.bslice false 1 1 [(.str [])] [(0, 1, (.av (.str [100, 101, 115, 99, 114, 105, 112, 116, 105, 111, 110])))]), none⟩,
    .op ⟨(some 94), (.build [(.str []), (.str []), (.int .i64 0), (.sl [] 0 (some 0)), (.sl [] 0 (some 0))] [(0, 1, (.av (.str [111, 114, 103, 97, 110, 105, 122, 97, 116, 105, 111, 110, 97, 108, 85, 110, 105, 116]))), (1, 1, (.av (.str [116, 111, 112]))), (2, 1, (.av (.int .i64 1))), (3, 1, (.tmp 92)), (4, 1, (.tmp 93))]), none⟩,
    .op ⟨(some 95), (.bslice false 5 1 [(.str []), (.str []), (.int .i64 0), (.sl [] 0 (some 0)), (.sl [] 0 (some 0))] [(0, 5, (.tmp 94))]), none⟩,
    .op ⟨(some 96), (.app 1 5 88 [(.str []), (.str []), (.int .i64 0), (.sl [] 0 (some 0)), (.sl [] 0 (some 0))] (.tmp 91) (.tmp 95)), none⟩,
    .op ⟨(some 97), (.faddr 1 (.tmp 1)), none⟩,
    .op ⟨none, (.store 1 (.tmp 97) (.tmp 96)), none⟩]
def r_f43_23 : List SOp :=
   [.op ⟨(some 98), (.faddr 1 (.tmp 1)), none⟩,
    .op ⟨(some 99), (.load false 1 (.tmp 98)), none⟩,
    .op ⟨(some 100), (.bslice false 1 2 [(.str []), (.str [])] [(0, 1, (.av (.str [99, 110]))), (1, 1, (.av (.str [115, 110])))]), none⟩,
    .op ⟨(some 101), (.bslice false 1 2 [(.str []), (.str [])] [(0, 1, (.av (.str [100, 101, 115, 99, 114, 105, 112, 116, 105, 111, 110]))), (1, 1, (.av (.str [117, 115, 101, 114, 80, 97, 115, 115, 119, 111, 114, 100])))]), none⟩,
    .op ⟨(some 102), (.build [(.str []), (.str []), (.int .i64 0), (.sl [] 0 (some 0)), (.sl [] 0 (some 0))] [(0, 1, (.av (.str [112, 101, 114, 115, 111, 110]))), (1, 1, (.av (.str [116, 111, 112]))), (2, 1, (.av (.int .i64 1))), (3, 1, (.tmp 100)), (4, 1, (.tmp 101))]), none⟩,
    .op ⟨(some 103), (.bslice false 5 1 [(.str []), (.str []), (.int .i64 0), (.sl [] 0 (some 0)), (.sl [] 0 (some 0))] [(0, 5, (.tmp 102))]), none⟩,
    .op ⟨(some 104), (.app 1 5 88 [(.str []), (.str []), (.int .i64 0), (.sl [] 0 (some 0)), (.sl [] 0 (some 0))] (.tmp 99) (.tmp 103)), none⟩,
    .op ⟨(some 105), (.faddr 1 (.tmp 1)), none⟩,
    .op ⟨none, (.store 1 (.tmp 105) (.tmp 104)), none⟩]
def r_f43_24 : List SOp :=
   [.op ⟨(some 106), (.faddr 1 (.tmp 1)), none⟩,
    .op ⟨(some 107), (.load false 1 (.tmp 106)), none⟩,
    .op ⟨(some 108), (.bslice false 1 4 [(.str []), (.str []), (.str []), (.str [])] [(0, 1, (.av (.str [117, 105, 100]))), (1, 1, (.av (.str [109, 97, 105, 108]))), (2, 1, (.av (.str [101, 109, 112, 108, 111, 121, 101, 101, 78, 117, 109, 98, 101, 114]))), (3, 1, (.av (.str [97, 99, 116, 105, 118, 101])))]), none⟩,
    .op ⟨(some 109), (.build [(.str []), (.str []), (.int .i64 0), (.sl [] 0 (some 0)), (.sl [] 0 (some 0))] [(0, 1, (.av (.str [105, 110, 101, 116, 80, 101, 114, 115, 111, 110]))), (1, 1, (.av (.str [112, 101, 114, 115, 111, 110]))), (2, 1, (.av (.int .i64 1))), (4, 1, (.tmp 108))]), none⟩,
    .op ⟨(some 110), (.bslice false 5 1 [(.str []), (.str []), (.int .i64 0), (.sl [] 0 (some 0)), (.sl [] 0 (some 0))] [(0, 5, (.tmp 109))]), none⟩,
    .op ⟨(some 111), (.app 1 5 88 [(.str []), (.str []), (.int .i64 0), (.sl [] 0 (some 0)), (.sl [] 0 (some 0))] (.tmp 107) (.tmp 110)), none⟩,
    .op ⟨(some 112), (.faddr 1 (.tmp 1)), none⟩,
    .op ⟨none, (.store 1 (.tmp 112) (.tmp 111)), none⟩]
def r_f43_25 : List SOp :=
   [.op ⟨(some 113), (.faddr 1 (.tmp 1)), none⟩,
    .op ⟨(some 114), (.load false 1 (.tmp 113)), none⟩,
    .op ⟨(some 115), (.bslice false 1 2 [(.str []), (.str [])] [(0, 1, (.av (.str [99, 110]))), (1, 1, (.av (.str [109, 101, 109, 98, 101, 114])))]), none⟩,
    .op ⟨(some 116), (.bslice false 1 1 [(.str [])] [(0, 1, (.av (.str [100, 101, 115, 99, 114, 105, 112, 116, 105, 111, 110])))]), none⟩,
    .op ⟨(some 117), (.build [(.str []), (.str []), (.int .i64 0), (.sl [] 0 (some 0)), (.sl [] 0 (some 0))] [(0, 1, (.av (.str [103, 114, 111, 117, 112]))), (1, 1, (.av (.str [116, 111, 112]))), (2, 1, (.av (.int .i64 1))), (3, 1, (.tmp 115)), (4, 1, (.tmp 116))]), none⟩,
    .op ⟨(some 118), (.bslice false 5 1 [(.str []), (.str []), (.int .i64 0), (.sl [] 0 (some 0)), (.sl [] 0 (some 0))] [(0, 5, (.tmp 117))]), none⟩,
    .op ⟨(some 119), (.app 1 5 88 [(.str []), (.str []), (.int .i64 0), (.sl [] 0 (some 0)), (.sl [] 0 (some 0))] (.tmp 114) (.tmp 118)), none⟩,
    .op ⟨(some 120), (.faddr 1 (.tmp 1)), none⟩,
    .op ⟨none, (.store 1 (.tmp 120) (.tmp 119)), none⟩]
def r_f43_26 : List SOp :=
   [.op ⟨(some 121), (.faddr 1 (.tmp 1)), none⟩,
    .op ⟨(some 122), (.load false 1 (.tmp 121)), none⟩,
    .op ⟨(some 123), (.bslice false 1 1 [(.str [])] [(0, 1, (.av (.str [117, 115, 101, 114, 80, 97, 115, 115, 119, 111, 114, 100])))]), none⟩,
    .op ⟨(some 124), (.build [(.str []), (.str []), (.int .i64 0), (.sl [] 0 (some 0)), (.sl [] 0 (some 0))] [(0, 1, (.av (.str [115, 101, 99, 117, 114, 101, 100]))), (1, 1, (.av (.str [116, 111, 112]))), (2, 1, (.av (.int .i64 2))), (3, 1, (.tmp 123))]), none⟩,
    .op ⟨(some 125), (.bslice false 5 1 [(.str []), (.str []), (.int .i64 0), (.sl [] 0 (some 0)), (.sl [] 0 (some 0))] [(0, 5, (.tmp 124))]), none⟩,
    .op ⟨(some 126), (.app 1 5 88 [(.str []), (.str []), (.int .i64 0), (.sl [] 0 (some 0)), (.sl [] 0 (some 0))] (.tmp 122) (.tmp 125)), none⟩,
    .op ⟨(some 127), (.faddr 1 (.tmp 1)), none⟩,
    .op ⟨none, (.store 1 (.tmp 127) (.tmp 126)), none⟩]
def r_f43_27 : List SOp :=
   [.op ⟨(some 128), (.faddr 1 (.tmp 1)), none⟩,
    .op ⟨(some 129), (.load false 1 (.tmp 128)), none⟩,
    .op ⟨(some 130), (.bslice false 1 2 [(.str []), (.str [])] [(0, 1, (.av (.str [117, 105, 100]))), (1, 1, (.av (.str [109, 97, 105, 108])))]), none⟩,
    .op ⟨(some 131), (.build [(.str []), (.str []), (.int .i64 0), (.sl [] 0 (some 0)), (.sl [] 0 (some 0))] [(0, 1, (.av (.str [108, 97, 98, 101, 108, 108, 101, 100]))), (1, 1, (.av (.str [116, 111, 112]))), (2, 1, (.av (.int .i64 2))), (4, 1, (.tmp 130))]), none⟩,
    .op ⟨(some 132), (.bslice false 5 1 [(.str []), (.str []), (.int .i64 0), (.sl [] 0 (some 0)), (.sl [] 0 (some 0))] [(0, 5, (.tmp 131))]), none⟩,
    .op ⟨(some 133), (.app 1 5 88 [(.str []), (.str []), (.int .i64 0), (.sl [] 0 (some 0)), (.sl [] 0 (some 0))] (.tmp 129) (.tmp 132)), none⟩,
    .op ⟨(some 134), (.faddr 1 (.tmp 1)), none⟩,
    .op ⟨none, (.store 1 (.tmp 134) (.tmp 133)), none⟩]
def r_f43_28 : List SOp :=
   [.op ⟨(some 135), (.load true 2 (.tmp 1)), none⟩,
    .op ⟨none, (.store 2 (.tmp 0) (.tmp 135)), none⟩]
def c_f43 : LFun := ⟨136, (.seq (.sreg r_f43_0 [])
  (.seq (.sreg r_f43_1 [])
  (.seq (.sreg r_f43_2 [false, false, false, false, false])
  (.seq (.sreg r_f43_3 [false, false, false, false, false])
  (.seq (.sreg r_f43_4 [false, false, false, false, false])
  (.seq (.sreg r_f43_5 [false, false, false, false, false])
  (.seq (.sreg r_f43_6 [false, false, false, false, false])
  (.seq (.sreg r_f43_7 [false, false, false, false, false])
  (.seq (.sreg r_f43_8 [false, false, false, false, false, false])
  (.seq (.sreg r_f43_9 [false, false, false, false, false, false])
  (.seq (.seq (.sreg r_f43_10 [])
  (.block 0 (.loop (.seq (.sreg r_f43_11 [])
  (.seq (.cond (.tmp 50) .skip
  (.exit 0))
  (.seq (.block 1 (.seq (.sreg r_f43_12 [true, false, false])
  (.seq (.sreg r_f43_13 [true, false, false])
  (.seq (.seq (.sreg r_f43_14 [true, false])
  (.cond (.tmp 56) (.seq (.sreg r_f43_15 [false])
  (.sreg r_f43_16 [false]))
  .skip))
  (.sreg r_f43_17 [false, false, false, false, false, false])))))
  (.sreg r_f43_18 [true, false])))))))
  (.seq (.sreg r_f43_19 [false, false, false, false, false, false, false, false])
  (.seq (.sreg r_f43_20 [false, false, false, false, false, false, false, false])
  (.seq (.sreg r_f43_21 [false, false, false, false, false, false, false, false])
  (.seq (.sreg r_f43_22 [false, false, false, false, false, false, false, false])
  (.seq (.sreg r_f43_23 [false, false, false, false, false, false, false, false])
  (.seq (.sreg r_f43_24 [false, false, false, false, false, false, false])
  (.seq (.sreg r_f43_25 [false, false, false, false, false, false, false, false])
  (.seq (.sreg r_f43_26 [false, false, false, false, false, false, false])
  (.seq (.sreg r_f43_27 [false, false, false, false, false, false, false])
  (.seq (.sreg r_f43_28 [false])
  .ret))))))))))))))))))))), [(.cell true 2 0)]⟩
def o_f43 : Nat → Nat → Nat := fun _ _ => 1
theorem c_f43_eq : lowF Tryz.prog o_f43 43 = some c_f43.raw := by kernel_rfl
theorem c_f43_ok : c_f43.code.okc = true := by kernel_rfl
/-! castellan/index.New -/
def r_f42_0 : List SOp :=
   [.op ⟨(some 2), (.box (.tmp 0)), none⟩,
    .op ⟨(some 4), (.mv (.av .nilptr)), none⟩,
    .op ⟨(some 5), (.mv (.av (.int .i64 0))), none⟩]
def r_f42_1 : List SOp :=
   [.op ⟨(some 13), .mkmap, none⟩,
    .op ⟨(some 14), .mkmap, none⟩,
    .op ⟨(some 15), .mkmap, none⟩,
    .op ⟨(some 16), .mkmap, none⟩,
    .op ⟨(some 17), (.build [.nilmap, .nilmap, .nilmap, .nilmap] [(0, 1, (.tmp 13)), (1, 1, (.tmp 14)), (2, 1, (.tmp 15)), (3, 1, (.tmp 16))]), none⟩,
    .op ⟨(some 18), (.box (.tmp 17)), none⟩,
    .op ⟨(some 6), (.mv (.tmp 18)), none⟩]
def r_f42_2 : List SOp :=
   [.op ⟨(some 19), (.mv (.tmp 1)), none⟩,
    .op ⟨(some 20), (.len false (.tmp 19)), none⟩,
    .op ⟨(some 21), (.mv (.av (.int .i64 0))), none⟩]
def r_f42_3 : List SOp :=
   [.op ⟨(some 22), (.bin .lss (.tmp 21) (.tmp 20)), none⟩]
def r_f42_4 : List SOp :=
   [.op ⟨(some 23), (.iaddr 1 (.tmp 19) (.tmp 21)), none⟩,
    .op ⟨(some 24), (.load false 1 (.tmp 23)), none⟩,
    .op ⟨(some 8), (.mv (.tmp 24)), none⟩]
def r_f42_5 : List SOp :=
   [.op ⟨(some 26), (.load true 2 (.tmp 2)), none⟩,
    .op ⟨(some 27), (.mv (.tmp 8)), none⟩,
    .op ⟨(some 28), (.call 78 [(.tmp 26), (.tmp 27)]), none⟩,
    .op ⟨(some 25), (.mv (.tmp 28)), none⟩,
    .op ⟨(some 29), (.extract (.tmp 25) 0), none⟩,
    .op ⟨(some 30), (.extract (.tmp 25) 1), none⟩,
    .op ⟨(some 9), (.alloc [(.str []), (.int .i64 0), (.bool false), (.bool false)]), none⟩,
    .op ⟨none, (.store 4 (.tmp 9) (.tmp 29)), none⟩,
    .op ⟨(some 10), (.mv (.tmp 30)), none⟩]
def r_f42_6 : List (LOper × Kd) :=
   [(⟨(some 32), (.mv (.tmp 6)), none⟩, .pure),
    (⟨(some 33), (.nilchk (.tmp 32)), none⟩, (.read 0 1)),
    (⟨(some 34), (.faddr 0 (.tmp 33)), none⟩, .pure),
    (⟨(some 35), (.load false 1 (.tmp 34)), none⟩, (.read 0 1)),
    (⟨(some 36), (.mv (.tmp 8)), none⟩, .pure),
    (⟨(some 37), (.call 44 [(.tmp 36)]), none⟩, (.read 0 1)),
    (⟨(some 38), (.mget .str true (.agg [(.str []), (.int .i64 0), (.bool false), (.bool false)]) (.tmp 35) (.tmp 37)), none⟩, (.read 0 1)),
    (⟨(some 31), (.mv (.tmp 38)), none⟩, .pure),
    (⟨(some 39), (.extract (.tmp 31) 0), none⟩, .pure),
    (⟨(some 40), (.extract (.tmp 31) 1), none⟩, .pure),
    (⟨(some 11), (.alloc [(.str []), (.int .i64 0), (.bool false), (.bool false)]), none⟩, .eff),
    (⟨none, (.store 4 (.tmp 11) (.tmp 39)), none⟩, .eff)]
def r_f42_6t : List LOper :=
   [⟨(some 12), (.mv (.tmp 40)), none⟩]
def r_f42_7 : List SOp :=
   [.op ⟨(some 42), (.mv (.tmp 10)), none⟩,
    .op ⟨(some 43), (.un .not (.tmp 42)), none⟩,
    .op ⟨(some 41), (.mv (.tmp 43)), none⟩]
def r_f42_8 : List SOp :=
   [.op ⟨(some 4), (.mv (.av .nilptr)), none⟩,
    .op ⟨(some 5), (.mv (.av (.int .i64 20))), none⟩]
def r_f42_9 : List SOp :=
   [.op ⟨(some 45), (.mv (.tmp 12)), none⟩,
    .op ⟨(some 44), (.mv (.tmp 45)), none⟩]
def r_f42_10 : List SOp :=
   [.op ⟨(some 4), (.mv (.av .nilptr)), none⟩,
    .op ⟨(some 5), (.mv (.av (.int .i64 21))), none⟩]
def r_f42_11 : List (LOper × Kd) :=
   [(⟨(some 46), (.mv (.tmp 6)), none⟩, .pure),
    (⟨(some 47), (.nilchk (.tmp 46)), none⟩, (.read 0 0)),
    (⟨(some 48), (.faddr 0 (.tmp 47)), none⟩, .pure),
    (⟨(some 49), (.load false 1 (.tmp 48)), none⟩, (.read 0 0)),
    (⟨(some 50), (.mv (.tmp 8)), none⟩, .pure),
    (⟨(some 51), (.call 44 [(.tmp 50)]), none⟩, (.read 0 0)),
    (⟨(some 52), (.load true 4 (.tmp 9)), none⟩, (.read 0 0))]
def r_f42_11t : List LOper :=
   [⟨none, (.mset .str (.tmp 49) (.tmp 51) (.tmp 52)), none⟩]
def r_f42_12 : List (LOper × Kd) :=
   [(⟨(some 53), (.mv (.tmp 6)), none⟩, .pure),
    (⟨(some 54), (.nilchk (.tmp 53)), none⟩, (.read 0 1)),
    (⟨(some 55), (.faddr 2 (.tmp 54)), none⟩, .pure),
    (⟨(some 56), (.load false 1 (.tmp 55)), none⟩, (.read 0 1)),
    (⟨(some 57), (.mv (.tmp 8)), none⟩, .pure),
    (⟨(some 58), (.call 44 [(.tmp 57)]), none⟩, (.read 0 1)),
    (⟨(some 59), .mkmap, none⟩, .eff)]
def r_f42_12t : List LOper :=
   [⟨none, (.mset .str (.tmp 56) (.tmp 58) (.tmp 59)), none⟩]
def r_f42_13 : List SOp :=
   [.op ⟨(some 60), (.bin .add (.tmp 21) (.av (.int .i64 1))), none⟩,
    .op ⟨(some 21), (.mv (.tmp 60)), none⟩]
def r_f42_14 : List SOp :=
   [.op ⟨(some 61), (.mv (.tmp 6)), none⟩,
    .op ⟨(some 4), (.mv (.tmp 61)), none⟩,
    .op ⟨(some 5), (.mv (.av (.int .i64 0))), none⟩]
def c_f42 : LFun := ⟨62, (.seq (.sreg r_f42_0 [])
  (.seq (.sreg r_f42_1 [true, false, false, false, false, false, false])
  (.seq (.seq (.sreg r_f42_2 [])
  (.block 0 (.loop (.seq (.sreg r_f42_3 [])
  (.seq (.cond (.tmp 22) .skip
  (.exit 0))
  (.seq (.block 1 (.seq (.sreg r_f42_4 [true, false, false])
  (.seq (.sreg r_f42_5 [true, true, false, false, false, false, false, false])
  (.seq (.dregM r_f42_6 r_f42_6t [true, false, false, false, false, false, false, false, false, false, false, false])
  (.seq (.block 2 (.seq (.sreg r_f42_7 [true, false, false])
  (.cond (.tmp 41) (.seq (.sreg r_f42_8 [])
  .ret)
  (.seq (.sreg r_f42_9 [true, false])
  (.cond (.tmp 44) (.seq (.sreg r_f42_10 [])
  .ret)
  .skip)))))
  (.seq (.dregM r_f42_11 r_f42_11t [false, false, false, false, false, false, false])
  (.dregM r_f42_12 r_f42_12t [false, false, false, false, false, false, false])))))))
  (.sreg r_f42_13 [true, false])))))))
  (.seq (.sreg r_f42_14 [true, true, false])
  .ret)))), [(.tmp 4), (.tmp 5)]⟩
def o_f42 : Nat → Nat → Nat := fun _ _ => 1
theorem c_f42_eq : lowF Tryz.prog o_f42 42 = some c_f42.raw := by kernel_rfl
theorem c_f42_ok : c_f42.code.okc = true := by kernel_rfl
/-! castellan/castellanlaw19.Same -/
def r_f21_0 : List SOp :=
   [.op ⟨(some 4), (.mv (.av (.bool false))), none⟩]
def r_f21_1 : List SOp :=
   [.op ⟨(some 6), (.mv (.tmp 0)), none⟩,
    .op ⟨(some 7), (.len false (.tmp 6)), none⟩,
    .op ⟨(some 8), (.mv (.tmp 1)), none⟩,
    .op ⟨(some 9), (.len false (.tmp 8)), none⟩,
    .op ⟨(some 10), (.bin .neq (.tmp 7) (.tmp 9)), none⟩]
def r_f21_2 : List SOp :=
   [.op ⟨(some 4), (.mv (.av (.bool false))), none⟩]
def r_f21_3 : List SOp :=
   [.op ⟨(some 11), (.mv (.tmp 0)), none⟩,
    .op ⟨(some 12), (.len false (.tmp 11)), none⟩,
    .op ⟨(some 13), (.mv (.av (.int .i64 0))), none⟩]
def r_f21_4 : List SOp :=
   [.op ⟨(some 14), (.bin .lss (.tmp 13) (.tmp 12)), none⟩]
def r_f21_5 : List SOp :=
   [.op ⟨(some 15), (.mv (.tmp 13)), none⟩,
    .op ⟨(some 5), (.mv (.tmp 15)), none⟩]
def r_f21_6 : List SOp :=
   [.op ⟨(some 16), (.mv (.tmp 0)), none⟩,
    .op ⟨(some 17), (.mv (.tmp 5)), none⟩,
    .op ⟨(some 18), (.iaddr 1 (.tmp 16) (.tmp 17)), none⟩,
    .op ⟨(some 19), (.load false 1 (.tmp 18)), none⟩,
    .op ⟨(some 20), (.mv (.tmp 1)), none⟩,
    .op ⟨(some 21), (.mv (.tmp 5)), none⟩,
    .op ⟨(some 22), (.iaddr 1 (.tmp 20) (.tmp 21)), none⟩,
    .op ⟨(some 23), (.load false 1 (.tmp 22)), none⟩,
    .op ⟨(some 24), (.bin .neq (.tmp 19) (.tmp 23)), none⟩]
def r_f21_7 : List SOp :=
   [.op ⟨(some 4), (.mv (.av (.bool false))), none⟩]
def r_f21_8 : List SOp :=
   [.op ⟨(some 25), (.bin .add (.tmp 13) (.av (.int .i64 1))), none⟩,
    .op ⟨(some 13), (.mv (.tmp 25)), none⟩]
def r_f21_9 : List SOp :=
   [.op ⟨(some 4), (.mv (.av (.bool true))), none⟩]
def c_f21 : LFun := ⟨26, (.seq (.sreg r_f21_0 [])
  (.seq (.seq (.sreg r_f21_1 [true, false, false, false, false])
  (.cond (.tmp 10) (.seq (.sreg r_f21_2 [])
  .ret)
  .skip))
  (.seq (.seq (.sreg r_f21_3 [true, true, false])
  (.block 0 (.loop (.seq (.sreg r_f21_4 [])
  (.seq (.cond (.tmp 14) .skip
  (.exit 0))
  (.seq (.block 1 (.seq (.sreg r_f21_5 [true, false])
  (.seq (.sdreg r_f21_6 [.pure, .pure, (.read 0 0), (.read 0 0), .pure, .pure, (.read 0 0), (.read 0 0)] [true, false, false, false, false, false, false, false, false])
  (.cond (.tmp 24) (.seq (.sreg r_f21_7 [])
  .ret)
  .skip))))
  (.sreg r_f21_8 [true, false])))))))
  (.seq (.sreg r_f21_9 [])
  .ret)))), [(.tmp 4)]⟩
def o_f21 : Nat → Nat → Nat := fun _ _ => 1
theorem c_f21_eq : lowF Tryz.prog o_f21 21 = some c_f21.raw := by kernel_rfl
theorem c_f21_ok : c_f21.code.okc = true := by kernel_rfl
/-! castellan/octet.Fold -/
def r_f44_0 : List SOp :=
   [.op ⟨(some 2), (.mv (.av (.str []))), none⟩]
def r_f44_1 : List SOp :=
   [.op ⟨(some 6), (.mv (.tmp 0)), none⟩,
    .op ⟨(some 7), (.s2bO (.tmp 6)), none⟩,
    .op ⟨(some 3), (.mv (.tmp 7)), none⟩]
def r_f44_2 : List SOp :=
   [.op ⟨(some 8), (.mv (.tmp 3)), none⟩,
    .op ⟨(some 9), (.len false (.tmp 8)), none⟩,
    .op ⟨(some 10), (.mv (.av (.int .i64 0))), none⟩]
def r_f44_3 : List SOp :=
   [.op ⟨(some 11), (.bin .lss (.tmp 10) (.tmp 9)), none⟩]
def r_f44_4 : List SOp :=
   [.op ⟨(some 12), (.mv (.tmp 10)), none⟩,
    .op ⟨(some 13), (.iaddr 1 (.tmp 8) (.tmp 10)), none⟩,
    .op ⟨(some 14), (.load false 1 (.tmp 13)), none⟩,
    .op ⟨(some 4), (.mv (.tmp 12)), none⟩,
    .op ⟨(some 5), (.mv (.tmp 14)), none⟩]
def r_f44_5 : List SOp :=
   [.op ⟨(some 15), (.mv (.tmp 5)), none⟩,
    .op ⟨(some 16), (.bin .geq (.tmp 15) (.av (.int .u8 65))), none⟩,
    .op ⟨(some 17), (.mv (.tmp 16)), none⟩,
    .grp none 17 true
      [.op ⟨(some 18), (.mv (.tmp 5)), (some (17, true))⟩,
      .op ⟨(some 19), (.bin .leq (.tmp 18) (.av (.int .u8 90))), (some (17, true))⟩]
      20 (.tmp 19)]
def r_f44_6 : List SOp :=
   [.op ⟨(some 21), (.mv (.tmp 3)), none⟩,
    .op ⟨(some 22), (.mv (.tmp 4)), none⟩,
    .op ⟨(some 23), (.mv (.tmp 5)), none⟩,
    .op ⟨(some 24), (.bin .add (.tmp 23) (.av (.int .u8 32))), none⟩,
    .op ⟨(some 25), (.iaddr 1 (.tmp 21) (.tmp 22)), none⟩,
    .op ⟨none, (.store 1 (.tmp 25) (.tmp 24)), none⟩]
def r_f44_7 : List SOp :=
   [.op ⟨(some 26), (.bin .add (.tmp 10) (.av (.int .i64 1))), none⟩,
    .op ⟨(some 10), (.mv (.tmp 26)), none⟩]
def r_f44_8 : List SOp :=
   [.op ⟨(some 27), (.mv (.tmp 3)), none⟩,
    .op ⟨(some 28), (.b2s (.tmp 27)), none⟩,
    .op ⟨(some 2), (.mv (.tmp 28)), none⟩]
def c_f44 : LFun := ⟨29, (.seq (.sreg r_f44_0 [])
  (.seq (.sreg r_f44_1 [true, false, false])
  (.seq (.seq (.sreg r_f44_2 [])
  (.block 0 (.loop (.seq (.sreg r_f44_3 [])
  (.seq (.cond (.tmp 11) .skip
  (.exit 0))
  (.seq (.block 1 (.seq (.sreg r_f44_4 [true, true, false, false, false])
  (.seq (.sreg r_f44_5 [true, false, false, false])
  (.cond (.tmp 20) (.sreg r_f44_6 [false, false, false, false, false])
  .skip))))
  (.sreg r_f44_7 [true, false])))))))
  (.seq (.sreg r_f44_8 [true, false, false])
  .ret)))), [(.tmp 2)]⟩
def o_f44 : Nat → Nat → Nat := fun r i => if r = 1 ∧ i = 1 then 2 else 1
theorem c_f44_eq : lowF Tryz.prog o_f44 44 = some c_f44.raw := by kernel_rfl
theorem c_f44_ok : c_f44.code.okc = true := by kernel_rfl
/-! castellan/syntax.Norm -/
def r_f8_0 : List SOp :=
   [.op ⟨(some 4), (.mv (.av (.str []))), none⟩,
    .op ⟨(some 5), (.mv (.av (.bool false))), none⟩]
def r_f8_1 : List SOp :=
   [.op ⟨(some 10), (.mv (.tmp 1)), none⟩,
    .op ⟨(some 11), (.len true (.tmp 10)), none⟩,
    .op ⟨(some 12), (.bin .gtr (.tmp 11) (.av (.int .i64 4096))), none⟩]
def r_f8_2 : List SOp :=
   [.op ⟨(some 4), (.mv (.av (.str []))), none⟩,
    .op ⟨(some 5), (.mv (.av (.bool false))), none⟩]
def r_f8_3 : List SOp :=
   [.op ⟨(some 13), (.mv (.tmp 1)), none⟩,
    .op ⟨(some 6), (.mv (.tmp 13)), none⟩,
    .op ⟨(some 7), (.mv (.av (.bool false))), none⟩]
def r_f8_4 : List SOp :=
   [.op ⟨(some 14), (.mv (.tmp 0)), none⟩]
def r_f8_5 : List SOp :=
   [.op ⟨(some 16), (.bin .eql (.tmp 14) (.av (.int .i64 1))), none⟩,
    .op ⟨(some 15), (.mv (.tmp 16)), none⟩]
def r_f8_6 : List SOp :=
   [.op ⟨(some 17), (.mv (.tmp 1)), none⟩,
    .op ⟨(some 18), (.call 27 [(.tmp 17)]), none⟩,
    .op ⟨(some 19), (.mv (.tmp 1)), none⟩,
    .op ⟨(some 20), (.bin .neq (.tmp 19) (.av (.str []))), none⟩,
    .op ⟨(some 21), (.mv (.tmp 20)), none⟩,
    .op ⟨(some 22), (.mv (.tmp 1)), (some (21, true))⟩,
    .op ⟨(some 23), (.call 28 [(.tmp 22)]), (some (21, true))⟩,
    .op ⟨(some 24), (.pick (.tmp 21) (.tmp 23) (.av (.bool false))), none⟩,
    .op ⟨(some 6), (.mv (.tmp 18)), none⟩,
    .op ⟨(some 7), (.mv (.tmp 24)), none⟩]
def r_f8_7 : List SOp :=
   [.op ⟨(some 26), (.bin .eql (.tmp 14) (.av (.int .i64 2))), none⟩,
    .op ⟨(some 25), (.mv (.tmp 26)), none⟩]
def r_f8_8 : List SOp :=
   [.op ⟨(some 27), (.mv (.tmp 1)), none⟩,
    .op ⟨(some 28), (.bin .neq (.tmp 27) (.av (.str []))), none⟩,
    .op ⟨(some 29), (.mv (.tmp 28)), none⟩,
    .op ⟨(some 30), (.mv (.tmp 1)), (some (29, true))⟩,
    .op ⟨(some 31), (.call 28 [(.tmp 30)]), (some (29, true))⟩,
    .op ⟨(some 32), (.pick (.tmp 29) (.tmp 31) (.av (.bool false))), none⟩,
    .op ⟨(some 7), (.mv (.tmp 32)), none⟩]
def r_f8_9 : List SOp :=
   [.op ⟨(some 34), (.bin .eql (.tmp 14) (.av (.int .i64 3))), none⟩,
    .op ⟨(some 33), (.mv (.tmp 34)), none⟩]
def r_f8_10 : List SOp :=
   [.op ⟨(some 35), (.mv (.tmp 1)), none⟩,
    .op ⟨(some 36), (.call 27 [(.tmp 35)]), none⟩,
    .op ⟨(some 37), (.mv (.tmp 1)), none⟩,
    .op ⟨(some 38), (.call 29 [(.tmp 37), (.av (.func 30 []))]), none⟩,
    .op ⟨(some 39), (.bin .lss (.tmp 38) (.av (.int .i64 0))), none⟩,
    .op ⟨(some 6), (.mv (.tmp 36)), none⟩,
    .op ⟨(some 7), (.mv (.tmp 39)), none⟩]
def r_f8_11 : List SOp :=
   [.op ⟨(some 41), (.bin .eql (.tmp 14) (.av (.int .i64 4))), none⟩,
    .op ⟨(some 40), (.mv (.tmp 41)), none⟩]
def r_f8_12 : List SOp :=
   [.op ⟨(some 43), (.mv (.tmp 1)), none⟩,
    .op ⟨(some 44), (.call 31 [(.tmp 43)]), none⟩,
    .op ⟨(some 42), (.mv (.tmp 44)), none⟩,
    .op ⟨(some 45), (.extract (.tmp 42) 0), none⟩,
    .op ⟨(some 46), (.extract (.tmp 42) 1), none⟩,
    .op ⟨(some 7), (.mv (.tmp 46)), none⟩]
def r_f8_13 : List SOp :=
   [.op ⟨(some 48), (.bin .eql (.tmp 14) (.av (.int .i64 5))), none⟩,
    .op ⟨(some 47), (.mv (.tmp 48)), none⟩]
def r_f8_14 : List SOp :=
   [.op ⟨(some 49), (.mv (.tmp 1)), none⟩,
    .op ⟨(some 50), (.bin .eql (.tmp 49) (.av (.str [84, 82, 85, 69]))), none⟩,
    .op ⟨(some 51), (.mv (.tmp 50)), none⟩,
    .grp none 51 false
      [.op ⟨(some 52), (.mv (.tmp 1)), (some (51, false))⟩,
      .op ⟨(some 53), (.bin .eql (.tmp 52) (.av (.str [70, 65, 76, 83, 69]))), (some (51, false))⟩]
      54 (.tmp 53),
    .op ⟨(some 7), (.mv (.tmp 54)), none⟩]
def r_f8_15 : List SOp :=
   [.op ⟨(some 56), (.bin .eql (.tmp 14) (.av (.int .i64 6))), none⟩,
    .op ⟨(some 55), (.mv (.tmp 56)), none⟩]
def r_f8_16 : List SOp :=
   [.op ⟨(some 58), (.mv (.tmp 1)), none⟩,
    .op ⟨(some 59), (.call 32 [(.tmp 58)]), none⟩,
    .op ⟨(some 57), (.mv (.tmp 59)), none⟩,
    .op ⟨(some 60), (.extract (.tmp 57) 0), none⟩,
    .op ⟨(some 61), (.extract (.tmp 57) 1), none⟩,
    .op ⟨(some 8), (.mv (.tmp 60)), none⟩,
    .op ⟨(some 9), (.mv (.tmp 61)), none⟩]
def r_f8_17 : List SOp :=
   [.op ⟨(some 62), (.mv (.tmp 8)), none⟩,
    .op ⟨(some 63), (.mv (.tmp 9)), none⟩,
    .op ⟨(some 64), (.bin .eql (.tmp 63) (.av (.int .i64 0))), none⟩,
    .op ⟨(some 6), (.mv (.tmp 62)), none⟩,
    .op ⟨(some 7), (.mv (.tmp 64)), none⟩]
def r_f8_18 : List SOp :=
   [.op ⟨(some 66), (.bin .eql (.tmp 14) (.av (.int .i64 7))), none⟩,
    .op ⟨(some 65), (.mv (.tmp 66)), none⟩]
def r_f8_19 : List SOp :=
   [.op ⟨(some 7), (.mv (.av (.bool true))), none⟩]
def r_f8_20 : List SOp :=
   [.op ⟨(some 68), (.bin .eql (.tmp 14) (.av (.int .i64 8))), none⟩,
    .op ⟨(some 67), (.mv (.tmp 68)), none⟩]
def r_f8_21 : List SOp :=
   [.op ⟨(some 69), (.mv (.tmp 1)), none⟩,
    .op ⟨(some 70), (.call 33 [(.tmp 69)]), none⟩,
    .op ⟨(some 7), (.mv (.tmp 70)), none⟩]
def r_f8_22 : List SOp :=
   [.op ⟨(some 71), (.mv (.tmp 7)), none⟩,
    .op ⟨(some 72), (.un .not (.tmp 71)), none⟩]
def r_f8_23 : List SOp :=
   [.op ⟨(some 4), (.mv (.av (.str []))), none⟩,
    .op ⟨(some 5), (.mv (.av (.bool false))), none⟩]
def r_f8_24 : List SOp :=
   [.op ⟨(some 73), (.mv (.tmp 6)), none⟩,
    .op ⟨(some 4), (.mv (.tmp 73)), none⟩,
    .op ⟨(some 5), (.mv (.av (.bool true))), none⟩]
def c_f8 : LFun := ⟨74, (.seq (.sreg r_f8_0 [])
  (.seq (.seq (.sreg r_f8_1 [true, false, false])
  (.cond (.tmp 12) (.seq (.sreg r_f8_2 [])
  .ret)
  .skip))
  (.seq (.sreg r_f8_3 [true, true, false])
  (.seq (.seq (.sreg r_f8_4 [])
  (.block 0 (.seq (.sreg r_f8_5 [true, false])
  (.cond (.tmp 15) (.sreg r_f8_6 [true, true, false, false, false, false, false, false, false, false])
  (.seq (.sreg r_f8_7 [true, false])
  (.cond (.tmp 25) (.sreg r_f8_8 [true, false, false, false, false, false, false])
  (.seq (.sreg r_f8_9 [true, false])
  (.cond (.tmp 33) (.sreg r_f8_10 [true, true, false, false, false, false, false])
  (.seq (.sreg r_f8_11 [true, false])
  (.cond (.tmp 40) (.sreg r_f8_12 [true, false, false, false, false, false])
  (.seq (.sreg r_f8_13 [true, false])
  (.cond (.tmp 47) (.sreg r_f8_14 [true, false, false, false, false])
  (.seq (.sreg r_f8_15 [true, false])
  (.cond (.tmp 55) (.seq (.sreg r_f8_16 [true, true, false, false, false, false, false])
  (.sreg r_f8_17 [true, true, false, false, false]))
  (.seq (.sreg r_f8_18 [true, false])
  (.cond (.tmp 65) (.sreg r_f8_19 [])
  (.seq (.sreg r_f8_20 [true, false])
  (.cond (.tmp 67) (.sreg r_f8_21 [true, false, false])
  .skip))))))))))))))))))
  (.seq (.seq (.sreg r_f8_22 [true, false])
  (.cond (.tmp 72) (.seq (.sreg r_f8_23 [])
  .ret)
  .skip))
  (.seq (.sreg r_f8_24 [true, true, false])
  .ret)))))), [(.tmp 4), (.tmp 5)]⟩
def o_f8 : Nat → Nat → Nat := fun _ _ => 1
theorem c_f8_eq : lowF Tryz.prog o_f8 8 = some c_f8.raw := by kernel_rfl
theorem c_f8_ok : c_f8.code.okc = true := by kernel_rfl
/-! castellan/index.grams -/
def r_f49_0 : List SOp :=
   [.op ⟨(some 2), (.mv (.av (.sl [] 0 (some 0)))), none⟩]
def r_f49_1 : List SOp :=
   [.op ⟨(some 3), (.mv (.av (.sl [] 0 (some 0)))), none⟩]
def r_f49_2 : List SOp :=
   [.op ⟨(some 4), (.mv (.av (.int .i64 0))), none⟩]
def r_f49_3 : List SOp :=
   [.op ⟨(some 5), (.mv (.tmp 4)), none⟩,
    .op ⟨(some 6), (.bin .add (.tmp 5) (.av (.int .i64 3))), none⟩,
    .op ⟨(some 7), (.mv (.tmp 0)), none⟩,
    .op ⟨(some 8), (.len true (.tmp 7)), none⟩,
    .op ⟨(some 9), (.bin .leq (.tmp 6) (.tmp 8)), none⟩]
def r_f49_4 : List SOp :=
   [.op ⟨(some 12), (.mv (.tmp 3)), none⟩,
    .op ⟨(some 13), (.mv (.tmp 0)), none⟩,
    .op ⟨(some 14), (.mv (.tmp 4)), none⟩,
    .op ⟨(some 15), (.mv (.tmp 4)), none⟩,
    .op ⟨(some 16), (.bin .add (.tmp 15) (.av (.int .i64 3))), none⟩,
    .op ⟨(some 17), (.slS (.tmp 13) (some (.tmp 14)) (some (.tmp 16))), none⟩,
    .op ⟨(some 18), (.bslice false 1 1 [(.str [])] [(0, 1, (.tmp 17))]), none⟩,
    .op ⟨(some 19), (.app 1 1 16 [(.str [])] (.tmp 12) (.tmp 18)), none⟩,
    .op ⟨(some 3), (.mv (.tmp 19)), none⟩]
def r_f49_5 : List SOp :=
   [.op ⟨(some 10), (.mv (.tmp 4)), none⟩,
    .op ⟨(some 11), (.bin .add (.tmp 10) (.av (.int .i64 1))), none⟩,
    .op ⟨(some 4), (.mv (.tmp 11)), none⟩]
def r_f49_6 : List SOp :=
   [.op ⟨(some 20), (.mv (.tmp 3)), none⟩,
    .op ⟨(some 2), (.mv (.tmp 20)), none⟩]
def c_f49 : LFun := ⟨21, (.seq (.sreg r_f49_0 [])
  (.seq (.sreg r_f49_1 [])
  (.seq (.seq (.sreg r_f49_2 [])
  (.block 0 (.loop (.seq (.seq (.sreg r_f49_3 [true, false, false, false, false])
  (.cond (.tmp 9) .skip
  (.exit 0)))
  (.seq (.block 1 (.sreg r_f49_4 [true, false, false, false, false, false, false, false, false]))
  (.sreg r_f49_5 [true, false, false]))))))
  (.seq (.sreg r_f49_6 [true, false])
  .ret)))), [(.tmp 2)]⟩
def o_f49 : Nat → Nat → Nat := fun _ _ => 1
theorem c_f49_eq : lowF Tryz.prog o_f49 49 = some c_f49.raw := by kernel_rfl
theorem c_f49_ok : c_f49.code.okc = true := by kernel_rfl
/-! castellan/entry.place -/
def r_f77_0 : List SOp :=
   [.op ⟨(some 4), (.mv (.av (.int .i64 0))), none⟩,
    .op ⟨(some 5), (.mv (.av (.bool false))), none⟩]
def r_f77_1 : List SOp :=
   [.op ⟨(some 6), (.mv (.tmp 0)), none⟩,
    .op ⟨(some 7), (.mv (.tmp 1)), none⟩,
    .op ⟨(some 8), (.call 44 [(.tmp 7)]), none⟩,
    .op ⟨(some 9), (.call 111 [(.tmp 6), (.tmp 8), (.av (.func 112 []))]), none⟩,
    .op ⟨(some 10), (.extract (.tmp 9) 0), none⟩,
    .op ⟨(some 11), (.extract (.tmp 9) 1), none⟩,
    .op ⟨(some 4), (.mv (.tmp 10)), none⟩,
    .op ⟨(some 5), (.mv (.tmp 11)), none⟩]
def c_f77 : LFun := ⟨12, (.seq (.sreg r_f77_0 [])
  (.seq (.sreg r_f77_1 [true, true, false, false, false, false, false, false])
  .ret)), [(.tmp 4), (.tmp 5)]⟩
def o_f77 : Nat → Nat → Nat := fun _ _ => 1
theorem c_f77_eq : lowF Tryz.prog o_f77 77 = some c_f77.raw := by kernel_rfl
theorem c_f77_ok : c_f77.code.okc = true := by kernel_rfl
/-! castellan/castellanref13.types -/
def r_f79_0 : List SOp :=
   [.op ⟨(some 6), (.mv (.av (.sl [] 0 (some 0)))), none⟩]
def r_f79_1 : List SOp :=
   [.op ⟨(some 9), (.mv (.tmp 2)), none⟩,
    .op ⟨(some 10), (.len false (.tmp 9)), none⟩,
    .op ⟨(some 11), (.mv (.av (.int .i64 0))), none⟩]
def r_f79_2 : List SOp :=
   [.op ⟨(some 12), (.bin .lss (.tmp 11) (.tmp 10)), none⟩]
def r_f79_3 : List SOp :=
   [.op ⟨(some 13), (.iaddr 1 (.tmp 9) (.tmp 11)), none⟩,
    .op ⟨(some 14), (.load false 1 (.tmp 13)), none⟩,
    .op ⟨(some 8), (.mv (.tmp 14)), none⟩]
def r_f79_4 : List SOp :=
   [.op ⟨(some 15), (.mv (.tmp 0)), none⟩,
    .op ⟨(some 16), (.mv (.tmp 8)), none⟩,
    .op ⟨(some 17), (.mv (.tmp 1)), none⟩,
    .op ⟨(some 18), (.build [(.str []), (.int .i64 0), (.bool false), (.bool false)] [(0, 1, (.tmp 16)), (1, 1, (.tmp 17))]), none⟩,
    .op ⟨(some 19), (.bslice false 4 1 [(.str []), (.int .i64 0), (.bool false), (.bool false)] [(0, 4, (.tmp 18))]), none⟩,
    .op ⟨(some 20), (.app 1 4 32 [(.str []), (.int .i64 0), (.bool false), (.bool false)] (.tmp 15) (.tmp 19)), none⟩,
    .op ⟨(some 0), (.mv (.tmp 20)), none⟩]
def r_f79_5 : List SOp :=
   [.op ⟨(some 21), (.bin .add (.tmp 11) (.av (.int .i64 1))), none⟩,
    .op ⟨(some 11), (.mv (.tmp 21)), none⟩]
def r_f79_6 : List SOp :=
   [.op ⟨(some 22), (.mv (.tmp 0)), none⟩,
    .op ⟨(some 6), (.mv (.tmp 22)), none⟩]
def c_f79 : LFun := ⟨23, (.seq (.sreg r_f79_0 [])
  (.seq (.seq (.sreg r_f79_1 [])
  (.block 0 (.loop (.seq (.sreg r_f79_2 [])
  (.seq (.cond (.tmp 12) .skip
  (.exit 0))
  (.seq (.block 1 (.seq (.sreg r_f79_3 [true, false, false])
  (.sreg r_f79_4 [true, false, false, false, false, false, false])))
  (.sreg r_f79_5 [true, false])))))))
  (.seq (.sreg r_f79_6 [true, false])
  .ret))), [(.tmp 6)]⟩
def o_f79 : Nat → Nat → Nat := fun _ _ => 1
theorem c_f79_eq : lowF Tryz.prog o_f79 79 = some c_f79.raw := by kernel_rfl
theorem c_f79_ok : c_f79.code.okc = true := by kernel_rfl
/-! castellan/schema.Find -/
def r_f78_0 : List SOp :=
   [.op ⟨(some 2), (.box (.tmp 0)), none⟩,
    .op ⟨(some 4), (.alloc [(.str []), (.int .i64 0), (.bool false), (.bool false)]), none⟩,
    .op ⟨(some 5), (.mv (.av (.bool false))), none⟩]
def r_f78_1 : List SOp :=
   [.op ⟨(some 6), (.load true 2 (.tmp 2)), none⟩,
    .op ⟨(some 7), (.build [(.sl [] 0 (some 0)), (.sl [] 0 (some 0))] [(0, 2, (.tmp 6))]), none⟩,
    .op ⟨(some 8), (.mv (.tmp 1)), none⟩,
    .op ⟨(some 9), (.call 113 [(.tmp 7), (.tmp 8)]), none⟩,
    .op ⟨(some 10), (.extract (.tmp 9) 0), none⟩,
    .op ⟨(some 11), (.extract (.tmp 9) 1), none⟩,
    .op ⟨none, (.store 4 (.tmp 4) (.tmp 10)), none⟩,
    .op ⟨(some 5), (.mv (.tmp 11)), none⟩]
def c_f78 : LFun := ⟨12, (.seq (.sreg r_f78_0 [])
  (.seq (.sreg r_f78_1 [true, false, false, false, false, false, false])
  .ret)), [(.cell true 4 4), (.tmp 5)]⟩
def o_f78 : Nat → Nat → Nat := fun _ _ => 1
theorem c_f78_eq : lowF Tryz.prog o_f78 78 = some c_f78.raw := by kernel_rfl
theorem c_f78_ok : c_f78.code.okc = true := by kernel_rfl
/-! castellan/octet.Prep -/
def r_f27_0 : List SOp :=
   [.op ⟨(some 2), (.mv (.av (.str []))), none⟩]
def r_f27_1 : List SOp :=
   [.op ⟨(some 3), (.mv (.av (.sl [] 0 (some 0)))), none⟩]
def r_f27_2 : List SOp :=
   [.op ⟨(some 6), (.mv (.tmp 0)), none⟩,
    .op ⟨(some 7), (.call 44 [(.tmp 6)]), none⟩,
    .op ⟨(some 8), (.s2b (.tmp 7)), none⟩,
    .op ⟨(some 9), (.len false (.tmp 8)), none⟩,
    .op ⟨(some 10), (.mv (.av (.int .i64 0))), none⟩]
def r_f27_3 : List SOp :=
   [.op ⟨(some 11), (.bin .lss (.tmp 10) (.tmp 9)), none⟩]
def r_f27_4 : List SOp :=
   [.op ⟨(some 12), (.iaddr 1 (.tmp 8) (.tmp 10)), none⟩,
    .op ⟨(some 13), (.load false 1 (.tmp 12)), none⟩,
    .op ⟨(some 5), (.mv (.tmp 13)), none⟩]
def r_f27_5 : List SOp :=
   [.op ⟨(some 14), (.mv (.tmp 5)), none⟩,
    .op ⟨(some 15), (.bin .eql (.tmp 14) (.av (.int .u8 32))), none⟩,
    .op ⟨(some 16), (.mv (.tmp 15)), none⟩,
    .grp none 16 true
      [.op ⟨(some 17), (.mv (.tmp 3)), (some (16, true))⟩,
      .op ⟨(some 18), (.len false (.tmp 17)), (some (16, true))⟩,
      .op ⟨(some 19), (.bin .eql (.tmp 18) (.av (.int .i64 0))), (some (16, true))⟩,
      .op ⟨(some 20), (.mv (.tmp 19)), (some (16, true))⟩,
      .grp (some (16, true)) 20 false
        [.op ⟨(some 21), (.mv (.tmp 3)), (some (20, false))⟩,
        .op ⟨(some 22), (.mv (.tmp 3)), (some (20, false))⟩,
        .op ⟨(some 23), (.len false (.tmp 22)), (some (20, false))⟩,
        .op ⟨(some 24), (.bin .sub (.tmp 23) (.av (.int .i64 1))), (some (20, false))⟩,
        .op ⟨(some 25), (.iaddr 1 (.tmp 21) (.tmp 24)), (some (20, false))⟩,
        .op ⟨(some 26), (.load false 1 (.tmp 25)), (some (20, false))⟩,
        .op ⟨(some 27), (.bin .eql (.tmp 26) (.av (.int .u8 32))), (some (20, false))⟩]
        28 (.tmp 27)]
      29 (.tmp 28)]
def r_f27_6 : List SOp :=
   [.op ⟨(some 30), (.mv (.tmp 3)), none⟩,
    .op ⟨(some 31), (.mv (.tmp 5)), none⟩,
    .op ⟨(some 32), (.bslice false 1 1 [(.int .u8 0)] [(0, 1, (.tmp 31))]), none⟩,
    .op ⟨(some 33), (.app 1 1 1 [(.int .u8 0)] (.tmp 30) (.tmp 32)), none⟩,
    .op ⟨(some 3), (.mv (.tmp 33)), none⟩]
def r_f27_7 : List SOp :=
   [.op ⟨(some 34), (.bin .add (.tmp 10) (.av (.int .i64 1))), none⟩,
    .op ⟨(some 10), (.mv (.tmp 34)), none⟩]
def r_f27_8 : List SOp :=
   [.op ⟨(some 35), (.mv (.tmp 3)), none⟩,
    .op ⟨(some 36), (.len false (.tmp 35)), none⟩,
    .op ⟨(some 37), (.bin .gtr (.tmp 36) (.av (.int .i64 0))), none⟩,
    .op ⟨(some 38), (.mv (.tmp 37)), none⟩,
    .grp none 38 true
      [.op ⟨(some 39), (.mv (.tmp 3)), (some (38, true))⟩,
      .op ⟨(some 40), (.mv (.tmp 3)), (some (38, true))⟩,
      .op ⟨(some 41), (.len false (.tmp 40)), (some (38, true))⟩,
      .op ⟨(some 42), (.bin .sub (.tmp 41) (.av (.int .i64 1))), (some (38, true))⟩,
      .op ⟨(some 43), (.iaddr 1 (.tmp 39) (.tmp 42)), (some (38, true))⟩,
      .op ⟨(some 44), (.load false 1 (.tmp 43)), (some (38, true))⟩,
      .op ⟨(some 45), (.bin .eql (.tmp 44) (.av (.int .u8 32))), (some (38, true))⟩]
      46 (.tmp 45)]
def r_f27_9 : List SOp :=
   [.op ⟨(some 47), (.mv (.tmp 3)), none⟩,
    .op ⟨(some 48), (.mv (.tmp 3)), none⟩,
    .op ⟨(some 49), (.len false (.tmp 48)), none⟩,
    .op ⟨(some 50), (.bin .sub (.tmp 49) (.av (.int .i64 1))), none⟩,
    .op ⟨(some 51), (.slV 1 (.tmp 47) none (some (.tmp 50)) none), none⟩,
    .op ⟨(some 3), (.mv (.tmp 51)), none⟩]
def r_f27_10 : List SOp :=
   [.op ⟨(some 52), (.mv (.tmp 3)), none⟩,
    .op ⟨(some 53), (.b2s (.tmp 52)), none⟩,
    .op ⟨(some 2), (.mv (.tmp 53)), none⟩]
def c_f27 : LFun := ⟨54, (.seq (.sreg r_f27_0 [])
  (.seq (.sreg r_f27_1 [])
  (.seq (.seq (.sreg r_f27_2 [true, true, true, false, false])
  (.block 0 (.loop (.seq (.sreg r_f27_3 [])
  (.seq (.cond (.tmp 11) .skip
  (.exit 0))
  (.seq (.block 1 (.seq (.sreg r_f27_4 [true, false, false])
  (.seq (.seq (.sreg r_f27_5 [true, false, false, false])
  (.cond (.tmp 29) (.exit 1)
  .skip))
  (.sreg r_f27_6 [true, false, false, false, false]))))
  (.sreg r_f27_7 [true, false])))))))
  (.seq (.seq (.sreg r_f27_8 [true, false, false, false, false])
  (.cond (.tmp 46) (.sreg r_f27_9 [true, false, false, false, false, false])
  .skip))
  (.seq (.sreg r_f27_10 [true, false, false])
  .ret))))), [(.tmp 2)]⟩
def o_f27 : Nat → Nat → Nat := fun _ _ => 1
theorem c_f27_eq : lowF Tryz.prog o_f27 27 = some c_f27.raw := by kernel_rfl
theorem c_f27_ok : c_f27.code.okc = true := by kernel_rfl
/-! unicode/utf8.ValidString -/
def r_f28_0 : List SOp :=
   [.op ⟨(some 2), (.mv (.av (.bool false))), none⟩]
def r_f28_1 : List SOp :=
   [.op ⟨(some 7), (.mv (.tmp 0)), none⟩,
    .op ⟨(some 8), (.len true (.tmp 7)), none⟩,
    .op ⟨(some 9), (.bin .gtr (.tmp 8) (.av (.int .i64 0))), none⟩]
def r_f28_2 : List SOp :=
   [.op ⟨(some 10), (.mv (.tmp 0)), none⟩,
    .op ⟨(some 11), (.idxS (.tmp 10) (.av (.int .i64 0))), none⟩,
    .op ⟨(some 3), (.mv (.tmp 11)), none⟩]
def r_f28_3 : List SOp :=
   [.op ⟨(some 12), (.mv (.tmp 3)), none⟩,
    .op ⟨(some 13), (.bin .lss (.tmp 12) (.av (.int .u8 128))), none⟩]
def r_f28_4 : List SOp :=
   [.op ⟨(some 14), (.mv (.tmp 0)), none⟩,
    .op ⟨(some 15), (.slS (.tmp 14) (some (.av (.int .i64 1))) none), none⟩,
    .op ⟨(some 0), (.mv (.tmp 15)), none⟩]
def r_f28_5 : List SOp :=
   [.op ⟨(some 16), (.mv (.tmp 0)), none⟩,
    .op ⟨(some 17), (.len true (.tmp 16)), none⟩,
    .op ⟨(some 18), (.bin .gtr (.tmp 17) (.av (.int .i64 8))), none⟩,
    .op ⟨(some 19), (.mv (.tmp 18)), none⟩,
    .op ⟨(some 20), (.mv (.tmp 0)), (some (19, true))⟩,
    .op ⟨(some 21), (.call 65 [(.tmp 20)]), (some (19, true))⟩,
    .op ⟨(some 22), (.bin .and (.tmp 21) (.av (.int .u64 9259542123273814144))), (some (19, true))⟩,
    .op ⟨(some 23), (.bin .eql (.tmp 22) (.av (.int .u64 0))), (some (19, true))⟩,
    .op ⟨(some 24), (.pick (.tmp 19) (.tmp 23) (.av (.bool false))), none⟩]
def r_f28_6 : List SOp :=
   [.op ⟨(some 25), (.mv (.tmp 0)), none⟩,
    .op ⟨(some 26), (.slS (.tmp 25) (some (.av (.int .i64 8))) none), none⟩,
    .op ⟨(some 0), (.mv (.tmp 26)), none⟩]
def r_f28_7 : List (LOper × Kd) :=
   [(⟨(some 27), (.mv (.tmp 0)), none⟩, .pure),
    (⟨(some 28), (.len true (.tmp 27)), none⟩, (.read 0 0)),
    (⟨(some 29), (.bin .gtr (.tmp 28) (.av (.int .i64 16))), none⟩, .pure),
    (⟨(some 30), (.mv (.tmp 29)), none⟩, .pure),
    (⟨(some 31), (.mv (.tmp 0)), (some (30, true))⟩, .pure),
    (⟨(some 32), (.call 65 [(.tmp 31)]), (some (30, true))⟩, .eff),
    (⟨(some 33), (.mv (.tmp 0)), (some (30, true))⟩, .pure),
    (⟨(some 34), (.slS (.tmp 33) (some (.av (.int .i64 8))) none), (some (30, true))⟩, (.read 1 0))]
def r_f28_7t : List LOper :=
   [⟨(some 35), (.call 65 [(.tmp 34)]), (some (30, true))⟩,
    ⟨(some 36), (.bin .or (.tmp 32) (.tmp 35)), (some (30, true))⟩,
    ⟨(some 37), (.bin .and (.tmp 36) (.av (.int .u64 9259542123273814144))), (some (30, true))⟩,
    ⟨(some 38), (.bin .eql (.tmp 37) (.av (.int .u64 0))), (some (30, true))⟩,
    ⟨(some 39), (.pick (.tmp 30) (.tmp 38) (.av (.bool false))), none⟩]
def r_f28_8 : List SOp :=
   [.op ⟨(some 40), (.mv (.tmp 0)), none⟩,
    .op ⟨(some 41), (.slS (.tmp 40) (some (.av (.int .i64 16))) none), none⟩,
    .op ⟨(some 0), (.mv (.tmp 41)), none⟩]
def r_f28_9 : List (LOper × Kd) :=
   [(⟨(some 42), (.mv (.tmp 0)), none⟩, .pure),
    (⟨(some 43), (.len true (.tmp 42)), none⟩, (.read 0 0)),
    (⟨(some 44), (.bin .gtr (.tmp 43) (.av (.int .i64 32))), none⟩, .pure),
    (⟨(some 45), (.mv (.tmp 44)), none⟩, .pure),
    (⟨(some 46), (.mv (.tmp 0)), (some (45, true))⟩, .pure),
    (⟨(some 47), (.call 65 [(.tmp 46)]), (some (45, true))⟩, .eff),
    (⟨(some 48), (.mv (.tmp 0)), (some (45, true))⟩, .pure),
    (⟨(some 49), (.slS (.tmp 48) (some (.av (.int .i64 8))) none), (some (45, true))⟩, (.read 1 0)),
    (⟨(some 50), (.call 65 [(.tmp 49)]), (some (45, true))⟩, .eff),
    (⟨(some 51), (.bin .or (.tmp 47) (.tmp 50)), (some (45, true))⟩, .pure),
    (⟨(some 52), (.mv (.tmp 0)), (some (45, true))⟩, .pure),
    (⟨(some 53), (.slS (.tmp 52) (some (.av (.int .i64 16))) none), (some (45, true))⟩, (.read 2 0)),
    (⟨(some 54), (.call 65 [(.tmp 53)]), (some (45, true))⟩, .eff),
    (⟨(some 55), (.mv (.tmp 0)), (some (45, true))⟩, .pure),
    (⟨(some 56), (.slS (.tmp 55) (some (.av (.int .i64 24))) none), (some (45, true))⟩, (.read 3 0)),
    (⟨(some 57), (.call 65 [(.tmp 56)]), (some (45, true))⟩, .eff),
    (⟨(some 58), (.bin .or (.tmp 54) (.tmp 57)), (some (45, true))⟩, .pure)]
def r_f28_9t : List LOper :=
   [⟨(some 59), (.bin .or (.tmp 51) (.tmp 58)), (some (45, true))⟩,
    ⟨(some 60), (.bin .and (.tmp 59) (.av (.int .u64 9259542123273814144))), (some (45, true))⟩,
    ⟨(some 61), (.bin .eql (.tmp 60) (.av (.int .u64 0))), (some (45, true))⟩,
    ⟨(some 62), (.pick (.tmp 45) (.tmp 61) (.av (.bool false))), none⟩]
def r_f28_10 : List SOp :=
   [.op ⟨(some 63), (.mv (.tmp 0)), none⟩,
    .op ⟨(some 64), (.slS (.tmp 63) (some (.av (.int .i64 32))) none), none⟩,
    .op ⟨(some 0), (.mv (.tmp 64)), none⟩]
def r_f28_11 : List SOp :=
   [.op ⟨(some 65), (.mv (.tmp 3)), none⟩,
    .op ⟨(some 66), (.iaddrA 256 1 (.av (.gptr 0 0)) (.tmp 65)), none⟩,
    .op ⟨(some 67), (.load false 1 (.tmp 66)), none⟩,
    .op ⟨(some 4), (.mv (.tmp 67)), none⟩]
def r_f28_12 : List SOp :=
   [.op ⟨(some 68), (.mv (.tmp 4)), none⟩,
    .op ⟨(some 69), (.bin .and (.tmp 68) (.av (.int .u8 7))), none⟩,
    .op ⟨(some 70), (.conv .i64 (.tmp 69)), none⟩,
    .op ⟨(some 5), (.mv (.tmp 70)), none⟩]
def r_f28_13 : List SOp :=
   [.op ⟨(some 71), (.mv (.tmp 4)), none⟩,
    .op ⟨(some 72), (.bin .shr (.tmp 71) (.av (.int .u64 4))), none⟩,
    .op ⟨(some 73), (.iaddrA 16 2 (.av (.gptr 1 0)) (.tmp 72)), none⟩,
    .op ⟨(some 74), (.load true 2 (.tmp 73)), none⟩,
    .op ⟨(some 6), (.alloc [(.int .u8 0), (.int .u8 0)]), none⟩,
    .op ⟨none, (.store 2 (.tmp 6) (.tmp 74)), none⟩]
def r_f28_14 : List SOp :=
   [.op ⟨(some 75), (.mv (.tmp 5)), none⟩]
def r_f28_15 : List SOp :=
   [.op ⟨(some 77), (.bin .eql (.tmp 75) (.av (.int .i64 2))), none⟩,
    .op ⟨(some 76), (.mv (.tmp 77)), none⟩]
def r_f28_16 : List SOp :=
   [.op ⟨(some 78), (.mv (.tmp 0)), none⟩,
    .op ⟨(some 79), (.len true (.tmp 78)), none⟩,
    .op ⟨(some 80), (.bin .lss (.tmp 79) (.av (.int .i64 2))), none⟩,
    .op ⟨(some 81), (.mv (.tmp 80)), none⟩,
    .grp none 81 false
      [.op ⟨(some 82), (.mv (.tmp 0)), (some (81, false))⟩,
      .op ⟨(some 83), (.idxS (.tmp 82) (.av (.int .i64 1))), (some (81, false))⟩,
      .op ⟨(some 84), (.faddr 0 (.tmp 6)), (some (81, false))⟩,
      .op ⟨(some 85), (.load false 1 (.tmp 84)), (some (81, false))⟩,
      .op ⟨(some 86), (.bin .lss (.tmp 83) (.tmp 85)), (some (81, false))⟩]
      87 (.tmp 86),
    .op ⟨(some 88), (.mv (.tmp 87)), none⟩,
    .grp none 88 false
      [.op ⟨(some 89), (.faddr 1 (.tmp 6)), (some (88, false))⟩,
      .op ⟨(some 90), (.load false 1 (.tmp 89)), (some (88, false))⟩,
      .op ⟨(some 91), (.mv (.tmp 0)), (some (88, false))⟩,
      .op ⟨(some 92), (.idxS (.tmp 91) (.av (.int .i64 1))), (some (88, false))⟩,
      .op ⟨(some 93), (.bin .lss (.tmp 90) (.tmp 92)), (some (88, false))⟩]
      94 (.tmp 93)]
def r_f28_17 : List SOp :=
   [.op ⟨(some 2), (.mv (.av (.bool false))), none⟩]
def r_f28_18 : List SOp :=
   [.op ⟨(some 95), (.mv (.tmp 0)), none⟩,
    .op ⟨(some 96), (.slS (.tmp 95) (some (.av (.int .i64 2))) none), none⟩,
    .op ⟨(some 0), (.mv (.tmp 96)), none⟩]
def r_f28_19 : List SOp :=
   [.op ⟨(some 98), (.bin .eql (.tmp 75) (.av (.int .i64 3))), none⟩,
    .op ⟨(some 97), (.mv (.tmp 98)), none⟩]
def r_f28_20 : List SOp :=
   [.op ⟨(some 99), (.mv (.tmp 0)), none⟩,
    .op ⟨(some 100), (.len true (.tmp 99)), none⟩,
    .op ⟨(some 101), (.bin .lss (.tmp 100) (.av (.int .i64 3))), none⟩,
    .op ⟨(some 102), (.mv (.tmp 101)), none⟩,
    .grp none 102 false
      [.op ⟨(some 103), (.mv (.tmp 0)), (some (102, false))⟩,
      .op ⟨(some 104), (.idxS (.tmp 103) (.av (.int .i64 1))), (some (102, false))⟩,
      .op ⟨(some 105), (.faddr 0 (.tmp 6)), (some (102, false))⟩,
      .op ⟨(some 106), (.load false 1 (.tmp 105)), (some (102, false))⟩,
      .op ⟨(some 107), (.bin .lss (.tmp 104) (.tmp 106)), (some (102, false))⟩]
      108 (.tmp 107),
    .op ⟨(some 109), (.mv (.tmp 108)), none⟩,
    .grp none 109 false
      [.op ⟨(some 110), (.faddr 1 (.tmp 6)), (some (109, false))⟩,
      .op ⟨(some 111), (.load false 1 (.tmp 110)), (some (109, false))⟩,
      .op ⟨(some 112), (.mv (.tmp 0)), (some (109, false))⟩,
      .op ⟨(some 113), (.idxS (.tmp 112) (.av (.int .i64 1))), (some (109, false))⟩,
      .op ⟨(some 114), (.bin .lss (.tmp 111) (.tmp 113)), (some (109, false))⟩]
      115 (.tmp 114),
    .op ⟨(some 116), (.mv (.tmp 115)), none⟩,
    .grp none 116 false
      [.op ⟨(some 117), (.mv (.tmp 0)), (some (116, false))⟩,
      .op ⟨(some 118), (.idxS (.tmp 117) (.av (.int .i64 2))), (some (116, false))⟩,
      .op ⟨(some 119), (.bin .lss (.tmp 118) (.av (.int .u8 128))), (some (116, false))⟩]
      120 (.tmp 119),
    .op ⟨(some 121), (.mv (.tmp 120)), none⟩,
    .grp none 121 false
      [.op ⟨(some 122), (.mv (.tmp 0)), (some (121, false))⟩,
      .op ⟨(some 123), (.idxS (.tmp 122) (.av (.int .i64 2))), (some (121, false))⟩,
      .op ⟨(some 124), (.bin .lss (.av (.int .u8 191)) (.tmp 123)), (some (121, false))⟩]
      125 (.tmp 124)]
def r_f28_21 : List SOp :=
   [.op ⟨(some 2), (.mv (.av (.bool false))), none⟩]
def r_f28_22 : List SOp :=
   [.op ⟨(some 126), (.mv (.tmp 0)), none⟩,
    .op ⟨(some 127), (.slS (.tmp 126) (some (.av (.int .i64 3))) none), none⟩,
    .op ⟨(some 0), (.mv (.tmp 127)), none⟩]
def r_f28_23 : List SOp :=
   [.op ⟨(some 129), (.bin .eql (.tmp 75) (.av (.int .i64 4))), none⟩,
    .op ⟨(some 128), (.mv (.tmp 129)), none⟩]
def r_f28_24 : List SOp :=
   [.op ⟨(some 130), (.mv (.tmp 0)), none⟩,
    .op ⟨(some 131), (.len true (.tmp 130)), none⟩,
    .op ⟨(some 132), (.bin .lss (.tmp 131) (.av (.int .i64 4))), none⟩,
    .op ⟨(some 133), (.mv (.tmp 132)), none⟩,
    .grp none 133 false
      [.op ⟨(some 134), (.mv (.tmp 0)), (some (133, false))⟩,
      .op ⟨(some 135), (.idxS (.tmp 134) (.av (.int .i64 1))), (some (133, false))⟩,
      .op ⟨(some 136), (.faddr 0 (.tmp 6)), (some (133, false))⟩,
      .op ⟨(some 137), (.load false 1 (.tmp 136)), (some (133, false))⟩,
      .op ⟨(some 138), (.bin .lss (.tmp 135) (.tmp 137)), (some (133, false))⟩]
      139 (.tmp 138),
    .op ⟨(some 140), (.mv (.tmp 139)), none⟩,
    .grp none 140 false
      [.op ⟨(some 141), (.faddr 1 (.tmp 6)), (some (140, false))⟩,
      .op ⟨(some 142), (.load false 1 (.tmp 141)), (some (140, false))⟩,
      .op ⟨(some 143), (.mv (.tmp 0)), (some (140, false))⟩,
      .op ⟨(some 144), (.idxS (.tmp 143) (.av (.int .i64 1))), (some (140, false))⟩,
      .op ⟨(some 145), (.bin .lss (.tmp 142) (.tmp 144)), (some (140, false))⟩]
      146 (.tmp 145),
    .op ⟨(some 147), (.mv (.tmp 146)), none⟩,
    .grp none 147 false
      [.op ⟨(some 148), (.mv (.tmp 0)), (some (147, false))⟩,
      .op ⟨(some 149), (.idxS (.tmp 148) (.av (.int .i64 2))), (some (147, false))⟩,
      .op ⟨(some 150), (.bin .lss (.tmp 149) (.av (.int .u8 128))), (some (147, false))⟩]
      151 (.tmp 150),
    .op ⟨(some 152), (.mv (.tmp 151)), none⟩,
    .grp none 152 false
      [.op ⟨(some 153), (.mv (.tmp 0)), (some (152, false))⟩,
      .op ⟨(some 154), (.idxS (.tmp 153) (.av (.int .i64 2))), (some (152, false))⟩,
      .op ⟨(some 155), (.bin .lss (.av (.int .u8 191)) (.tmp 154)), (some (152, false))⟩]
      156 (.tmp 155),
    .op ⟨(some 157), (.mv (.tmp 156)), none⟩,
    .grp none 157 false
      [.op ⟨(some 158), (.mv (.tmp 0)), (some (157, false))⟩,
      .op ⟨(some 159), (.idxS (.tmp 158) (.av (.int .i64 3))), (some (157, false))⟩,
      .op ⟨(some 160), (.bin .lss (.tmp 159) (.av (.int .u8 128))), (some (157, false))⟩]
      161 (.tmp 160),
    .op ⟨(some 162), (.mv (.tmp 161)), none⟩,
    .grp none 162 false
      [.op ⟨(some 163), (.mv (.tmp 0)), (some (162, false))⟩,
      .op ⟨(some 164), (.idxS (.tmp 163) (.av (.int .i64 3))), (some (162, false))⟩,
      .op ⟨(some 165), (.bin .lss (.av (.int .u8 191)) (.tmp 164)), (some (162, false))⟩]
      166 (.tmp 165)]
def r_f28_25 : List SOp :=
   [.op ⟨(some 2), (.mv (.av (.bool false))), none⟩]
def r_f28_26 : List SOp :=
   [.op ⟨(some 167), (.mv (.tmp 0)), none⟩,
    .op ⟨(some 168), (.slS (.tmp 167) (some (.av (.int .i64 4))) none), none⟩,
    .op ⟨(some 0), (.mv (.tmp 168)), none⟩]
def r_f28_27 : List SOp :=
   [.op ⟨(some 2), (.mv (.av (.bool false))), none⟩]
def r_f28_28 : List SOp :=
   [.op ⟨(some 2), (.mv (.av (.bool true))), none⟩]
def c_f28 : LFun := ⟨169, (.seq (.sreg r_f28_0 [])
  (.seq (.block 0 (.loop (.seq (.seq (.sreg r_f28_1 [true, false, false])
  (.cond (.tmp 9) .skip
  (.exit 0)))
  (.block 1 (.seq (.sreg r_f28_2 [true, false, false])
  (.seq (.seq (.sreg r_f28_3 [true, false])
  (.cond (.tmp 13) (.seq (.sreg r_f28_4 [true, false, false])
  (.seq (.seq (.sreg r_f28_5 [true, false, false, false, false, false, false, false, false])
  (.cond (.tmp 24) (.seq (.sreg r_f28_6 [true, false, false])
  (.seq (.dregM r_f28_7 r_f28_7t [true, false, false, false, false, false, false, false, false, false, false, false, false])
  (.cond (.tmp 39) (.seq (.sreg r_f28_8 [true, false, false])
  (.block 2 (.loop (.seq (.seq (.dregM r_f28_9 r_f28_9t [true, false, false, false, false, false, false, false, false, false, false, false, false, false, false, false, false, false, false, false, false])
  (.cond (.tmp 62) .skip
  (.exit 2)))
  (.block 3 (.sreg r_f28_10 [true, false, false]))))))
  .skip)))
  .skip))
  (.exit 1)))
  .skip))
  (.seq (.sreg r_f28_11 [true, false, false, false])
  (.seq (.sreg r_f28_12 [true, false, false, false])
  (.seq (.sreg r_f28_13 [true, false, false, false, false])
  (.seq (.sreg r_f28_14 [])
  (.block 4 (.seq (.sreg r_f28_15 [true, false])
  (.cond (.tmp 76) (.seq (.seq (.sdreg r_f28_16 [.pure, (.read 0 0), .pure, .pure, .pure, (.read 0 0), .pure, (.read 0 0), .pure, .pure, .pure, .pure, (.read 0 0), .pure, (.read 0 0)] [true, false, false, false, false, false, false])
  (.cond (.tmp 94) (.seq (.sreg r_f28_17 [])
  .ret)
  .skip))
  (.sreg r_f28_18 [true, false, false]))
  (.seq (.sreg r_f28_19 [true, false])
  (.cond (.tmp 97) (.seq (.seq (.sdreg r_f28_20 [.pure, (.read 0 0), .pure, .pure, .pure, (.read 0 0), .pure, (.read 0 0), .pure, .pure, .pure, .pure, (.read 0 0), .pure, (.read 0 0)] [true, false, false, false, false, false, false, false, false, false, false])
  (.cond (.tmp 125) (.seq (.sreg r_f28_21 [])
  .ret)
  .skip))
  (.sreg r_f28_22 [true, false, false]))
  (.seq (.sreg r_f28_23 [true, false])
  (.cond (.tmp 128) (.seq (.seq (.sdreg r_f28_24 [.pure, (.read 0 0), .pure, .pure, .pure, (.read 0 0), .pure, (.read 0 0), .pure, .pure, .pure, .pure, (.read 0 0), .pure, (.read 0 0)] [true, false, false, false, false, false, false, false, false, false, false, false, false, false, false])
  (.cond (.tmp 166) (.seq (.sreg r_f28_25 [])
  .ret)
  .skip))
  (.sreg r_f28_26 [true, false, false]))
  (.seq (.sreg r_f28_27 [])
  .ret))))))))))))))))))
  (.seq (.sreg r_f28_28 [])
  .ret))), [(.tmp 2)]⟩
def o_f28 : Nat → Nat → Nat := fun r i => if r = 7 ∧ i = 5 then 3 else if r = 7 ∧ i = 8 then 3 else if r = 9 ∧ i = 5 then 3 else if r = 9 ∧ i = 8 then 3 else if r = 9 ∧ i = 12 then 3 else if r = 9 ∧ i = 15 then 3 else 1
theorem c_f28_eq : lowF Tryz.prog o_f28 28 = some c_f28.raw := by kernel_rfl
theorem c_f28_ok : c_f28.code.okc = true := by kernel_rfl
/-! slices.BinarySearchFunc[[]castellan/api.Attr,castellan/api.Attr,string] -/
def r_f111_0 : List SOp :=
   [.op ⟨(some 6), (.mv (.av (.int .i64 0))), none⟩,
    .op ⟨(some 7), (.mv (.av (.bool false))), none⟩]
def r_f111_1 : List SOp :=
   [.op ⟨(some 12), (.mv (.tmp 0)), none⟩,
    .op ⟨(some 13), (.len false (.tmp 12)), none⟩,
    .op ⟨(some 8), (.mv (.tmp 13)), none⟩]
def r_f111_2 : List SOp :=
   [.op ⟨(some 14), (.mv (.tmp 8)), none⟩,
    .op ⟨(some 9), (.mv (.av (.int .i64 0))), none⟩,
    .op ⟨(some 10), (.mv (.tmp 14)), none⟩]
def r_f111_3 : List SOp :=
   [.op ⟨(some 15), (.mv (.tmp 9)), none⟩,
    .op ⟨(some 16), (.mv (.tmp 10)), none⟩,
    .op ⟨(some 17), (.bin .lss (.tmp 15) (.tmp 16)), none⟩]
def r_f111_4 : List SOp :=
   [.op ⟨(some 18), (.mv (.tmp 9)), none⟩,
    .op ⟨(some 19), (.mv (.tmp 10)), none⟩,
    .op ⟨(some 20), (.bin .add (.tmp 18) (.tmp 19)), none⟩,
    .op ⟨(some 21), (.conv .u64 (.tmp 20)), none⟩,
    .op ⟨(some 22), (.bin .shr (.tmp 21) (.av (.int .u64 1))), none⟩,
    .op ⟨(some 23), (.conv .i64 (.tmp 22)), none⟩,
    .op ⟨(some 11), (.mv (.tmp 23)), none⟩]
def r_f111_5 : List SOp :=
   [.op ⟨(some 24), (.mv (.tmp 2)), none⟩,
    .op ⟨(some 25), (.mv (.tmp 0)), none⟩,
    .op ⟨(some 26), (.mv (.tmp 11)), none⟩,
    .op ⟨(some 27), (.iaddr 2 (.tmp 25) (.tmp 26)), none⟩,
    .op ⟨(some 28), (.load true 2 (.tmp 27)), none⟩,
    .op ⟨(some 29), (.mv (.tmp 1)), none⟩,
    .op ⟨(some 30), (.callv (.tmp 24) [(.tmp 28), (.tmp 29)]), none⟩,
    .op ⟨(some 31), (.bin .lss (.tmp 30) (.av (.int .i64 0))), none⟩]
def r_f111_6 : List SOp :=
   [.op ⟨(some 32), (.mv (.tmp 11)), none⟩,
    .op ⟨(some 33), (.bin .add (.tmp 32) (.av (.int .i64 1))), none⟩,
    .op ⟨(some 9), (.mv (.tmp 33)), none⟩]
def r_f111_7 : List SOp :=
   [.op ⟨(some 34), (.mv (.tmp 11)), none⟩,
    .op ⟨(some 10), (.mv (.tmp 34)), none⟩]
def r_f111_8 : List SOp :=
   [.op ⟨(some 35), (.mv (.tmp 9)), none⟩,
    .op ⟨(some 36), (.mv (.tmp 9)), none⟩,
    .op ⟨(some 37), (.mv (.tmp 8)), none⟩,
    .op ⟨(some 38), (.bin .lss (.tmp 36) (.tmp 37)), none⟩,
    .op ⟨(some 39), (.mv (.tmp 38)), none⟩,
    .op ⟨(some 40), (.mv (.tmp 2)), (some (39, true))⟩,
    .op ⟨(some 41), (.mv (.tmp 0)), (some (39, true))⟩,
    .op ⟨(some 42), (.mv (.tmp 9)), (some (39, true))⟩,
    .op ⟨(some 43), (.iaddr 2 (.tmp 41) (.tmp 42)), (some (39, true))⟩,
    .op ⟨(some 44), (.load true 2 (.tmp 43)), (some (39, true))⟩,
    .op ⟨(some 45), (.mv (.tmp 1)), (some (39, true))⟩,
    .op ⟨(some 46), (.callv (.tmp 40) [(.tmp 44), (.tmp 45)]), (some (39, true))⟩,
    .op ⟨(some 47), (.bin .eql (.tmp 46) (.av (.int .i64 0))), (some (39, true))⟩,
    .op ⟨(some 48), (.pick (.tmp 39) (.tmp 47) (.av (.bool false))), none⟩,
    .op ⟨(some 6), (.mv (.tmp 35)), none⟩,
    .op ⟨(some 7), (.mv (.tmp 48)), none⟩]
def c_f111 : LFun := ⟨49, (.seq (.sreg r_f111_0 [])
  (.seq (.sreg r_f111_1 [true, false, false])
  (.seq (.sreg r_f111_2 [true, true, false])
  (.seq (.block 0 (.loop (.seq (.seq (.sreg r_f111_3 [true, false, false])
  (.cond (.tmp 17) .skip
  (.exit 0)))
  (.block 1 (.seq (.sreg r_f111_4 [true, false, false, false, false, false, false])
  (.seq (.sreg r_f111_5 [true, false, false, false, false, false, false, false])
  (.cond (.tmp 31) (.sreg r_f111_6 [true, false, false])
  (.sreg r_f111_7 [true, false]))))))))
  (.seq (.sreg r_f111_8 [true, true, false, false, false, false, false, false, false, false, false, false, false, false, false, false])
  .ret))))), [(.tmp 6), (.tmp 7)]⟩
def o_f111 : Nat → Nat → Nat := fun _ _ => 1
theorem c_f111_eq : lowF Tryz.prog o_f111 111 = some c_f111.raw := by kernel_rfl
theorem c_f111_ok : c_f111.code.okc = true := by kernel_rfl
/-! castellan/entry.place$1 -/
def r_f112_0 : List SOp :=
   [.op ⟨(some 2), (.box (.tmp 0)), none⟩,
    .op ⟨(some 4), (.mv (.av (.int .i64 0))), none⟩]
def r_f112_1 : List SOp :=
   [.op ⟨(some 5), (.faddr 0 (.tmp 2)), none⟩,
    .op ⟨(some 6), (.load false 1 (.tmp 5)), none⟩,
    .op ⟨(some 7), (.call 44 [(.tmp 6)]), none⟩,
    .op ⟨(some 8), (.mv (.tmp 1)), none⟩,
    .op ⟨(some 9), (.call 35 [(.tmp 7), (.tmp 8)]), none⟩,
    .op ⟨(some 4), (.mv (.tmp 9)), none⟩]
def c_f112 : LFun := ⟨10, (.seq (.sreg r_f112_0 [])
  (.seq (.sreg r_f112_1 [true, false, false, false, false, false])
  .ret)), [(.tmp 4)]⟩
def o_f112 : Nat → Nat → Nat := fun _ _ => 1
theorem c_f112_eq : lowF Tryz.prog o_f112 112 = some c_f112.raw := by kernel_rfl
theorem c_f112_ok : c_f112.code.okc = true := by kernel_rfl
/-! (castellan/schema.book).kind -/
def r_f113_0 : List SOp :=
   [.op ⟨(some 2), (.box (.tmp 0)), none⟩,
    .op ⟨(some 3), (.box (.tmp 1)), none⟩,
    .op ⟨(some 4), (.alloc [(.str []), (.int .i64 0), (.bool false), (.bool false)]), none⟩,
    .op ⟨(some 5), (.mv (.av (.bool false))), none⟩]
def r_f113_1 : List SOp :=
   [.op ⟨(some 7), (.faddr 0 (.tmp 2)), none⟩,
    .op ⟨(some 8), (.faddr 0 (.tmp 7)), none⟩,
    .op ⟨(some 9), (.load false 1 (.tmp 8)), none⟩,
    .op ⟨(some 10), (.mkfn 145 [(.tmp 3)]), none⟩,
    .op ⟨(some 11), (.call 144 [(.tmp 9), (.tmp 10)]), none⟩,
    .op ⟨(some 6), (.mv (.tmp 11)), none⟩]
def r_f113_2 : List SOp :=
   [.op ⟨(some 12), (.mv (.tmp 6)), none⟩,
    .op ⟨(some 13), (.bin .lss (.tmp 12) (.av (.int .i64 0))), none⟩]
def r_f113_3 : List SOp :=
   [.op ⟨(some 14), (.build [(.str []), (.int .i64 0), (.bool false), (.bool false)] []), none⟩,
    .op ⟨none, (.store 4 (.tmp 4) (.tmp 14)), none⟩,
    .op ⟨(some 5), (.mv (.av (.bool false))), none⟩]
def r_f113_4 : List SOp :=
   [.op ⟨(some 15), (.faddr 0 (.tmp 2)), none⟩,
    .op ⟨(some 16), (.faddr 0 (.tmp 15)), none⟩,
    .op ⟨(some 17), (.load false 1 (.tmp 16)), none⟩,
    .op ⟨(some 18), (.mv (.tmp 6)), none⟩,
    .op ⟨(some 19), (.iaddr 4 (.tmp 17) (.tmp 18)), none⟩,
    .op ⟨(some 20), (.load true 4 (.tmp 19)), none⟩,
    .op ⟨none, (.store 4 (.tmp 4) (.tmp 20)), none⟩,
    .op ⟨(some 5), (.mv (.av (.bool true))), none⟩]
def c_f113 : LFun := ⟨21, (.seq (.sreg r_f113_0 [])
  (.seq (.sreg r_f113_1 [true, false, false, false, false, false])
  (.seq (.seq (.sreg r_f113_2 [true, false])
  (.cond (.tmp 13) (.seq (.sreg r_f113_3 [true, false])
  .ret)
  .skip))
  (.seq (.sreg r_f113_4 [true, false, false, false, false, false, false])
  .ret)))), [(.cell true 4 4), (.tmp 5)]⟩
def o_f113 : Nat → Nat → Nat := fun _ _ => 1
theorem c_f113_eq : lowF Tryz.prog o_f113 113 = some c_f113.raw := by kernel_rfl
theorem c_f113_ok : c_f113.code.okc = true := by kernel_rfl
/-! strings.Compare -/
def r_f35_0 : List SOp :=
   [.op ⟨(some 4), (.mv (.av (.int .i64 0))), none⟩]
def r_f35_1 : List SOp :=
   [.op ⟨(some 5), (.mv (.tmp 0)), none⟩,
    .op ⟨(some 6), (.mv (.tmp 1)), none⟩,
    .op ⟨(some 7), (.call 72 [(.tmp 5), (.tmp 6)]), none⟩,
    .op ⟨(some 4), (.mv (.tmp 7)), none⟩]
def c_f35 : LFun := ⟨8, (.seq (.sreg r_f35_0 [])
  (.seq (.sreg r_f35_1 [true, false, false, false])
  .ret)), [(.tmp 4)]⟩
def o_f35 : Nat → Nat → Nat := fun _ _ => 1
theorem c_f35_eq : lowF Tryz.prog o_f35 35 = some c_f35.raw := by kernel_rfl
theorem c_f35_ok : c_f35.code.okc = true := by kernel_rfl
/-! (castellan/schema.book).kind$1 -/
def r_f145_0 : List SOp :=
   [.op ⟨(some 2), (.box (.tmp 0)), none⟩,
    .op ⟨(some 3), (.mv (.av (.bool false))), none⟩]
def r_f145_1 : List SOp :=
   [.op ⟨(some 4), (.faddr 0 (.tmp 2)), none⟩,
    .op ⟨(some 5), (.load false 1 (.tmp 4)), none⟩,
    .op ⟨(some 6), (.load false 1 (.tmp 1)), none⟩,
    .op ⟨(some 7), (.call 146 [(.tmp 5), (.tmp 6)]), none⟩,
    .op ⟨(some 3), (.mv (.tmp 7)), none⟩]
def c_f145 : LFun := ⟨8, (.seq (.sreg r_f145_0 [])
  (.seq (.sreg r_f145_1 [true, false, false, false, false])
  .ret)), [(.tmp 3)]⟩
def o_f145 : Nat → Nat → Nat := fun _ _ => 1
theorem c_f145_eq : lowF Tryz.prog o_f145 145 = some c_f145.raw := by kernel_rfl
theorem c_f145_ok : c_f145.code.okc = true := by kernel_rfl
/-! slices.IndexFunc[[]castellan/api.Type,castellan/api.Type] -/
def r_f144_0 : List SOp :=
   [.op ⟨(some 4), (.mv (.av (.int .i64 0))), none⟩]
def r_f144_1 : List SOp :=
   [.op ⟨(some 6), (.mv (.tmp 0)), none⟩,
    .op ⟨(some 7), (.len false (.tmp 6)), none⟩,
    .op ⟨(some 8), (.mv (.av (.int .i64 0))), none⟩]
def r_f144_2 : List SOp :=
   [.op ⟨(some 9), (.bin .lss (.tmp 8) (.tmp 7)), none⟩]
def r_f144_3 : List SOp :=
   [.op ⟨(some 10), (.mv (.tmp 8)), none⟩,
    .op ⟨(some 5), (.mv (.tmp 10)), none⟩]
def r_f144_4 : List SOp :=
   [.op ⟨(some 11), (.mv (.tmp 1)), none⟩,
    .op ⟨(some 12), (.mv (.tmp 0)), none⟩,
    .op ⟨(some 13), (.mv (.tmp 5)), none⟩,
    .op ⟨(some 14), (.iaddr 4 (.tmp 12) (.tmp 13)), none⟩,
    .op ⟨(some 15), (.load true 4 (.tmp 14)), none⟩,
    .op ⟨(some 16), (.callv (.tmp 11) [(.tmp 15)]), none⟩]
def r_f144_5 : List SOp :=
   [.op ⟨(some 17), (.mv (.tmp 5)), none⟩,
    .op ⟨(some 4), (.mv (.tmp 17)), none⟩]
def r_f144_6 : List SOp :=
   [.op ⟨(some 18), (.bin .add (.tmp 8) (.av (.int .i64 1))), none⟩,
    .op ⟨(some 8), (.mv (.tmp 18)), none⟩]
def r_f144_7 : List SOp :=
   [.op ⟨(some 4), (.mv (.av (.int .i64 (-1)))), none⟩]
def c_f144 : LFun := ⟨19, (.seq (.sreg r_f144_0 [])
  (.seq (.seq (.sreg r_f144_1 [true, true, false])
  (.block 0 (.loop (.seq (.sreg r_f144_2 [])
  (.seq (.cond (.tmp 9) .skip
  (.exit 0))
  (.seq (.block 1 (.seq (.sreg r_f144_3 [true, false])
  (.seq (.sreg r_f144_4 [true, false, false, false, false, false])
  (.cond (.tmp 16) (.seq (.sreg r_f144_5 [true, false])
  .ret)
  .skip))))
  (.sreg r_f144_6 [true, false])))))))
  (.seq (.sreg r_f144_7 [])
  .ret))), [(.tmp 4)]⟩
def o_f144 : Nat → Nat → Nat := fun _ _ => 1
theorem c_f144_eq : lowF Tryz.prog o_f144 144 = some c_f144.raw := by kernel_rfl
theorem c_f144_ok : c_f144.code.okc = true := by kernel_rfl
/-! internal/bytealg.CompareString -/
def r_f72_0 : List SOp :=
   [.op ⟨(some 4), (.mv (.av (.int .i64 0))), none⟩]
def r_f72_1 : List SOp :=
   [.op ⟨(some 5), (.mv (.tmp 0)), none⟩,
    .op ⟨(some 6), (.mv (.tmp 1)), none⟩,
    .op ⟨(some 7), (.call 106 [(.tmp 5), (.tmp 6)]), none⟩,
    .op ⟨(some 4), (.mv (.tmp 7)), none⟩]
def c_f72 : LFun := ⟨8, (.seq (.sreg r_f72_0 [])
  (.seq (.sreg r_f72_1 [true, false, false, false])
  .ret)), [(.tmp 4)]⟩
def o_f72 : Nat → Nat → Nat := fun _ _ => 1
theorem c_f72_eq : lowF Tryz.prog o_f72 72 = some c_f72.raw := by kernel_rfl
theorem c_f72_ok : c_f72.code.okc = true := by kernel_rfl
/-! castellan/schema.like -/
def r_f146_0 : List SOp :=
   [.op ⟨(some 4), (.mv (.av (.bool false))), none⟩]
def r_f146_1 : List SOp :=
   [.op ⟨(some 5), (.mv (.tmp 0)), none⟩,
    .op ⟨(some 6), (.call 44 [(.tmp 5)]), none⟩,
    .op ⟨(some 7), (.mv (.tmp 1)), none⟩,
    .op ⟨(some 8), (.call 44 [(.tmp 7)]), none⟩,
    .op ⟨(some 9), (.bin .eql (.tmp 6) (.tmp 8)), none⟩,
    .op ⟨(some 4), (.mv (.tmp 9)), none⟩]
def c_f146 : LFun := ⟨10, (.seq (.sreg r_f146_0 [])
  (.seq (.sreg r_f146_1 [true, false, false, false, false, false])
  .ret)), [(.tmp 4)]⟩
def o_f146 : Nat → Nat → Nat := fun _ _ => 1
theorem c_f146_eq : lowF Tryz.prog o_f146 146 = some c_f146.raw := by kernel_rfl
theorem c_f146_ok : c_f146.code.okc = true := by kernel_rfl

end Go.Proofs.YtpednpndahgleaaGreatDoor.Av
