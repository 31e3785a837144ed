/- Bodies of functions, lowered: printed by a program (wip/tools/lower.py); each is held against the program by the kernel. -/
import Derived.Test.YtafghkbedkjpmaaDoorAvU
import Derived.Test.YtafghkbedkjpmaaDoorRows
import Derived.KernelRfl
set_option maxRecDepth 100000
set_option linter.unusedSimpArgs false
set_option linter.unusedVariables false
namespace Go.Proofs.YtafghkbedkjpmaaDoor.Av
open Go

/-! castellan/policy.mod -/
def r_policy_mod_0 : List SOp :=
   [.op ⟨(some 4), (.alloc [(.int .i64 0), (.str []), (.sl [] 0 (some 0))]), none⟩]
def r_policy_mod_1 : List SOp :=
   [.op ⟨(some 8), (.mv (.tmp 0)), none⟩,
    .op ⟨(some 9), (.build [(.int .i64 0), (.str []), (.sl [] 0 (some 0))] [(0, (1, (.av (.int .i64 2)))), (1, (1, (.tmp 8)))]), none⟩,
    .op ⟨(some 5), (.alloc [(.int .i64 0), (.str []), (.sl [] 0 (some 0))]), none⟩,
    .op ⟨none, (.store 3 (.tmp 5) (.tmp 9)), none⟩]
def r_policy_mod_2 : List SOp :=
   [.op ⟨(some 10), (.mv (.tmp 1)), none⟩,
    .op ⟨(some 11), (.len false (.tmp 10)), none⟩,
    .op ⟨(some 12), (.mv (.av (.int .i64 0))), none⟩]
def r_policy_mod_3 : List SOp :=
   [.op ⟨(some 13), (.bin .lss (.tmp 12) (.tmp 11)), none⟩]
def r_policy_mod_4 : List SOp :=
   [.op ⟨(some 14), (.iaddr 1 (.tmp 10) (.tmp 12)), none⟩,
    .op ⟨(some 15), (.load false 1 (.tmp 14)), none⟩,
    .op ⟨(some 7), (.mv (.tmp 15)), none⟩]
def r_policy_mod_5 : List (LOper × Kd) :=
   [(⟨(some 16), (.faddr 2 (.tmp 5)), none⟩, .pure),
    (⟨(some 17), (.load false 1 (.tmp 16)), none⟩, (.read 0 0)),
    (⟨(some 18), (.mv (.tmp 7)), none⟩, .pure),
    (⟨(some 19), (.call 15 [(.tmp 18), (.av (.int .i64 10))]), none⟩, (.read 0 0)),
    (⟨(some 20), (.bslice false 1 1 [(.str [])] [(0, (1, (.tmp 19)))]), none⟩, (.read 0 0))]
def r_policy_mod_5t : List LOper :=
   [⟨(some 21), (.app 1 1 16 [(.str [])] (.tmp 17) (.tmp 20)), none⟩,
    ⟨(some 22), (.faddr 2 (.tmp 5)), none⟩,
    ⟨none, (.store 1 (.tmp 22) (.tmp 21)), none⟩]
def r_policy_mod_6 : List SOp :=
   [.op ⟨(some 23), (.bin .add (.tmp 12) (.av (.int .i64 1))), none⟩,
    .op ⟨(some 12), (.mv (.tmp 23)), none⟩]
def r_policy_mod_7 : List SOp :=
   [.op ⟨(some 24), (.load true 3 (.tmp 5)), none⟩,
    .op ⟨none, (.store 3 (.tmp 4) (.tmp 24)), none⟩]
def c_policy_mod : LFun := ⟨25, (.seq (.sreg r_policy_mod_0 [])
  (.seq (.sreg r_policy_mod_1 [true, false, false])
  (.seq (.seq (.sreg r_policy_mod_2 [])
  (.block 0 (.loop (.seq (.sreg r_policy_mod_3 [])
  (.seq (.cond (.tmp 13) .skip
  (.exit 0))
  (.seq (.block 1 (.seq (.sreg r_policy_mod_4 [true, false, false])
  (.dregM r_policy_mod_5 r_policy_mod_5t [false, false, false, false, false, false, false])))
  (.sreg r_policy_mod_6 [true, false])))))))
  (.seq (.sreg r_policy_mod_7 [false])
  .ret)))), [(.cell true 3 4)]⟩
attribute [push_cast] r_policy_mod_0 r_policy_mod_1 r_policy_mod_2 r_policy_mod_3 r_policy_mod_4 r_policy_mod_5 r_policy_mod_5t r_policy_mod_6 r_policy_mod_7
theorem c_policy_mod_eq : lowF Tryd.prog (fun _ _ => 1) 14 = some c_policy_mod.raw := by kernel_rfl

/-! castellan/policy.Mods -/
def r_policy_Mods_0 : List SOp :=
   [.op ⟨(some 1), (.box (.tmp 0)), none⟩,
    .op ⟨(some 2), (.mv (.av (.sl [] 0 (some 0)))), none⟩]
def r_policy_Mods_1 : List SOp :=
   [.op ⟨(some 8), (.call 14 [(.av (.str [112, 119, 100, 70, 97, 105, 108, 117, 114, 101])), (.av (.sl [] 0 (some 0)))]), none⟩,
    .op ⟨(some 3), (.alloc [(.int .i64 0), (.str []), (.sl [] 0 (some 0))]), none⟩,
    .op ⟨none, (.store 3 (.tmp 3) (.tmp 8)), none⟩,
    .op ⟨(some 4), (.mv (.av (.int .i64 0))), none⟩]
def r_policy_Mods_2 : List SOp :=
   [.op ⟨(some 9), (.faddr 0 (.tmp 1)), none⟩,
    .op ⟨(some 10), (.load false 1 (.tmp 9)), none⟩,
    .op ⟨(some 11), (.len false (.tmp 10)), none⟩,
    .op ⟨(some 12), (.mv (.av (.int .i64 0))), none⟩]
def r_policy_Mods_3 : List SOp :=
   [.op ⟨(some 13), (.bin .lss (.tmp 12) (.tmp 11)), none⟩]
def r_policy_Mods_4 : List SOp :=
   [.op ⟨(some 14), (.mv (.tmp 12)), none⟩,
    .op ⟨(some 15), (.iaddr 1 (.tmp 10) (.tmp 12)), none⟩,
    .op ⟨(some 16), (.load false 1 (.tmp 15)), none⟩,
    .op ⟨(some 5), (.mv (.tmp 14)), none⟩,
    .op ⟨(some 6), (.mv (.tmp 16)), none⟩]
def r_policy_Mods_5 : List SOp :=
   [.op ⟨(some 17), (.mv (.tmp 4)), none⟩,
    .op ⟨(some 18), (.bin .add (.tmp 17) (.av (.int .i64 1))), none⟩,
    .op ⟨(some 4), (.mv (.tmp 18)), none⟩]
def r_policy_Mods_6 : List SOp :=
   [.op ⟨(some 19), (.mv (.tmp 5)), none⟩,
    .op ⟨(some 20), (.bin .eql (.tmp 19) (.av (.int .i64 0))), none⟩,
    .op ⟨(some 21), (.mv (.tmp 20)), none⟩,
    .grp none 21 false
      [.op ⟨(some 22), (.faddr 0 (.tmp 1)), (some (21, false))⟩,
      .op ⟨(some 23), (.load false 1 (.tmp 22)), (some (21, false))⟩,
      .op ⟨(some 24), (.mv (.tmp 5)), (some (21, false))⟩,
      .op ⟨(some 25), (.bin .sub (.tmp 24) (.av (.int .i64 1))), (some (21, false))⟩,
      .op ⟨(some 26), (.iaddr 1 (.tmp 23) (.tmp 25)), (some (21, false))⟩,
      .op ⟨(some 27), (.load false 1 (.tmp 26)), (some (21, false))⟩,
      .op ⟨(some 28), (.mv (.tmp 6)), (some (21, false))⟩,
      .op ⟨(some 29), (.bin .neq (.tmp 27) (.tmp 28)), (some (21, false))⟩]
      30 (.tmp 29)]
def r_policy_Mods_7 : List SOp :=
   [.op ⟨(some 4), (.mv (.av (.int .i64 0))), none⟩]
def r_policy_Mods_8 : List (LOper × Kd) :=
   [(⟨(some 31), (.faddr 2 (.tmp 3)), none⟩, .pure),
    (⟨(some 32), (.load false 1 (.tmp 31)), none⟩, (.read 0 0)),
    (⟨(some 33), (.mv (.tmp 6)), none⟩, .pure),
    (⟨(some 34), (.call 15 [(.tmp 33), (.av (.int .i64 10))]), none⟩, (.read 0 0)),
    (⟨(some 35), (.bin .add (.tmp 34) (.av (.str [46]))), none⟩, .pure),
    (⟨(some 36), (.mv (.tmp 4)), none⟩, .pure),
    (⟨(some 37), (.call 16 [(.tmp 36)]), none⟩, (.read 0 0)),
    (⟨(some 38), (.bin .add (.tmp 35) (.tmp 37)), none⟩, .pure),
    (⟨(some 39), (.bslice false 1 1 [(.str [])] [(0, (1, (.tmp 38)))]), none⟩, (.read 0 0))]
def r_policy_Mods_8t : List LOper :=
   [⟨(some 40), (.app 1 1 16 [(.str [])] (.tmp 32) (.tmp 39)), none⟩,
    ⟨(some 41), (.faddr 2 (.tmp 3)), none⟩,
    ⟨none, (.store 1 (.tmp 41) (.tmp 40)), none⟩]
def r_policy_Mods_9 : List SOp :=
   [.op ⟨(some 42), (.bin .add (.tmp 12) (.av (.int .i64 1))), none⟩,
    .op ⟨(some 12), (.mv (.tmp 42)), none⟩]
def r_policy_Mods_10 : List SOp :=
   [.op ⟨(some 43), (.call 14 [(.av (.str [112, 119, 100, 76, 111, 99, 107, 101, 100])), (.av (.sl [] 0 (some 0)))]), none⟩,
    .op ⟨(some 7), (.alloc [(.int .i64 0), (.str []), (.sl [] 0 (some 0))]), none⟩,
    .op ⟨none, (.store 3 (.tmp 7) (.tmp 43)), none⟩]
def r_policy_Mods_11 : List SOp :=
   [.op ⟨(some 44), (.faddr 1 (.tmp 1)), none⟩,
    .op ⟨(some 45), (.load false 1 (.tmp 44)), none⟩,
    .op ⟨(some 46), (.bin .neq (.tmp 45) (.av (.int .i64 (-1)))), none⟩]
def r_policy_Mods_12 : List SOp :=
   [.op ⟨(some 47), (.faddr 1 (.tmp 1)), none⟩,
    .op ⟨(some 48), (.load false 1 (.tmp 47)), none⟩,
    .op ⟨(some 49), (.bslice false 1 1 [(.int .i64 0)] [(0, (1, (.tmp 48)))]), none⟩,
    .op ⟨(some 50), (.call 14 [(.av (.str [112, 119, 100, 76, 111, 99, 107, 101, 100])), (.tmp 49)]), none⟩,
    .op ⟨none, (.store 3 (.tmp 7) (.tmp 50)), none⟩]
def r_policy_Mods_13 : List SOp :=
   [.op ⟨(some 51), (.faddr 2 (.tmp 1)), none⟩,
    .op ⟨(some 52), (.load false 1 (.tmp 51)), none⟩,
    .op ⟨(some 53), (.bslice false 1 1 [(.int .i64 0)] [(0, (1, (.tmp 52)))]), none⟩,
    .op ⟨(some 54), (.call 14 [(.av (.str [112, 119, 100, 67, 104, 97, 110, 103, 101, 100])), (.tmp 53)]), none⟩,
    .op ⟨(some 55), (.load true 3 (.tmp 3)), none⟩,
    .op ⟨(some 56), (.load true 3 (.tmp 7)), none⟩,
    .op ⟨(some 57), (.bslice false 3 3 [(.int .i64 0), (.str []), (.sl [] 0 (some 0)), (.int .i64 0), (.str []), (.sl [] 0 (some 0)), (.int .i64 0), (.str []), (.sl [] 0 (some 0))] [(0, (3, (.tmp 54))), (3, (3, (.tmp 55))), (6, (3, (.tmp 56)))]), none⟩,
    .op ⟨(some 2), (.mv (.tmp 57)), none⟩]
def c_policy_Mods : LFun := ⟨58, (.seq (.sreg r_policy_Mods_0 [])
  (.seq (.sreg r_policy_Mods_1 [true, true, false])
  (.seq (.seq (.sreg r_policy_Mods_2 [true, true, true, false])
  (.block 0 (.loop (.seq (.sreg r_policy_Mods_3 [])
  (.seq (.cond (.tmp 13) .skip
  (.exit 0))
  (.seq (.block 1 (.seq (.sreg r_policy_Mods_4 [true, true, false, false, false])
  (.seq (.seq (.sreg r_policy_Mods_5 [true, false, false])
  (.seq (.sreg r_policy_Mods_6 [true, false, false, false])
  (.cond (.tmp 30) (.sreg r_policy_Mods_7 [])
  .skip)))
  (.dregM r_policy_Mods_8 r_policy_Mods_8t [false, false, false, false, false, false, false, false, false, false, false]))))
  (.sreg r_policy_Mods_9 [true, false])))))))
  (.seq (.sreg r_policy_Mods_10 [true, false])
  (.seq (.seq (.sreg r_policy_Mods_11 [true, false, false])
  (.cond (.tmp 46) (.sreg r_policy_Mods_12 [false, false, false, false])
  .skip))
  (.seq (.sdreg r_policy_Mods_13 [.pure, (.read 0 0), (.read 0 0), (.read 0 0), (.read 0 0), (.read 0 0)] [true, false, false, false, false, false, false, false])
  .ret)))))), [(.tmp 2)]⟩
attribute [push_cast] r_policy_Mods_0 r_policy_Mods_1 r_policy_Mods_2 r_policy_Mods_3 r_policy_Mods_4 r_policy_Mods_5 r_policy_Mods_6 r_policy_Mods_7 r_policy_Mods_8 r_policy_Mods_8t r_policy_Mods_9 r_policy_Mods_10 r_policy_Mods_11 r_policy_Mods_12 r_policy_Mods_13
theorem c_policy_Mods_eq : lowF Tryd.prog (fun _ _ => 1) 6 = some c_policy_Mods.raw := by kernel_rfl

/-! castellan/castellanref23.Mods -/
def r_ref23_Mods_0 : List SOp :=
   [.op ⟨(some 1), (.box (.tmp 0)), none⟩,
    .op ⟨(some 2), (.mv (.av (.sl [] 0 (some 0)))), none⟩]
def r_ref23_Mods_1 : List SOp :=
   [.op ⟨(some 10), (.faddr 2 (.tmp 1)), none⟩,
    .op ⟨(some 11), (.load false 1 (.tmp 10)), none⟩,
    .op ⟨(some 12), (.call 17 [(.tmp 11)]), none⟩,
    .op ⟨(some 13), (.bslice false 1 1 [(.str [])] [(0, (1, (.tmp 12)))]), none⟩,
    .op ⟨(some 14), (.build [(.int .i64 0), (.str []), (.sl [] 0 (some 0))] [(0, (1, (.av (.int .i64 2)))), (1, (1, (.av (.str [112, 119, 100, 67, 104, 97, 110, 103, 101, 100])))), (2, (1, (.tmp 13)))]), none⟩,
    .op ⟨(some 3), (.alloc [(.int .i64 0), (.str []), (.sl [] 0 (some 0))]), none⟩,
    .op ⟨none, (.store 3 (.tmp 3) (.tmp 14)), none⟩]
def r_ref23_Mods_2 : List SOp :=
   [.op ⟨(some 15), (.build [(.int .i64 0), (.str []), (.sl [] 0 (some 0))] [(0, (1, (.av (.int .i64 2)))), (1, (1, (.av (.str [112, 119, 100, 70, 97, 105, 108, 117, 114, 101]))))]), none⟩,
    .op ⟨(some 16), (.build [(.int .i64 0), (.str []), (.sl [] 0 (some 0))] [(0, (1, (.av (.int .i64 2)))), (1, (1, (.av (.str [112, 119, 100, 76, 111, 99, 107, 101, 100]))))]), none⟩,
    .op ⟨(some 4), (.alloc [(.int .i64 0), (.str []), (.sl [] 0 (some 0))]), none⟩,
    .op ⟨(some 5), (.alloc [(.int .i64 0), (.str []), (.sl [] 0 (some 0))]), none⟩,
    .op ⟨none, (.store 3 (.tmp 4) (.tmp 15)), none⟩,
    .op ⟨none, (.store 3 (.tmp 5) (.tmp 16)), none⟩]
def r_ref23_Mods_3 : List SOp :=
   [.op ⟨(some 17), (.faddr 0 (.tmp 1)), none⟩,
    .op ⟨(some 18), (.load false 1 (.tmp 17)), none⟩,
    .op ⟨(some 19), (.len false (.tmp 18)), none⟩,
    .op ⟨(some 20), (.mv (.av (.int .i64 0))), none⟩]
def r_ref23_Mods_4 : List SOp :=
   [.op ⟨(some 21), (.bin .lss (.tmp 20) (.tmp 19)), none⟩]
def r_ref23_Mods_5 : List SOp :=
   [.op ⟨(some 22), (.mv (.tmp 20)), none⟩,
    .op ⟨(some 23), (.iaddr 1 (.tmp 18) (.tmp 20)), none⟩,
    .op ⟨(some 24), (.load false 1 (.tmp 23)), none⟩,
    .op ⟨(some 6), (.mv (.tmp 22)), none⟩,
    .op ⟨(some 7), (.mv (.tmp 24)), none⟩]
def r_ref23_Mods_6 : List SOp :=
   [.op ⟨(some 8), (.mv (.av (.int .i64 0))), none⟩]
def r_ref23_Mods_7 : List SOp :=
   [.op ⟨(some 9), (.mv (.av (.int .i64 0))), none⟩]
def r_ref23_Mods_8 : List SOp :=
   [.op ⟨(some 25), (.mv (.tmp 9)), none⟩,
    .op ⟨(some 26), (.mv (.tmp 6)), none⟩,
    .op ⟨(some 27), (.bin .lss (.tmp 25) (.tmp 26)), none⟩]
def r_ref23_Mods_9 : List SOp :=
   [.op ⟨(some 30), (.faddr 0 (.tmp 1)), none⟩,
    .op ⟨(some 31), (.load false 1 (.tmp 30)), none⟩,
    .op ⟨(some 32), (.mv (.tmp 9)), none⟩,
    .op ⟨(some 33), (.iaddr 1 (.tmp 31) (.tmp 32)), none⟩,
    .op ⟨(some 34), (.load false 1 (.tmp 33)), none⟩,
    .op ⟨(some 35), (.mv (.tmp 7)), none⟩,
    .op ⟨(some 36), (.bin .eql (.tmp 34) (.tmp 35)), none⟩]
def r_ref23_Mods_10 : List SOp :=
   [.op ⟨(some 37), (.mv (.tmp 8)), none⟩,
    .op ⟨(some 38), (.bin .add (.tmp 37) (.av (.int .i64 1))), none⟩,
    .op ⟨(some 8), (.mv (.tmp 38)), none⟩]
def r_ref23_Mods_11 : List SOp :=
   [.op ⟨(some 28), (.mv (.tmp 9)), none⟩,
    .op ⟨(some 29), (.bin .add (.tmp 28) (.av (.int .i64 1))), none⟩,
    .op ⟨(some 9), (.mv (.tmp 29)), none⟩]
def r_ref23_Mods_12 : List (LOper × Kd) :=
   [(⟨(some 39), (.faddr 2 (.tmp 4)), none⟩, .pure),
    (⟨(some 40), (.load false 1 (.tmp 39)), none⟩, (.read 0 0)),
    (⟨(some 41), (.mv (.tmp 7)), none⟩, .pure),
    (⟨(some 42), (.call 17 [(.tmp 41)]), none⟩, (.read 0 0)),
    (⟨(some 43), (.bin .add (.tmp 42) (.av (.str [46]))), none⟩, .pure),
    (⟨(some 44), (.mv (.tmp 8)), none⟩, .pure),
    (⟨(some 45), (.call 17 [(.tmp 44)]), none⟩, (.read 0 0)),
    (⟨(some 46), (.bin .add (.tmp 43) (.tmp 45)), none⟩, .pure),
    (⟨(some 47), (.bslice false 1 1 [(.str [])] [(0, (1, (.tmp 46)))]), none⟩, (.read 0 0))]
def r_ref23_Mods_12t : List LOper :=
   [⟨(some 48), (.app 1 1 16 [(.str [])] (.tmp 40) (.tmp 47)), none⟩,
    ⟨(some 49), (.faddr 2 (.tmp 4)), none⟩,
    ⟨none, (.store 1 (.tmp 49) (.tmp 48)), none⟩]
def r_ref23_Mods_13 : List SOp :=
   [.op ⟨(some 50), (.bin .add (.tmp 20) (.av (.int .i64 1))), none⟩,
    .op ⟨(some 20), (.mv (.tmp 50)), none⟩]
def r_ref23_Mods_14 : List SOp :=
   [.op ⟨(some 51), (.faddr 1 (.tmp 1)), none⟩,
    .op ⟨(some 52), (.load false 1 (.tmp 51)), none⟩,
    .op ⟨(some 53), (.bin .neq (.tmp 52) (.av (.int .i64 (-1)))), none⟩]
def r_ref23_Mods_15 : List (LOper × Kd) :=
   [(⟨(some 54), (.faddr 2 (.tmp 5)), none⟩, .pure),
    (⟨(some 55), (.load false 1 (.tmp 54)), none⟩, (.read 0 0)),
    (⟨(some 56), (.faddr 1 (.tmp 1)), none⟩, .pure),
    (⟨(some 57), (.load false 1 (.tmp 56)), none⟩, (.read 0 0)),
    (⟨(some 58), (.call 17 [(.tmp 57)]), none⟩, (.read 0 0)),
    (⟨(some 59), (.bslice false 1 1 [(.str [])] [(0, (1, (.tmp 58)))]), none⟩, (.read 0 0))]
def r_ref23_Mods_15t : List LOper :=
   [⟨(some 60), (.app 1 1 16 [(.str [])] (.tmp 55) (.tmp 59)), none⟩,
    ⟨(some 61), (.faddr 2 (.tmp 5)), none⟩,
    ⟨none, (.store 1 (.tmp 61) (.tmp 60)), none⟩]
def r_ref23_Mods_16 : List SOp :=
   [.op ⟨(some 62), (.load true 3 (.tmp 3)), none⟩,
    .op ⟨(some 63), (.load true 3 (.tmp 4)), none⟩,
    .op ⟨(some 64), (.load true 3 (.tmp 5)), none⟩,
    .op ⟨(some 65), (.bslice false 3 3 [(.int .i64 0), (.str []), (.sl [] 0 (some 0)), (.int .i64 0), (.str []), (.sl [] 0 (some 0)), (.int .i64 0), (.str []), (.sl [] 0 (some 0))] [(0, (3, (.tmp 62))), (3, (3, (.tmp 63))), (6, (3, (.tmp 64)))]), none⟩,
    .op ⟨(some 2), (.mv (.tmp 65)), none⟩]
def c_ref23_Mods : LFun := ⟨66, (.seq (.sreg r_ref23_Mods_0 [])
  (.seq (.sreg r_ref23_Mods_1 [true, false, false, false, false, false])
  (.seq (.sreg r_ref23_Mods_2 [true, true, false, false])
  (.seq (.seq (.sreg r_ref23_Mods_3 [true, true, true, false])
  (.block 0 (.loop (.seq (.sreg r_ref23_Mods_4 [])
  (.seq (.cond (.tmp 21) .skip
  (.exit 0))
  (.seq (.block 1 (.seq (.sreg r_ref23_Mods_5 [true, true, false, false, false])
  (.seq (.sreg r_ref23_Mods_6 [])
  (.seq (.seq (.sreg r_ref23_Mods_7 [])
  (.block 2 (.loop (.seq (.seq (.sreg r_ref23_Mods_8 [true, false, false])
  (.cond (.tmp 27) .skip
  (.exit 2)))
  (.seq (.block 3 (.seq (.sreg r_ref23_Mods_9 [true, false, false, false, false, false, false])
  (.cond (.tmp 36) (.sreg r_ref23_Mods_10 [true, false, false])
  .skip)))
  (.sreg r_ref23_Mods_11 [true, false, false]))))))
  (.dregM r_ref23_Mods_12 r_ref23_Mods_12t [false, false, false, false, false, false, false, false, false, false, false])))))
  (.sreg r_ref23_Mods_13 [true, false])))))))
  (.seq (.seq (.sreg r_ref23_Mods_14 [true, false, false])
  (.cond (.tmp 53) (.dregM r_ref23_Mods_15 r_ref23_Mods_15t [false, false, false, false, false, false, false, false])
  .skip))
  (.seq (.sreg r_ref23_Mods_16 [true, false, false, false, false])
  .ret)))))), [(.tmp 2)]⟩
attribute [push_cast] r_ref23_Mods_0 r_ref23_Mods_1 r_ref23_Mods_2 r_ref23_Mods_3 r_ref23_Mods_4 r_ref23_Mods_5 r_ref23_Mods_6 r_ref23_Mods_7 r_ref23_Mods_8 r_ref23_Mods_9 r_ref23_Mods_10 r_ref23_Mods_11 r_ref23_Mods_12 r_ref23_Mods_12t r_ref23_Mods_13 r_ref23_Mods_14 r_ref23_Mods_15 r_ref23_Mods_15t r_ref23_Mods_16
theorem c_ref23_Mods_eq : lowF Tryd.prog (fun _ _ => 1) 7 = some c_ref23_Mods.raw := by kernel_rfl

/-! castellan/castellanref23.Decimal -/
def r_ref23_Decimal_0 : List SOp :=
   [.op ⟨(some 2), (.mv (.av (.str []))), none⟩]
def r_ref23_Decimal_1 : List SOp :=
   [.op ⟨(some 3), (.mv (.av (.str []))), none⟩]
def r_ref23_Decimal_2 : List SOp :=
   [.op ⟨(some 4), (.mv (.tmp 0)), none⟩,
    .op ⟨(some 5), (.bin .geq (.tmp 4) (.av (.int .i64 10))), none⟩]
def r_ref23_Decimal_3 : List SOp :=
   [.op ⟨(some 6), (.mv (.tmp 0)), none⟩,
    .op ⟨(some 7), (.bin .rem (.tmp 6) (.av (.int .i64 10))), none⟩,
    .op ⟨(some 8), (.bin .add (.av (.int .i64 48)) (.tmp 7)), none⟩,
    .op ⟨(some 9), (.conv .u8 (.tmp 8)), none⟩,
    .op ⟨(some 10), (.bslice false 1 1 [(.int .u8 0)] [(0, (1, (.tmp 9)))]), none⟩,
    .op ⟨(some 11), (.b2s (.tmp 10)), none⟩,
    .op ⟨(some 12), (.mv (.tmp 3)), none⟩,
    .op ⟨(some 13), (.bin .add (.tmp 11) (.tmp 12)), none⟩,
    .op ⟨(some 3), (.mv (.tmp 13)), none⟩]
def r_ref23_Decimal_4 : List SOp :=
   [.op ⟨(some 14), (.mv (.tmp 0)), none⟩,
    .op ⟨(some 15), (.bin .quo (.tmp 14) (.av (.int .i64 10))), none⟩,
    .op ⟨(some 0), (.mv (.tmp 15)), none⟩]
def r_ref23_Decimal_5 : List SOp :=
   [.op ⟨(some 16), (.mv (.tmp 0)), none⟩,
    .op ⟨(some 17), (.bin .add (.av (.int .i64 48)) (.tmp 16)), none⟩,
    .op ⟨(some 18), (.conv .u8 (.tmp 17)), none⟩,
    .op ⟨(some 19), (.bslice false 1 1 [(.int .u8 0)] [(0, (1, (.tmp 18)))]), none⟩,
    .op ⟨(some 20), (.b2s (.tmp 19)), none⟩,
    .op ⟨(some 21), (.mv (.tmp 3)), none⟩,
    .op ⟨(some 22), (.bin .add (.tmp 20) (.tmp 21)), none⟩,
    .op ⟨(some 2), (.mv (.tmp 22)), none⟩]
def c_ref23_Decimal : LFun := ⟨23, (.seq (.sreg r_ref23_Decimal_0 [])
  (.seq (.sreg r_ref23_Decimal_1 [])
  (.seq (.block 0 (.loop (.seq (.seq (.sreg r_ref23_Decimal_2 [true, false])
  (.cond (.tmp 5) .skip
  (.exit 0)))
  (.block 1 (.seq (.sreg r_ref23_Decimal_3 [true, false, false, false, false, false, false, false, false])
  (.sreg r_ref23_Decimal_4 [true, false, false]))))))
  (.seq (.sreg r_ref23_Decimal_5 [true, false, false, false, false, false, false, false])
  .ret)))), [(.tmp 2)]⟩
attribute [push_cast] r_ref23_Decimal_0 r_ref23_Decimal_1 r_ref23_Decimal_2 r_ref23_Decimal_3 r_ref23_Decimal_4 r_ref23_Decimal_5
theorem c_ref23_Decimal_eq : lowF Tryd.prog (fun _ _ => 1) 17 = some c_ref23_Decimal.raw := by kernel_rfl

/-! castellan/castellanref14.Same -/
def r_ref14_Same_0 : List SOp :=
   [.op ⟨(some 4), (.mv (.av (.bool false))), none⟩]
def r_ref14_Same_1 : List SOp :=
   [.op ⟨(some 7), (.mv (.tmp 0)), none⟩,
    .op ⟨(some 8), (.len false (.tmp 7)), none⟩,
    .op ⟨(some 9), (.mv (.tmp 1)), none⟩,
    .op ⟨(some 10), (.len false (.tmp 9)), none⟩,
    .op ⟨(some 11), (.bin .neq (.tmp 8) (.tmp 10)), none⟩]
def r_ref14_Same_2 : List SOp :=
   [.op ⟨(some 4), (.mv (.av (.bool false))), none⟩]
def r_ref14_Same_3 : List SOp :=
   [.op ⟨(some 12), (.mv (.tmp 0)), none⟩,
    .op ⟨(some 13), (.len false (.tmp 12)), none⟩,
    .op ⟨(some 14), (.mv (.av (.int .i64 0))), none⟩]
def r_ref14_Same_4 : List SOp :=
   [.op ⟨(some 15), (.bin .lss (.tmp 14) (.tmp 13)), none⟩]
def r_ref14_Same_5 : List SOp :=
   [.op ⟨(some 16), (.mv (.tmp 14)), none⟩,
    .op ⟨(some 5), (.mv (.tmp 16)), none⟩]
def r_ref14_Same_6 : List SOp :=
   [.op ⟨(some 17), (.mv (.tmp 0)), none⟩,
    .op ⟨(some 18), (.mv (.tmp 5)), none⟩,
    .op ⟨(some 19), (.iaddr 2 (.tmp 17) (.tmp 18)), none⟩,
    .op ⟨(some 20), (.faddr 0 (.tmp 19)), none⟩,
    .op ⟨(some 21), (.load false 1 (.tmp 20)), none⟩,
    .op ⟨(some 22), (.mv (.tmp 1)), none⟩,
    .op ⟨(some 23), (.mv (.tmp 5)), none⟩,
    .op ⟨(some 24), (.iaddr 2 (.tmp 22) (.tmp 23)), none⟩,
    .op ⟨(some 25), (.faddr 0 (.tmp 24)), none⟩,
    .op ⟨(some 26), (.load false 1 (.tmp 25)), none⟩,
    .op ⟨(some 27), (.bin .neq (.tmp 21) (.tmp 26)), none⟩,
    .op ⟨(some 28), (.mv (.tmp 27)), none⟩,
    .grp none 28 false
      [.op ⟨(some 29), (.mv (.tmp 0)), (some (28, false))⟩,
      .op ⟨(some 30), (.mv (.tmp 5)), (some (28, false))⟩,
      .op ⟨(some 31), (.iaddr 2 (.tmp 29) (.tmp 30)), (some (28, false))⟩,
      .op ⟨(some 32), (.faddr 1 (.tmp 31)), (some (28, false))⟩,
      .op ⟨(some 33), (.load false 1 (.tmp 32)), (some (28, false))⟩,
      .op ⟨(some 34), (.len false (.tmp 33)), (some (28, false))⟩,
      .op ⟨(some 35), (.mv (.tmp 1)), (some (28, false))⟩,
      .op ⟨(some 36), (.mv (.tmp 5)), (some (28, false))⟩,
      .op ⟨(some 37), (.iaddr 2 (.tmp 35) (.tmp 36)), (some (28, false))⟩,
      .op ⟨(some 38), (.faddr 1 (.tmp 37)), (some (28, false))⟩,
      .op ⟨(some 39), (.load false 1 (.tmp 38)), (some (28, false))⟩,
      .op ⟨(some 40), (.len false (.tmp 39)), (some (28, false))⟩,
      .op ⟨(some 41), (.bin .neq (.tmp 34) (.tmp 40)), (some (28, false))⟩]
      42 (.tmp 41)]
def r_ref14_Same_7 : List SOp :=
   [.op ⟨(some 4), (.mv (.av (.bool false))), none⟩]
def r_ref14_Same_8 : List SOp :=
   [.op ⟨(some 43), (.mv (.tmp 0)), none⟩,
    .op ⟨(some 44), (.mv (.tmp 5)), none⟩,
    .op ⟨(some 45), (.iaddr 2 (.tmp 43) (.tmp 44)), none⟩,
    .op ⟨(some 46), (.faddr 1 (.tmp 45)), none⟩,
    .op ⟨(some 47), (.load false 1 (.tmp 46)), none⟩,
    .op ⟨(some 48), (.len false (.tmp 47)), none⟩,
    .op ⟨(some 49), (.mv (.av (.int .i64 0))), none⟩]
def r_ref14_Same_9 : List SOp :=
   [.op ⟨(some 50), (.bin .lss (.tmp 49) (.tmp 48)), none⟩]
def r_ref14_Same_10 : List SOp :=
   [.op ⟨(some 51), (.mv (.tmp 49)), none⟩,
    .op ⟨(some 6), (.mv (.tmp 51)), none⟩]
def r_ref14_Same_11 : List SOp :=
   [.op ⟨(some 52), (.mv (.tmp 0)), none⟩,
    .op ⟨(some 53), (.mv (.tmp 5)), none⟩,
    .op ⟨(some 54), (.iaddr 2 (.tmp 52) (.tmp 53)), none⟩,
    .op ⟨(some 55), (.faddr 1 (.tmp 54)), none⟩,
    .op ⟨(some 56), (.load false 1 (.tmp 55)), none⟩,
    .op ⟨(some 57), (.mv (.tmp 6)), none⟩,
    .op ⟨(some 58), (.iaddr 1 (.tmp 56) (.tmp 57)), none⟩,
    .op ⟨(some 59), (.load false 1 (.tmp 58)), none⟩,
    .op ⟨(some 60), (.mv (.tmp 1)), none⟩,
    .op ⟨(some 61), (.mv (.tmp 5)), none⟩,
    .op ⟨(some 62), (.iaddr 2 (.tmp 60) (.tmp 61)), none⟩,
    .op ⟨(some 63), (.faddr 1 (.tmp 62)), none⟩,
    .op ⟨(some 64), (.load false 1 (.tmp 63)), none⟩,
    .op ⟨(some 65), (.mv (.tmp 6)), none⟩,
    .op ⟨(some 66), (.iaddr 1 (.tmp 64) (.tmp 65)), none⟩,
    .op ⟨(some 67), (.load false 1 (.tmp 66)), none⟩,
    .op ⟨(some 68), (.bin .neq (.tmp 59) (.tmp 67)), none⟩]
def r_ref14_Same_12 : List SOp :=
   [.op ⟨(some 4), (.mv (.av (.bool false))), none⟩]
def r_ref14_Same_13 : List SOp :=
   [.op ⟨(some 69), (.bin .add (.tmp 49) (.av (.int .i64 1))), none⟩,
    .op ⟨(some 49), (.mv (.tmp 69)), none⟩]
def r_ref14_Same_14 : List SOp :=
   [.op ⟨(some 70), (.bin .add (.tmp 14) (.av (.int .i64 1))), none⟩,
    .op ⟨(some 14), (.mv (.tmp 70)), none⟩]
def r_ref14_Same_15 : List SOp :=
   [.op ⟨(some 4), (.mv (.av (.bool true))), none⟩]
def c_ref14_Same : LFun := ⟨71, (.seq (.sreg r_ref14_Same_0 [])
  (.seq (.seq (.sreg r_ref14_Same_1 [true, false, false, false, false])
  (.cond (.tmp 11) (.seq (.sreg r_ref14_Same_2 [])
  .ret)
  .skip))
  (.seq (.seq (.sreg r_ref14_Same_3 [true, true, false])
  (.block 0 (.loop (.seq (.sreg r_ref14_Same_4 [])
  (.seq (.cond (.tmp 15) .skip
  (.exit 0))
  (.seq (.block 1 (.seq (.sreg r_ref14_Same_5 [true, false])
  (.seq (.seq (.sdreg r_ref14_Same_6 [.pure, .pure, (.read 0 0), .pure, (.read 0 0), .pure, .pure, (.read 0 0), .pure, (.read 0 0), .pure, .pure, .pure, .pure, (.read 0 0), .pure, (.read 0 0), (.read 0 0), .pure, .pure, (.read 0 0), .pure, (.read 0 0), (.read 0 0)] [true, false, false, false, false, false, false, false, false, false, false, false, false])
  (.cond (.tmp 42) (.seq (.sreg r_ref14_Same_7 [])
  .ret)
  .skip))
  (.seq (.sreg r_ref14_Same_8 [true, true, false, false, false, false, false])
  (.block 2 (.loop (.seq (.sreg r_ref14_Same_9 [])
  (.seq (.cond (.tmp 50) .skip
  (.exit 2))
  (.seq (.block 3 (.seq (.sreg r_ref14_Same_10 [true, false])
  (.seq (.sdreg r_ref14_Same_11 [.pure, .pure, (.read 0 0), .pure, (.read 0 0), .pure, (.read 0 0), (.read 0 0), .pure, .pure, (.read 0 0), .pure, (.read 0 0), .pure, (.read 0 0), (.read 0 0)] [true, false, false, false, false, false, false, false, false, false, false, false, false, false, false, false, false])
  (.cond (.tmp 68) (.seq (.sreg r_ref14_Same_12 [])
  .ret)
  .skip))))
  (.sreg r_ref14_Same_13 [true, false]))))))))))
  (.sreg r_ref14_Same_14 [true, false])))))))
  (.seq (.sreg r_ref14_Same_15 [])
  .ret)))), [(.tmp 4)]⟩
attribute [push_cast] r_ref14_Same_0 r_ref14_Same_1 r_ref14_Same_2 r_ref14_Same_3 r_ref14_Same_4 r_ref14_Same_5 r_ref14_Same_6 r_ref14_Same_7 r_ref14_Same_8 r_ref14_Same_9 r_ref14_Same_10 r_ref14_Same_11 r_ref14_Same_12 r_ref14_Same_13 r_ref14_Same_14 r_ref14_Same_15
theorem c_ref14_Same_eq : lowF Tryd.prog (fun _ _ => 1) 9 = some c_ref14_Same.raw := by kernel_rfl

/-! castellan/castellanlaw23.PolicyMods -/
def r_law23_PolicyMods_0 : List SOp :=
   [.op ⟨(some 1), (.box (.tmp 0)), none⟩,
    .op ⟨(some 2), (.mv (.av (.bool false))), none⟩]
def r_law23_PolicyMods_1 : List SOp :=
   [.op ⟨(some 6), (.load true 3 (.tmp 1)), none⟩,
    .op ⟨(some 7), (.call 4 [(.tmp 6)]), none⟩,
    .op ⟨(some 8), (.un .not (.tmp 7)), none⟩,
    .op ⟨(some 9), (.mv (.tmp 8)), none⟩,
    .grp none 9 false
      [.op ⟨(some 10), (.faddr 0 (.tmp 1)), (some (9, false))⟩,
      .op ⟨(some 11), (.load false 1 (.tmp 10)), (some (9, false))⟩,
      .op ⟨(some 12), (.len false (.tmp 11)), (some (9, false))⟩,
      .op ⟨(some 13), (.bin .gtr (.tmp 12) (.av (.int .i64 100))), (some (9, false))⟩]
      14 (.tmp 13)]
def r_law23_PolicyMods_2 : List SOp :=
   [.op ⟨(some 15), (.call 5 []), none⟩,
    .op ⟨(some 2), (.mv (.tmp 15)), none⟩]
def r_law23_PolicyMods_3 : List SOp :=
   [.op ⟨(some 16), (.load true 3 (.tmp 1)), none⟩,
    .op ⟨(some 17), (.call 6 [(.tmp 16)]), none⟩,
    .op ⟨(some 18), (.load true 3 (.tmp 1)), none⟩,
    .op ⟨(some 19), (.call 8 [(.tmp 18)]), none⟩,
    .op ⟨(some 20), (.call 7 [(.tmp 19)]), none⟩,
    .op ⟨(some 3), (.mv (.tmp 17)), none⟩,
    .op ⟨(some 4), (.mv (.tmp 20)), none⟩]
def r_law23_PolicyMods_4 : List SOp :=
   [.op ⟨(some 21), (.mv (.tmp 3)), none⟩,
    .op ⟨(some 22), (.len false (.tmp 21)), none⟩,
    .op ⟨(some 23), (.mv (.tmp 4)), none⟩,
    .op ⟨(some 24), (.len false (.tmp 23)), none⟩,
    .op ⟨(some 25), (.bin .neq (.tmp 22) (.tmp 24)), none⟩]
def r_law23_PolicyMods_5 : List SOp :=
   [.op ⟨(some 2), (.mv (.av (.bool false))), none⟩]
def r_law23_PolicyMods_6 : List SOp :=
   [.op ⟨(some 26), (.mv (.tmp 3)), none⟩,
    .op ⟨(some 27), (.len false (.tmp 26)), none⟩,
    .op ⟨(some 28), (.mv (.av (.int .i64 0))), none⟩]
def r_law23_PolicyMods_7 : List SOp :=
   [.op ⟨(some 29), (.bin .lss (.tmp 28) (.tmp 27)), none⟩]
def r_law23_PolicyMods_8 : List SOp :=
   [.op ⟨(some 30), (.mv (.tmp 28)), none⟩,
    .op ⟨(some 5), (.mv (.tmp 30)), none⟩]
def r_law23_PolicyMods_9 : List SOp :=
   [.op ⟨(some 31), (.mv (.tmp 3)), none⟩,
    .op ⟨(some 32), (.mv (.tmp 5)), none⟩,
    .op ⟨(some 33), (.iaddr 3 (.tmp 31) (.tmp 32)), none⟩,
    .op ⟨(some 34), (.faddr 0 (.tmp 33)), none⟩,
    .op ⟨(some 35), (.load false 1 (.tmp 34)), none⟩,
    .op ⟨(some 36), (.mv (.tmp 4)), none⟩,
    .op ⟨(some 37), (.mv (.tmp 5)), none⟩,
    .op ⟨(some 38), (.iaddr 3 (.tmp 36) (.tmp 37)), none⟩,
    .op ⟨(some 39), (.faddr 0 (.tmp 38)), none⟩,
    .op ⟨(some 40), (.load false 1 (.tmp 39)), none⟩,
    .op ⟨(some 41), (.bin .neq (.tmp 35) (.tmp 40)), none⟩,
    .op ⟨(some 42), (.mv (.tmp 41)), none⟩,
    .grp none 42 false
      [.op ⟨(some 43), (.mv (.tmp 3)), (some (42, false))⟩,
      .op ⟨(some 44), (.mv (.tmp 5)), (some (42, false))⟩,
      .op ⟨(some 45), (.iaddr 3 (.tmp 43) (.tmp 44)), (some (42, false))⟩,
      .op ⟨(some 46), (.faddr 1 (.tmp 45)), (some (42, false))⟩,
      .op ⟨(some 47), (.load false 1 (.tmp 46)), (some (42, false))⟩,
      .op ⟨(some 48), (.mv (.tmp 4)), (some (42, false))⟩,
      .op ⟨(some 49), (.mv (.tmp 5)), (some (42, false))⟩,
      .op ⟨(some 50), (.iaddr 3 (.tmp 48) (.tmp 49)), (some (42, false))⟩,
      .op ⟨(some 51), (.faddr 1 (.tmp 50)), (some (42, false))⟩,
      .op ⟨(some 52), (.load false 1 (.tmp 51)), (some (42, false))⟩,
      .op ⟨(some 53), (.bin .neq (.tmp 47) (.tmp 52)), (some (42, false))⟩]
      54 (.tmp 53),
    .op ⟨(some 55), (.mv (.tmp 54)), none⟩,
    .grp none 55 false
      [.op ⟨(some 56), (.mv (.tmp 3)), (some (55, false))⟩,
      .op ⟨(some 57), (.mv (.tmp 5)), (some (55, false))⟩,
      .op ⟨(some 58), (.iaddr 3 (.tmp 56) (.tmp 57)), (some (55, false))⟩,
      .op ⟨(some 59), (.faddr 2 (.tmp 58)), (some (55, false))⟩,
      .op ⟨(some 60), (.load false 1 (.tmp 59)), (some (55, false))⟩,
      .op ⟨(some 61), (.build [(.str []), (.sl [] 0 (some 0))] [(1, (1, (.tmp 60)))]), (some (55, false))⟩,
      .op ⟨(some 62), (.bslice false 2 1 [(.str []), (.sl [] 0 (some 0))] [(0, (2, (.tmp 61)))]), (some (55, false))⟩,
      .op ⟨(some 63), (.mv (.tmp 4)), (some (55, false))⟩,
      .op ⟨(some 64), (.mv (.tmp 5)), (some (55, false))⟩,
      .op ⟨(some 65), (.iaddr 3 (.tmp 63) (.tmp 64)), (some (55, false))⟩,
      .op ⟨(some 66), (.faddr 2 (.tmp 65)), (some (55, false))⟩,
      .op ⟨(some 67), (.load false 1 (.tmp 66)), (some (55, false))⟩,
      .op ⟨(some 68), (.build [(.str []), (.sl [] 0 (some 0))] [(1, (1, (.tmp 67)))]), (some (55, false))⟩,
      .op ⟨(some 69), (.bslice false 2 1 [(.str []), (.sl [] 0 (some 0))] [(0, (2, (.tmp 68)))]), (some (55, false))⟩,
      .op ⟨(some 70), (.call 9 [(.tmp 62), (.tmp 69)]), (some (55, false))⟩,
      .op ⟨(some 71), (.un .not (.tmp 70)), (some (55, false))⟩]
      72 (.tmp 71)]
def r_law23_PolicyMods_10 : List SOp :=
   [.op ⟨(some 2), (.mv (.av (.bool false))), none⟩]
def r_law23_PolicyMods_11 : List SOp :=
   [.op ⟨(some 73), (.bin .add (.tmp 28) (.av (.int .i64 1))), none⟩,
    .op ⟨(some 28), (.mv (.tmp 73)), none⟩]
def r_law23_PolicyMods_12 : List SOp :=
   [.op ⟨(some 74), (.call 5 []), none⟩,
    .op ⟨(some 2), (.mv (.tmp 74)), none⟩]
def c_law23_PolicyMods : LFun := ⟨75, (.seq (.sreg r_law23_PolicyMods_0 [])
  (.seq (.seq (.sreg r_law23_PolicyMods_1 [true, false, false, false, false])
  (.cond (.tmp 14) (.seq (.sreg r_law23_PolicyMods_2 [true, false])
  .ret)
  .skip))
  (.seq (.sdreg r_law23_PolicyMods_3 [(.read 0 0), (.read 0 0), (.read 0 0)] [true, true, false, false, false, false, false])
  (.seq (.seq (.sreg r_law23_PolicyMods_4 [true, false, false, false, false])
  (.cond (.tmp 25) (.seq (.sreg r_law23_PolicyMods_5 [])
  .ret)
  .skip))
  (.seq (.seq (.sreg r_law23_PolicyMods_6 [true, true, false])
  (.block 0 (.loop (.seq (.sreg r_law23_PolicyMods_7 [])
  (.seq (.cond (.tmp 29) .skip
  (.exit 0))
  (.seq (.block 1 (.seq (.sreg r_law23_PolicyMods_8 [true, false])
  (.seq (.sdreg r_law23_PolicyMods_9 [.pure, .pure, (.read 0 0), .pure, (.read 0 0), .pure, .pure, (.read 0 0), .pure, (.read 0 0), .pure, .pure, .pure, .pure, (.read 0 0), .pure, (.read 0 0), .pure, .pure, (.read 0 0), .pure, (.read 0 0), .pure, .pure, .pure, .pure, .pure, (.read 0 0), .pure, (.read 0 0), .pure, (.read 0 0), .pure, .pure, (.read 0 0), .pure, (.read 0 0), .pure, (.read 0 0)] [true, false, false, false, false, false, false, false, false, false, false, false, false, false, false])
  (.cond (.tmp 72) (.seq (.sreg r_law23_PolicyMods_10 [])
  .ret)
  .skip))))
  (.sreg r_law23_PolicyMods_11 [true, false])))))))
  (.seq (.sreg r_law23_PolicyMods_12 [true, false])
  .ret)))))), [(.tmp 2)]⟩
attribute [push_cast] r_law23_PolicyMods_0 r_law23_PolicyMods_1 r_law23_PolicyMods_2 r_law23_PolicyMods_3 r_law23_PolicyMods_4 r_law23_PolicyMods_5 r_law23_PolicyMods_6 r_law23_PolicyMods_7 r_law23_PolicyMods_8 r_law23_PolicyMods_9 r_law23_PolicyMods_10 r_law23_PolicyMods_11 r_law23_PolicyMods_12
theorem c_law23_PolicyMods_eq : lowF Tryd.prog (fun _ _ => 1) 3 = some c_law23_PolicyMods.raw := by kernel_rfl

end Go.Proofs.YtafghkbedkjpmaaDoor.Av
