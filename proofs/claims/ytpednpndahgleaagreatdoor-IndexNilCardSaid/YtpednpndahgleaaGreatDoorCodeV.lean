/- Bodies of functions, lowered: printed by a program (wip/tools/lower.py); each is held against the program by the kernel. -/
import Derived.Test.YtpednpndahgleaaGreatDoorAvT
import Derived.Test.YtpednpndahgleaaGreatDoorRows
import Derived.KernelRfl
set_option maxRecDepth 100000
set_option linter.unusedSimpArgs false
set_option linter.unusedVariables false
namespace Go.Proofs.YtpednpndahgleaaGreatDoor.Av
open Go

/-! maps.DeleteFunc[castellan/index.set[int],int,bool] -/
def r_maps_DeleteFunc_index_set_int_int_bool_0 : List SOp :=
   [.op ⟨(some 6), (.mv (.tmp 0)), none⟩,
    .op ⟨(some 7), (.mrange (.tmp 6)), none⟩]
def r_maps_DeleteFunc_index_set_int_int_bool_1 : List SOp :=
   [.op ⟨(some 8), (.mnext (.tmp 7)), none⟩,
    .op ⟨(some 9), (.extract (.tmp 8) 0), none⟩]
def r_maps_DeleteFunc_index_set_int_int_bool_2 : List SOp :=
   [.op ⟨(some 10), (.mentry (.tmp 7)), none⟩,
    .op ⟨(some 11), (.extract (.tmp 10) 0), none⟩,
    .op ⟨(some 12), (.extract (.tmp 10) 1), none⟩,
    .op ⟨(some 4), (.mv (.tmp 11)), none⟩,
    .op ⟨(some 5), (.mv (.tmp 12)), none⟩]
def r_maps_DeleteFunc_index_set_int_int_bool_3 : List SOp :=
   [.op ⟨(some 13), (.mv (.tmp 1)), none⟩,
    .op ⟨(some 14), (.mv (.tmp 4)), none⟩,
    .op ⟨(some 15), (.mv (.tmp 5)), none⟩,
    .op ⟨(some 16), (.callv (.tmp 13) [(.tmp 14), (.tmp 15)]), none⟩]
def r_maps_DeleteFunc_index_set_int_int_bool_4 : List SOp :=
   [.op ⟨(some 17), (.mv (.tmp 0)), none⟩,
    .op ⟨(some 18), (.mv (.tmp 4)), none⟩,
    .op ⟨none, (.mdel .int (.tmp 17) (.tmp 18)), none⟩]
def c_maps_DeleteFunc_index_set_int_int_bool : LFun := ⟨19, (.seq (.sreg r_maps_DeleteFunc_index_set_int_int_bool_0 [true, false])
  (.block 0 (.loop (.seq (.sreg r_maps_DeleteFunc_index_set_int_int_bool_1 [true, false])
  (.seq (.cond (.tmp 9) .skip
  (.exit 0))
  (.block 1 (.seq (.sreg r_maps_DeleteFunc_index_set_int_int_bool_2 [true, true, false, false, false])
  (.seq (.sreg r_maps_DeleteFunc_index_set_int_int_bool_3 [true, false, false, false])
  (.cond (.tmp 16) (.sreg r_maps_DeleteFunc_index_set_int_int_bool_4 [false, false])
  .skip))))))))), []⟩
attribute [push_cast] r_maps_DeleteFunc_index_set_int_int_bool_0 r_maps_DeleteFunc_index_set_int_int_bool_1 r_maps_DeleteFunc_index_set_int_int_bool_2 r_maps_DeleteFunc_index_set_int_int_bool_3 r_maps_DeleteFunc_index_set_int_int_bool_4
theorem c_maps_DeleteFunc_index_set_int_int_bool_eq : lowF Tryz.prog (fun _ _ => 1) 50 = some c_maps_DeleteFunc_index_set_int_int_bool.raw := by kernel_rfl

/-! (*castellan/index.Index).Like$1 -/
def r_index_Index_Like_1_0 : List SOp :=
   [.op ⟨(some 5), (.mv (.av (.bool false))), none⟩]
def r_index_Index_Like_1_1 : List SOp :=
   [.op ⟨(some 6), (.load false 1 (.tmp 2)), none⟩,
    .op ⟨(some 7), (.mv (.tmp 0)), none⟩,
    .op ⟨(some 8), (.mget .int false (.bool false) (.tmp 6) (.tmp 7)), none⟩,
    .op ⟨(some 9), (.un .not (.tmp 8)), none⟩,
    .op ⟨(some 5), (.mv (.tmp 9)), none⟩]
def c_index_Index_Like_1 : LFun := ⟨10, (.seq (.sreg r_index_Index_Like_1_0 [])
  (.seq (.sreg r_index_Index_Like_1_1 [true, false, false, false, false])
  .ret)), [(.tmp 5)]⟩
attribute [push_cast] r_index_Index_Like_1_0 r_index_Index_Like_1_1
theorem c_index_Index_Like_1_eq : lowF Tryz.prog (fun _ _ => 1) 51 = some c_index_Index_Like_1.raw := by kernel_rfl

/-! (*castellan/index.Index).Like -/
def r_index_Index_Like_0 : List SOp :=
   [.op ⟨(some 6), (.mv (.av (.sl [] 0 (some 0)))), none⟩]
def r_index_Index_Like_1 : List SOp :=
   [.op ⟨(some 15), (.mv (.tmp 0)), none⟩,
    .op ⟨(some 16), (.mv (.tmp 1)), none⟩,
    .op ⟨(some 17), (.call 14 [(.tmp 15), (.tmp 16)]), none⟩,
    .op ⟨(some 18), (.un .not (.tmp 17)), none⟩]
def r_index_Index_Like_2 : List SOp :=
   [.op ⟨(some 6), (.mv (.av (.sl [] 0 (some 0)))), none⟩]
def r_index_Index_Like_3 : List SOp :=
   [.op ⟨(some 19), (.mv (.tmp 1)), none⟩,
    .op ⟨(some 20), (.call 44 [(.tmp 19)]), none⟩,
    .op ⟨(some 7), (.mv (.tmp 20)), none⟩]
def r_index_Index_Like_4 : List SOp :=
   [.op ⟨(some 21), (.mv (.tmp 0)), none⟩,
    .op ⟨(some 22), (.nilchk (.tmp 21)), none⟩,
    .op ⟨(some 23), (.faddr 2 (.tmp 22)), none⟩,
    .op ⟨(some 24), (.load false 1 (.tmp 23)), none⟩,
    .op ⟨(some 25), (.mv (.tmp 7)), none⟩,
    .op ⟨(some 26), (.mget .str false .nilmap (.tmp 24) (.tmp 25)), none⟩,
    .op ⟨(some 27), (.call 48 [(.tmp 26)]), none⟩,
    .op ⟨(some 8), (.mv (.tmp 27)), none⟩]
def r_index_Index_Like_5 : List SOp :=
   [.op ⟨(some 28), (.mv (.tmp 2)), none⟩,
    .op ⟨(some 29), (.len false (.tmp 28)), none⟩,
    .op ⟨(some 30), (.mv (.av (.int .i64 0))), none⟩]
def r_index_Index_Like_6 : List SOp :=
   [.op ⟨(some 31), (.bin .lss (.tmp 30) (.tmp 29)), none⟩]
def r_index_Index_Like_7 : List SOp :=
   [.op ⟨(some 32), (.iaddr 2 (.tmp 28) (.tmp 30)), none⟩,
    .op ⟨(some 33), (.load true 2 (.tmp 32)), none⟩,
    .op ⟨(some 10), (.alloc [(.int .i64 0), (.str [])]), none⟩,
    .op ⟨none, (.store 2 (.tmp 10) (.tmp 33)), none⟩]
def r_index_Index_Like_8 : List SOp :=
   [.op ⟨(some 34), (.faddr 1 (.tmp 10)), none⟩,
    .op ⟨(some 35), (.load false 1 (.tmp 34)), none⟩,
    .op ⟨(some 11), (.mv (.tmp 35)), none⟩]
def r_index_Index_Like_9 : List SOp :=
   [.op ⟨(some 36), (.mv (.tmp 0)), none⟩,
    .op ⟨(some 37), (.nilchk (.tmp 36)), none⟩,
    .op ⟨(some 38), (.faddr 0 (.tmp 37)), none⟩,
    .op ⟨(some 39), (.load false 1 (.tmp 38)), none⟩,
    .op ⟨(some 40), (.mv (.tmp 7)), none⟩,
    .op ⟨(some 41), (.mget .str false (.agg [(.str []), (.int .i64 0), (.bool false), (.bool false)]) (.tmp 39) (.tmp 40)), none⟩,
    .op ⟨(some 42), (.field false 1 1 (.tmp 41)), none⟩,
    .op ⟨(some 43), (.bin .neq (.tmp 42) (.av (.int .i64 2))), none⟩]
def r_index_Index_Like_10 : List SOp :=
   [.op ⟨(some 44), (.mv (.tmp 11)), none⟩,
    .op ⟨(some 45), (.call 44 [(.tmp 44)]), none⟩,
    .op ⟨(some 11), (.mv (.tmp 45)), none⟩]
def r_index_Index_Like_11 : List SOp :=
   [.op ⟨(some 46), (.mv (.tmp 11)), none⟩,
    .op ⟨(some 47), (.call 49 [(.tmp 46)]), none⟩,
    .op ⟨(some 48), (.len false (.tmp 47)), none⟩,
    .op ⟨(some 49), (.mv (.av (.int .i64 0))), none⟩]
def r_index_Index_Like_12 : List SOp :=
   [.op ⟨(some 50), (.bin .lss (.tmp 49) (.tmp 48)), none⟩]
def r_index_Index_Like_13 : List SOp :=
   [.op ⟨(some 51), (.iaddr 1 (.tmp 47) (.tmp 49)), none⟩,
    .op ⟨(some 52), (.load false 1 (.tmp 51)), none⟩,
    .op ⟨(some 13), (.mv (.tmp 52)), none⟩]
def r_index_Index_Like_14 : List SOp :=
   [.op ⟨(some 53), (.mv (.tmp 0)), none⟩,
    .op ⟨(some 54), (.nilchk (.tmp 53)), none⟩,
    .op ⟨(some 55), (.faddr 3 (.tmp 54)), none⟩,
    .op ⟨(some 56), (.load false 1 (.tmp 55)), none⟩,
    .op ⟨(some 57), (.mv (.tmp 7)), none⟩,
    .op ⟨(some 58), (.mv (.tmp 13)), none⟩,
    .op ⟨(some 59), (.build [(.str []), (.bool false), (.str [])] [(0, (1, (.tmp 57))), (1, (1, (.av (.bool true)))), (2, (1, (.tmp 58)))]), none⟩,
    .op ⟨(some 60), (.mget (.st [.str, .bool, .str]) false .nilmap (.tmp 56) (.tmp 59)), none⟩,
    .op ⟨(some 14), (.alloc [.nilmap]), none⟩,
    .op ⟨none, (.store 1 (.tmp 14) (.tmp 60)), none⟩]
def r_index_Index_Like_15 : List SOp :=
   [.op ⟨(some 61), (.mv (.tmp 8)), none⟩,
    .op ⟨(some 62), (.mkfn 51 [(.tmp 14)]), none⟩,
    .op ⟨(some 63), (.call 50 [(.tmp 61), (.tmp 62)]), none⟩]
def r_index_Index_Like_16 : List SOp :=
   [.op ⟨(some 64), (.bin .add (.tmp 49) (.av (.int .i64 1))), none⟩,
    .op ⟨(some 49), (.mv (.tmp 64)), none⟩]
def r_index_Index_Like_17 : List SOp :=
   [.op ⟨(some 65), (.bin .add (.tmp 30) (.av (.int .i64 1))), none⟩,
    .op ⟨(some 30), (.mv (.tmp 65)), none⟩]
def r_index_Index_Like_18 : List SOp :=
   [.op ⟨(some 66), (.mv (.tmp 8)), none⟩,
    .op ⟨(some 67), (.call 47 [(.tmp 66)]), none⟩,
    .op ⟨(some 6), (.mv (.tmp 67)), none⟩]
def c_index_Index_Like : LFun := ⟨68, (.seq (.sreg r_index_Index_Like_0 [])
  (.seq (.seq (.sreg r_index_Index_Like_1 [true, false, false, false])
  (.cond (.tmp 18) (.seq (.sreg r_index_Index_Like_2 [])
  .ret)
  .skip))
  (.seq (.sreg r_index_Index_Like_3 [true, false, false])
  (.seq (.sreg r_index_Index_Like_4 [true, false, false, false, false, false, false, false])
  (.seq (.seq (.sreg r_index_Index_Like_5 [])
  (.block 0 (.loop (.seq (.sreg r_index_Index_Like_6 [])
  (.seq (.cond (.tmp 31) .skip
  (.exit 0))
  (.seq (.block 1 (.seq (.sreg r_index_Index_Like_7 [true, false, false])
  (.seq (.sreg r_index_Index_Like_8 [true, false, false])
  (.seq (.seq (.sreg r_index_Index_Like_9 [true, false, false, false, false, false, false, false])
  (.cond (.tmp 43) (.sreg r_index_Index_Like_10 [true, false, false])
  .skip))
  (.seq (.sreg r_index_Index_Like_11 [true, true, true, false])
  (.block 2 (.loop (.seq (.sreg r_index_Index_Like_12 [])
  (.seq (.cond (.tmp 50) .skip
  (.exit 2))
  (.seq (.block 3 (.seq (.sreg r_index_Index_Like_13 [true, false, false])
  (.seq (.sreg r_index_Index_Like_14 [true, false, false, false, false, false, false, false, false])
  (.sreg r_index_Index_Like_15 [false, false, false]))))
  (.sreg r_index_Index_Like_16 [true, false])))))))))))
  (.sreg r_index_Index_Like_17 [true, false])))))))
  (.seq (.sreg r_index_Index_Like_18 [true, false, false])
  .ret)))))), [(.tmp 6)]⟩
attribute [push_cast] r_index_Index_Like_0 r_index_Index_Like_1 r_index_Index_Like_2 r_index_Index_Like_3 r_index_Index_Like_4 r_index_Index_Like_5 r_index_Index_Like_6 r_index_Index_Like_7 r_index_Index_Like_8 r_index_Index_Like_9 r_index_Index_Like_10 r_index_Index_Like_11 r_index_Index_Like_12 r_index_Index_Like_13 r_index_Index_Like_14 r_index_Index_Like_15 r_index_Index_Like_16 r_index_Index_Like_17 r_index_Index_Like_18
theorem c_index_Index_Like_eq : lowF Tryz.prog (fun _ _ => 1) 19 = some c_index_Index_Like.raw := by kernel_rfl

end Go.Proofs.YtpednpndahgleaaGreatDoor.Av
