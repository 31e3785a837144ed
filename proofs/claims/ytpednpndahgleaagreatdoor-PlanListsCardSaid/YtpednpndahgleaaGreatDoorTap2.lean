/- Bodies of functions, lowered: printed by a program (wip/tools/lowx.py); each is held against the program by the kernel. -/
import Derived.Test.YtpednpndahgleaaGreatDoorExE
import Derived.Test.YtpednpndahgleaaGreatDoorRows
import Derived.KernelRfl
set_option maxRecDepth 100000
set_option linter.unusedSimpArgs false
set_option linter.unusedVariables false
namespace Go.Proofs.YtpednpndahgleaaGreatDoor.Av
open Go

/-! slices.insertionSortOrdered[int] -/
def r_f147_0 : List SOp :=
   [.op ⟨(some 8), (.mv (.tmp 1)), none⟩,
    .op ⟨(some 9), (.bin .add (.tmp 8) (.av (.int .i64 1))), none⟩,
    .op ⟨(some 6), (.mv (.tmp 9)), none⟩]
def r_f147_1 : List SOp :=
   [.op ⟨(some 10), (.mv (.tmp 6)), none⟩,
    .op ⟨(some 11), (.mv (.tmp 2)), none⟩,
    .op ⟨(some 12), (.bin .lss (.tmp 10) (.tmp 11)), none⟩]
def r_f147_2 : List SOp :=
   [.op ⟨(some 15), (.mv (.tmp 6)), none⟩,
    .op ⟨(some 7), (.mv (.tmp 15)), none⟩]
def r_f147_3 : List (LOper × Kd) :=
   [(⟨(some 16), (.mv (.tmp 7)), none⟩, .pure),
    (⟨(some 17), (.mv (.tmp 1)), none⟩, .pure),
    (⟨(some 18), (.bin .gtr (.tmp 16) (.tmp 17)), none⟩, .pure),
    (⟨(some 19), (.mv (.tmp 18)), none⟩, .pure),
    (⟨(some 20), (.mv (.tmp 0)), (some (19, true))⟩, .pure),
    (⟨(some 21), (.mv (.tmp 7)), (some (19, true))⟩, .pure),
    (⟨(some 22), (.iaddr 1 (.tmp 20) (.tmp 21)), (some (19, true))⟩, (.read 0 0)),
    (⟨(some 23), (.load false 1 (.tmp 22)), (some (19, true))⟩, (.read 0 0)),
    (⟨(some 24), (.mv (.tmp 0)), (some (19, true))⟩, .pure),
    (⟨(some 25), (.mv (.tmp 7)), (some (19, true))⟩, .pure),
    (⟨(some 26), (.bin .sub (.tmp 25) (.av (.int .i64 1))), (some (19, true))⟩, .pure),
    (⟨(some 27), (.iaddr 1 (.tmp 24) (.tmp 26)), (some (19, true))⟩, (.read 0 0)),
    (⟨(some 28), (.load false 1 (.tmp 27)), (some (19, true))⟩, (.read 0 0))]
def r_f147_3t : List LOper :=
   [⟨(some 29), (.call 90 [(.tmp 23), (.tmp 28)]), (some (19, true))⟩,
    ⟨(some 30), (.pick (.tmp 19) (.tmp 29) (.av (.bool false))), none⟩]
def r_f147_4 : List (LOper × Kd) :=
   [(⟨(some 33), (.mv (.tmp 0)), none⟩, .pure),
    (⟨(some 34), (.mv (.tmp 7)), none⟩, .pure),
    (⟨(some 35), (.mv (.tmp 0)), none⟩, .pure),
    (⟨(some 36), (.mv (.tmp 7)), none⟩, .pure),
    (⟨(some 37), (.bin .sub (.tmp 36) (.av (.int .i64 1))), none⟩, .pure),
    (⟨(some 38), (.mv (.tmp 0)), none⟩, .pure),
    (⟨(some 39), (.mv (.tmp 7)), none⟩, .pure),
    (⟨(some 40), (.bin .sub (.tmp 39) (.av (.int .i64 1))), none⟩, .pure),
    (⟨(some 41), (.iaddr 1 (.tmp 38) (.tmp 40)), none⟩, (.read 0 0)),
    (⟨(some 42), (.load false 1 (.tmp 41)), none⟩, (.read 0 0)),
    (⟨(some 43), (.mv (.tmp 0)), none⟩, .pure),
    (⟨(some 44), (.mv (.tmp 7)), none⟩, .pure),
    (⟨(some 45), (.iaddr 1 (.tmp 43) (.tmp 44)), none⟩, (.read 0 0)),
    (⟨(some 46), (.load false 1 (.tmp 45)), none⟩, (.read 0 0)),
    (⟨(some 47), (.iaddr 1 (.tmp 33) (.tmp 34)), none⟩, (.read 0 0)),
    (⟨none, (.store 1 (.tmp 47) (.tmp 42)), none⟩, .eff)]
def r_f147_4t : List LOper :=
   [⟨(some 48), (.iaddr 1 (.tmp 35) (.tmp 37)), none⟩,
    ⟨none, (.store 1 (.tmp 48) (.tmp 46)), none⟩]
def r_f147_5 : List SOp :=
   [.op ⟨(some 31), (.mv (.tmp 7)), none⟩,
    .op ⟨(some 32), (.bin .sub (.tmp 31) (.av (.int .i64 1))), none⟩,
    .op ⟨(some 7), (.mv (.tmp 32)), none⟩]
def r_f147_6 : List SOp :=
   [.op ⟨(some 13), (.mv (.tmp 6)), none⟩,
    .op ⟨(some 14), (.bin .add (.tmp 13) (.av (.int .i64 1))), none⟩,
    .op ⟨(some 6), (.mv (.tmp 14)), none⟩]
def c_f147 : LFun := ⟨49, (.seq (.sreg r_f147_0 [true, false, false])
  (.block 0 (.loop (.seq (.seq (.sreg r_f147_1 [true, false, false])
  (.cond (.tmp 12) .skip
  (.exit 0)))
  (.seq (.block 1 (.seq (.sreg r_f147_2 [true, false])
  (.block 2 (.loop (.seq (.seq (.dregM r_f147_3 r_f147_3t [true, false, false, false, false, false, false, false, false, false, false, false, false, false, false])
  (.cond (.tmp 30) .skip
  (.exit 2)))
  (.seq (.block 3 (.dregM r_f147_4 r_f147_4t [false, false, false, false, false, false, false, false, false, false, false, false, false, false, false, false]))
  (.sreg r_f147_5 [true, false, false])))))))
  (.sreg r_f147_6 [true, false, false])))))), []⟩
def o_f147 : Nat → Nat → Nat := fun r i => if r = 4 ∧ i = 13 then 3 else 1
theorem c_f147_eq : lowF Tryz.prog o_f147 147 = some c_f147.raw := by kernel_rfl
theorem c_f147_ok : c_f147.code.okc = true := by kernel_rfl

end Go.Proofs.YtpednpndahgleaaGreatDoor.Av
