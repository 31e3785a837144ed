/- Bodies of functions, lowered: printed by a program (wip/tools/lowx.py); each is held against the program by the kernel. -/
import Derived.Test.YtpednpndahgleaaGreatDoorExE
import Derived.Test.YtpednpndahgleaaGreatDoorRows
import Derived.KernelRfl
set_option maxRecDepth 100000
set_option linter.unusedSimpArgs false
set_option linter.unusedVariables false
namespace Go.Proofs.YtpednpndahgleaaGreatDoor.Av
open Go

/-! internal/strconv.formatBase10 -/
def r_f63_0 : List SOp :=
   [.op ⟨(some 17), (.mv (.tmp 0)), none⟩,
    .op ⟨(some 18), (.len false (.tmp 17)), none⟩,
    .op ⟨(some 4), (.mv (.tmp 18)), none⟩]
def r_f63_1 : List SOp :=
   [.op ⟨(some 19), (.mv (.tmp 4)), none⟩,
    .op ⟨(some 20), (.bin .geq (.tmp 19) (.av (.int .i64 8))), none⟩]
def r_f63_2 : List SOp :=
   [.op ⟨(some 21), (.mv (.tmp 1)), none⟩,
    .op ⟨(some 22), (.bin .rem (.tmp 21) (.av (.int .u64 100000000))), none⟩,
    .op ⟨(some 23), (.conv .u32 (.tmp 22)), none⟩,
    .op ⟨(some 5), (.mv (.tmp 23)), none⟩]
def r_f63_3 : List SOp :=
   [.op ⟨(some 24), (.mv (.tmp 1)), none⟩,
    .op ⟨(some 25), (.bin .quo (.tmp 24) (.av (.int .u64 100000000))), none⟩,
    .op ⟨(some 1), (.mv (.tmp 25)), none⟩]
def r_f63_4 : List SOp :=
   [.op ⟨(some 26), (.mv (.tmp 5)), none⟩,
    .op ⟨(some 27), (.bin .quo (.tmp 26) (.av (.int .u32 10000))), none⟩,
    .op ⟨(some 28), (.mv (.tmp 5)), none⟩,
    .op ⟨(some 29), (.bin .rem (.tmp 28) (.av (.int .u32 10000))), none⟩,
    .op ⟨(some 6), (.mv (.tmp 27)), none⟩,
    .op ⟨(some 7), (.mv (.tmp 29)), none⟩]
def r_f63_5 : List SOp :=
   [.op ⟨(some 30), (.mv (.tmp 7)), none⟩,
    .op ⟨(some 31), (.bin .quo (.tmp 30) (.av (.int .u32 100))), none⟩,
    .op ⟨(some 32), (.bin .mul (.tmp 31) (.av (.int .u32 2))), none⟩,
    .op ⟨(some 33), (.mv (.tmp 7)), none⟩,
    .op ⟨(some 34), (.bin .rem (.tmp 33) (.av (.int .u32 100))), none⟩,
    .op ⟨(some 35), (.bin .mul (.tmp 34) (.av (.int .u32 2))), none⟩,
    .op ⟨(some 8), (.mv (.tmp 32)), none⟩,
    .op ⟨(some 9), (.mv (.tmp 35)), none⟩]
def r_f63_6 : List SOp :=
   [.op ⟨(some 36), (.mv (.tmp 6)), none⟩,
    .op ⟨(some 37), (.bin .quo (.tmp 36) (.av (.int .u32 100))), none⟩,
    .op ⟨(some 38), (.bin .mul (.tmp 37) (.av (.int .u32 2))), none⟩,
    .op ⟨(some 39), (.mv (.tmp 6)), none⟩,
    .op ⟨(some 40), (.bin .rem (.tmp 39) (.av (.int .u32 100))), none⟩,
    .op ⟨(some 41), (.bin .mul (.tmp 40) (.av (.int .u32 2))), none⟩,
    .op ⟨(some 10), (.mv (.tmp 38)), none⟩,
    .op ⟨(some 11), (.mv (.tmp 41)), none⟩]
def r_f63_7 : List (LOper × Kd) :=
   [(⟨(some 42), (.mv (.tmp 0)), none⟩, .pure),
    (⟨(some 43), (.mv (.tmp 4)), none⟩, .pure),
    (⟨(some 44), (.bin .sub (.tmp 43) (.av (.int .i64 1))), none⟩, .pure),
    (⟨(some 45), (.mv (.tmp 0)), none⟩, .pure),
    (⟨(some 46), (.mv (.tmp 4)), none⟩, .pure),
    (⟨(some 47), (.bin .sub (.tmp 46) (.av (.int .i64 2))), none⟩, .pure),
    (⟨(some 48), (.mv (.tmp 9)), none⟩, .pure),
    (⟨(some 49), (.bin .add (.tmp 48) (.av (.int .u32 1))), none⟩, .pure),
    (⟨(some 50), (.idxS (.av (.str [48, 48, 48, 49, 48, 50, 48, 51, 48, 52, 48, 53, 48, 54, 48, 55, 48, 56, 48, 57, 49, 48, 49, 49, 49, 50, 49, 51, 49, 52, 49, 53, 49, 54, 49, 55, 49, 56, 49, 57, 50, 48, 50, 49, 50, 50, 50, 51, 50, 52, 50, 53, 50, 54, 50, 55, 50, 56, 50, 57, 51, 48, 51, 49, 51, 50, 51, 51, 51, 52, 51, 53, 51, 54, 51, 55, 51, 56, 51, 57, 52, 48, 52, 49, 52, 50, 52, 51, 52, 52, 52, 53, 52, 54, 52, 55, 52, 56, 52, 57, 53, 48, 53, 49, 53, 50, 53, 51, 53, 52, 53, 53, 53, 54, 53, 55, 53, 56, 53, 57, 54, 48, 54, 49, 54, 50, 54, 51, 54, 52, 54, 53, 54, 54, 54, 55, 54, 56, 54, 57, 55, 48, 55, 49, 55, 50, 55, 51, 55, 52, 55, 53, 55, 54, 55, 55, 55, 56, 55, 57, 56, 48, 56, 49, 56, 50, 56, 51, 56, 52, 56, 53, 56, 54, 56, 55, 56, 56, 56, 57, 57, 48, 57, 49, 57, 50, 57, 51, 57, 52, 57, 53, 57, 54, 57, 55, 57, 56, 57, 57])) (.tmp 49)), none⟩, (.read 0 0)),
    (⟨(some 51), (.mv (.tmp 9)), none⟩, .pure),
    (⟨(some 52), (.idxS (.av (.str [48, 48, 48, 49, 48, 50, 48, 51, 48, 52, 48, 53, 48, 54, 48, 55, 48, 56, 48, 57, 49, 48, 49, 49, 49, 50, 49, 51, 49, 52, 49, 53, 49, 54, 49, 55, 49, 56, 49, 57, 50, 48, 50, 49, 50, 50, 50, 51, 50, 52, 50, 53, 50, 54, 50, 55, 50, 56, 50, 57, 51, 48, 51, 49, 51, 50, 51, 51, 51, 52, 51, 53, 51, 54, 51, 55, 51, 56, 51, 57, 52, 48, 52, 49, 52, 50, 52, 51, 52, 52, 52, 53, 52, 54, 52, 55, 52, 56, 52, 57, 53, 48, 53, 49, 53, 50, 53, 51, 53, 52, 53, 53, 53, 54, 53, 55, 53, 56, 53, 57, 54, 48, 54, 49, 54, 50, 54, 51, 54, 52, 54, 53, 54, 54, 54, 55, 54, 56, 54, 57, 55, 48, 55, 49, 55, 50, 55, 51, 55, 52, 55, 53, 55, 54, 55, 55, 55, 56, 55, 57, 56, 48, 56, 49, 56, 50, 56, 51, 56, 52, 56, 53, 56, 54, 56, 55, 56, 56, 56, 57, 57, 48, 57, 49, 57, 50, 57, 51, 57, 52, 57, 53, 57, 54, 57, 55, 57, 56, 57, 57])) (.tmp 51)), none⟩, (.read 0 1)),
    (⟨(some 53), (.iaddr 1 (.tmp 42) (.tmp 44)), none⟩, (.read 0 0)),
    (⟨none, (.store 1 (.tmp 53) (.tmp 50)), none⟩, .eff)]
def r_f63_7t : List LOper :=
   [⟨(some 54), (.iaddr 1 (.tmp 45) (.tmp 47)), none⟩,
    ⟨none, (.store 1 (.tmp 54) (.tmp 52)), none⟩]
def r_f63_8 : List (LOper × Kd) :=
   [(⟨(some 55), (.mv (.tmp 0)), none⟩, .pure),
    (⟨(some 56), (.mv (.tmp 4)), none⟩, .pure),
    (⟨(some 57), (.bin .sub (.tmp 56) (.av (.int .i64 3))), none⟩, .pure),
    (⟨(some 58), (.mv (.tmp 0)), none⟩, .pure),
    (⟨(some 59), (.mv (.tmp 4)), none⟩, .pure),
    (⟨(some 60), (.bin .sub (.tmp 59) (.av (.int .i64 4))), none⟩, .pure),
    (⟨(some 61), (.mv (.tmp 8)), none⟩, .pure),
    (⟨(some 62), (.bin .add (.tmp 61) (.av (.int .u32 1))), none⟩, .pure),
    (⟨(some 63), (.idxS (.av (.str [48, 48, 48, 49, 48, 50, 48, 51, 48, 52, 48, 53, 48, 54, 48, 55, 48, 56, 48, 57, 49, 48, 49, 49, 49, 50, 49, 51, 49, 52, 49, 53, 49, 54, 49, 55, 49, 56, 49, 57, 50, 48, 50, 49, 50, 50, 50, 51, 50, 52, 50, 53, 50, 54, 50, 55, 50, 56, 50, 57, 51, 48, 51, 49, 51, 50, 51, 51, 51, 52, 51, 53, 51, 54, 51, 55, 51, 56, 51, 57, 52, 48, 52, 49, 52, 50, 52, 51, 52, 52, 52, 53, 52, 54, 52, 55, 52, 56, 52, 57, 53, 48, 53, 49, 53, 50, 53, 51, 53, 52, 53, 53, 53, 54, 53, 55, 53, 56, 53, 57, 54, 48, 54, 49, 54, 50, 54, 51, 54, 52, 54, 53, 54, 54, 54, 55, 54, 56, 54, 57, 55, 48, 55, 49, 55, 50, 55, 51, 55, 52, 55, 53, 55, 54, 55, 55, 55, 56, 55, 57, 56, 48, 56, 49, 56, 50, 56, 51, 56, 52, 56, 53, 56, 54, 56, 55, 56, 56, 56, 57, 57, 48, 57, 49, 57, 50, 57, 51, 57, 52, 57, 53, 57, 54, 57, 55, 57, 56, 57, 57])) (.tmp 62)), none⟩, (.read 0 0)),
    (⟨(some 64), (.mv (.tmp 8)), none⟩, .pure),
    (⟨(some 65), (.idxS (.av (.str [48, 48, 48, 49, 48, 50, 48, 51, 48, 52, 48, 53, 48, 54, 48, 55, 48, 56, 48, 57, 49, 48, 49, 49, 49, 50, 49, 51, 49, 52, 49, 53, 49, 54, 49, 55, 49, 56, 49, 57, 50, 48, 50, 49, 50, 50, 50, 51, 50, 52, 50, 53, 50, 54, 50, 55, 50, 56, 50, 57, 51, 48, 51, 49, 51, 50, 51, 51, 51, 52, 51, 53, 51, 54, 51, 55, 51, 56, 51, 57, 52, 48, 52, 49, 52, 50, 52, 51, 52, 52, 52, 53, 52, 54, 52, 55, 52, 56, 52, 57, 53, 48, 53, 49, 53, 50, 53, 51, 53, 52, 53, 53, 53, 54, 53, 55, 53, 56, 53, 57, 54, 48, 54, 49, 54, 50, 54, 51, 54, 52, 54, 53, 54, 54, 54, 55, 54, 56, 54, 57, 55, 48, 55, 49, 55, 50, 55, 51, 55, 52, 55, 53, 55, 54, 55, 55, 55, 56, 55, 57, 56, 48, 56, 49, 56, 50, 56, 51, 56, 52, 56, 53, 56, 54, 56, 55, 56, 56, 56, 57, 57, 48, 57, 49, 57, 50, 57, 51, 57, 52, 57, 53, 57, 54, 57, 55, 57, 56, 57, 57])) (.tmp 64)), none⟩, (.read 0 1)),
    (⟨(some 66), (.iaddr 1 (.tmp 55) (.tmp 57)), none⟩, (.read 0 0)),
    (⟨none, (.store 1 (.tmp 66) (.tmp 63)), none⟩, .eff)]
def r_f63_8t : List LOper :=
   [⟨(some 67), (.iaddr 1 (.tmp 58) (.tmp 60)), none⟩,
    ⟨none, (.store 1 (.tmp 67) (.tmp 65)), none⟩]
def r_f63_9 : List (LOper × Kd) :=
   [(⟨(some 68), (.mv (.tmp 0)), none⟩, .pure),
    (⟨(some 69), (.mv (.tmp 4)), none⟩, .pure),
    (⟨(some 70), (.bin .sub (.tmp 69) (.av (.int .i64 5))), none⟩, .pure),
    (⟨(some 71), (.mv (.tmp 0)), none⟩, .pure),
    (⟨(some 72), (.mv (.tmp 4)), none⟩, .pure),
    (⟨(some 73), (.bin .sub (.tmp 72) (.av (.int .i64 6))), none⟩, .pure),
    (⟨(some 74), (.mv (.tmp 11)), none⟩, .pure),
    (⟨(some 75), (.bin .add (.tmp 74) (.av (.int .u32 1))), none⟩, .pure),
    (⟨(some 76), (.idxS (.av (.str [48, 48, 48, 49, 48, 50, 48, 51, 48, 52, 48, 53, 48, 54, 48, 55, 48, 56, 48, 57, 49, 48, 49, 49, 49, 50, 49, 51, 49, 52, 49, 53, 49, 54, 49, 55, 49, 56, 49, 57, 50, 48, 50, 49, 50, 50, 50, 51, 50, 52, 50, 53, 50, 54, 50, 55, 50, 56, 50, 57, 51, 48, 51, 49, 51, 50, 51, 51, 51, 52, 51, 53, 51, 54, 51, 55, 51, 56, 51, 57, 52, 48, 52, 49, 52, 50, 52, 51, 52, 52, 52, 53, 52, 54, 52, 55, 52, 56, 52, 57, 53, 48, 53, 49, 53, 50, 53, 51, 53, 52, 53, 53, 53, 54, 53, 55, 53, 56, 53, 57, 54, 48, 54, 49, 54, 50, 54, 51, 54, 52, 54, 53, 54, 54, 54, 55, 54, 56, 54, 57, 55, 48, 55, 49, 55, 50, 55, 51, 55, 52, 55, 53, 55, 54, 55, 55, 55, 56, 55, 57, 56, 48, 56, 49, 56, 50, 56, 51, 56, 52, 56, 53, 56, 54, 56, 55, 56, 56, 56, 57, 57, 48, 57, 49, 57, 50, 57, 51, 57, 52, 57, 53, 57, 54, 57, 55, 57, 56, 57, 57])) (.tmp 75)), none⟩, (.read 0 0)),
    (⟨(some 77), (.mv (.tmp 11)), none⟩, .pure),
    (⟨(some 78), (.idxS (.av (.str [48, 48, 48, 49, 48, 50, 48, 51, 48, 52, 48, 53, 48, 54, 48, 55, 48, 56, 48, 57, 49, 48, 49, 49, 49, 50, 49, 51, 49, 52, 49, 53, 49, 54, 49, 55, 49, 56, 49, 57, 50, 48, 50, 49, 50, 50, 50, 51, 50, 52, 50, 53, 50, 54, 50, 55, 50, 56, 50, 57, 51, 48, 51, 49, 51, 50, 51, 51, 51, 52, 51, 53, 51, 54, 51, 55, 51, 56, 51, 57, 52, 48, 52, 49, 52, 50, 52, 51, 52, 52, 52, 53, 52, 54, 52, 55, 52, 56, 52, 57, 53, 48, 53, 49, 53, 50, 53, 51, 53, 52, 53, 53, 53, 54, 53, 55, 53, 56, 53, 57, 54, 48, 54, 49, 54, 50, 54, 51, 54, 52, 54, 53, 54, 54, 54, 55, 54, 56, 54, 57, 55, 48, 55, 49, 55, 50, 55, 51, 55, 52, 55, 53, 55, 54, 55, 55, 55, 56, 55, 57, 56, 48, 56, 49, 56, 50, 56, 51, 56, 52, 56, 53, 56, 54, 56, 55, 56, 56, 56, 57, 57, 48, 57, 49, 57, 50, 57, 51, 57, 52, 57, 53, 57, 54, 57, 55, 57, 56, 57, 57])) (.tmp 77)), none⟩, (.read 0 1)),
    (⟨(some 79), (.iaddr 1 (.tmp 68) (.tmp 70)), none⟩, (.read 0 0)),
    (⟨none, (.store 1 (.tmp 79) (.tmp 76)), none⟩, .eff)]
def r_f63_9t : List LOper :=
   [⟨(some 80), (.iaddr 1 (.tmp 71) (.tmp 73)), none⟩,
    ⟨none, (.store 1 (.tmp 80) (.tmp 78)), none⟩]
def r_f63_10 : List (LOper × Kd) :=
   [(⟨(some 81), (.mv (.tmp 0)), none⟩, .pure),
    (⟨(some 82), (.mv (.tmp 4)), none⟩, .pure),
    (⟨(some 83), (.bin .sub (.tmp 82) (.av (.int .i64 7))), none⟩, .pure),
    (⟨(some 84), (.mv (.tmp 0)), none⟩, .pure),
    (⟨(some 85), (.mv (.tmp 4)), none⟩, .pure),
    (⟨(some 86), (.bin .sub (.tmp 85) (.av (.int .i64 8))), none⟩, .pure),
    (⟨(some 87), (.mv (.tmp 10)), none⟩, .pure),
    (⟨(some 88), (.bin .add (.tmp 87) (.av (.int .u32 1))), none⟩, .pure),
    (⟨(some 89), (.idxS (.av (.str [48, 48, 48, 49, 48, 50, 48, 51, 48, 52, 48, 53, 48, 54, 48, 55, 48, 56, 48, 57, 49, 48, 49, 49, 49, 50, 49, 51, 49, 52, 49, 53, 49, 54, 49, 55, 49, 56, 49, 57, 50, 48, 50, 49, 50, 50, 50, 51, 50, 52, 50, 53, 50, 54, 50, 55, 50, 56, 50, 57, 51, 48, 51, 49, 51, 50, 51, 51, 51, 52, 51, 53, 51, 54, 51, 55, 51, 56, 51, 57, 52, 48, 52, 49, 52, 50, 52, 51, 52, 52, 52, 53, 52, 54, 52, 55, 52, 56, 52, 57, 53, 48, 53, 49, 53, 50, 53, 51, 53, 52, 53, 53, 53, 54, 53, 55, 53, 56, 53, 57, 54, 48, 54, 49, 54, 50, 54, 51, 54, 52, 54, 53, 54, 54, 54, 55, 54, 56, 54, 57, 55, 48, 55, 49, 55, 50, 55, 51, 55, 52, 55, 53, 55, 54, 55, 55, 55, 56, 55, 57, 56, 48, 56, 49, 56, 50, 56, 51, 56, 52, 56, 53, 56, 54, 56, 55, 56, 56, 56, 57, 57, 48, 57, 49, 57, 50, 57, 51, 57, 52, 57, 53, 57, 54, 57, 55, 57, 56, 57, 57])) (.tmp 88)), none⟩, (.read 0 0)),
    (⟨(some 90), (.mv (.tmp 10)), none⟩, .pure),
    (⟨(some 91), (.idxS (.av (.str [48, 48, 48, 49, 48, 50, 48, 51, 48, 52, 48, 53, 48, 54, 48, 55, 48, 56, 48, 57, 49, 48, 49, 49, 49, 50, 49, 51, 49, 52, 49, 53, 49, 54, 49, 55, 49, 56, 49, 57, 50, 48, 50, 49, 50, 50, 50, 51, 50, 52, 50, 53, 50, 54, 50, 55, 50, 56, 50, 57, 51, 48, 51, 49, 51, 50, 51, 51, 51, 52, 51, 53, 51, 54, 51, 55, 51, 56, 51, 57, 52, 48, 52, 49, 52, 50, 52, 51, 52, 52, 52, 53, 52, 54, 52, 55, 52, 56, 52, 57, 53, 48, 53, 49, 53, 50, 53, 51, 53, 52, 53, 53, 53, 54, 53, 55, 53, 56, 53, 57, 54, 48, 54, 49, 54, 50, 54, 51, 54, 52, 54, 53, 54, 54, 54, 55, 54, 56, 54, 57, 55, 48, 55, 49, 55, 50, 55, 51, 55, 52, 55, 53, 55, 54, 55, 55, 55, 56, 55, 57, 56, 48, 56, 49, 56, 50, 56, 51, 56, 52, 56, 53, 56, 54, 56, 55, 56, 56, 56, 57, 57, 48, 57, 49, 57, 50, 57, 51, 57, 52, 57, 53, 57, 54, 57, 55, 57, 56, 57, 57])) (.tmp 90)), none⟩, (.read 0 1)),
    (⟨(some 92), (.iaddr 1 (.tmp 81) (.tmp 83)), none⟩, (.read 0 0)),
    (⟨none, (.store 1 (.tmp 92) (.tmp 89)), none⟩, .eff)]
def r_f63_10t : List LOper :=
   [⟨(some 93), (.iaddr 1 (.tmp 84) (.tmp 86)), none⟩,
    ⟨none, (.store 1 (.tmp 93) (.tmp 91)), none⟩]
def r_f63_11 : List SOp :=
   [.op ⟨(some 94), (.mv (.tmp 4)), none⟩,
    .op ⟨(some 95), (.bin .sub (.tmp 94) (.av (.int .i64 8))), none⟩,
    .op ⟨(some 4), (.mv (.tmp 95)), none⟩]
def r_f63_12 : List SOp :=
   [.op ⟨(some 96), (.mv (.tmp 1)), none⟩,
    .op ⟨(some 97), (.conv .u32 (.tmp 96)), none⟩,
    .op ⟨(some 12), (.mv (.tmp 97)), none⟩]
def r_f63_13 : List SOp :=
   [.op ⟨(some 98), (.mv (.tmp 4)), none⟩,
    .op ⟨(some 99), (.bin .geq (.tmp 98) (.av (.int .i64 4))), none⟩]
def r_f63_14 : List SOp :=
   [.op ⟨(some 100), (.mv (.tmp 12)), none⟩,
    .op ⟨(some 101), (.bin .rem (.tmp 100) (.av (.int .u32 10000))), none⟩,
    .op ⟨(some 13), (.mv (.tmp 101)), none⟩]
def r_f63_15 : List SOp :=
   [.op ⟨(some 102), (.mv (.tmp 12)), none⟩,
    .op ⟨(some 103), (.bin .quo (.tmp 102) (.av (.int .u32 10000))), none⟩,
    .op ⟨(some 12), (.mv (.tmp 103)), none⟩]
def r_f63_16 : List SOp :=
   [.op ⟨(some 104), (.mv (.tmp 13)), none⟩,
    .op ⟨(some 105), (.bin .quo (.tmp 104) (.av (.int .u32 100))), none⟩,
    .op ⟨(some 106), (.bin .mul (.tmp 105) (.av (.int .u32 2))), none⟩,
    .op ⟨(some 107), (.mv (.tmp 13)), none⟩,
    .op ⟨(some 108), (.bin .rem (.tmp 107) (.av (.int .u32 100))), none⟩,
    .op ⟨(some 109), (.bin .mul (.tmp 108) (.av (.int .u32 2))), none⟩,
    .op ⟨(some 14), (.mv (.tmp 106)), none⟩,
    .op ⟨(some 15), (.mv (.tmp 109)), none⟩]
def r_f63_17 : List (LOper × Kd) :=
   [(⟨(some 110), (.mv (.tmp 0)), none⟩, .pure),
    (⟨(some 111), (.mv (.tmp 4)), none⟩, .pure),
    (⟨(some 112), (.bin .sub (.tmp 111) (.av (.int .i64 1))), none⟩, .pure),
    (⟨(some 113), (.mv (.tmp 0)), none⟩, .pure),
    (⟨(some 114), (.mv (.tmp 4)), none⟩, .pure),
    (⟨(some 115), (.bin .sub (.tmp 114) (.av (.int .i64 2))), none⟩, .pure),
    (⟨(some 116), (.mv (.tmp 15)), none⟩, .pure),
    (⟨(some 117), (.bin .add (.tmp 116) (.av (.int .u32 1))), none⟩, .pure),
    (⟨(some 118), (.idxS (.av (.str [48, 48, 48, 49, 48, 50, 48, 51, 48, 52, 48, 53, 48, 54, 48, 55, 48, 56, 48, 57, 49, 48, 49, 49, 49, 50, 49, 51, 49, 52, 49, 53, 49, 54, 49, 55, 49, 56, 49, 57, 50, 48, 50, 49, 50, 50, 50, 51, 50, 52, 50, 53, 50, 54, 50, 55, 50, 56, 50, 57, 51, 48, 51, 49, 51, 50, 51, 51, 51, 52, 51, 53, 51, 54, 51, 55, 51, 56, 51, 57, 52, 48, 52, 49, 52, 50, 52, 51, 52, 52, 52, 53, 52, 54, 52, 55, 52, 56, 52, 57, 53, 48, 53, 49, 53, 50, 53, 51, 53, 52, 53, 53, 53, 54, 53, 55, 53, 56, 53, 57, 54, 48, 54, 49, 54, 50, 54, 51, 54, 52, 54, 53, 54, 54, 54, 55, 54, 56, 54, 57, 55, 48, 55, 49, 55, 50, 55, 51, 55, 52, 55, 53, 55, 54, 55, 55, 55, 56, 55, 57, 56, 48, 56, 49, 56, 50, 56, 51, 56, 52, 56, 53, 56, 54, 56, 55, 56, 56, 56, 57, 57, 48, 57, 49, 57, 50, 57, 51, 57, 52, 57, 53, 57, 54, 57, 55, 57, 56, 57, 57])) (.tmp 117)), none⟩, (.read 0 0)),
    (⟨(some 119), (.mv (.tmp 15)), none⟩, .pure),
    (⟨(some 120), (.idxS (.av (.str [48, 48, 48, 49, 48, 50, 48, 51, 48, 52, 48, 53, 48, 54, 48, 55, 48, 56, 48, 57, 49, 48, 49, 49, 49, 50, 49, 51, 49, 52, 49, 53, 49, 54, 49, 55, 49, 56, 49, 57, 50, 48, 50, 49, 50, 50, 50, 51, 50, 52, 50, 53, 50, 54, 50, 55, 50, 56, 50, 57, 51, 48, 51, 49, 51, 50, 51, 51, 51, 52, 51, 53, 51, 54, 51, 55, 51, 56, 51, 57, 52, 48, 52, 49, 52, 50, 52, 51, 52, 52, 52, 53, 52, 54, 52, 55, 52, 56, 52, 57, 53, 48, 53, 49, 53, 50, 53, 51, 53, 52, 53, 53, 53, 54, 53, 55, 53, 56, 53, 57, 54, 48, 54, 49, 54, 50, 54, 51, 54, 52, 54, 53, 54, 54, 54, 55, 54, 56, 54, 57, 55, 48, 55, 49, 55, 50, 55, 51, 55, 52, 55, 53, 55, 54, 55, 55, 55, 56, 55, 57, 56, 48, 56, 49, 56, 50, 56, 51, 56, 52, 56, 53, 56, 54, 56, 55, 56, 56, 56, 57, 57, 48, 57, 49, 57, 50, 57, 51, 57, 52, 57, 53, 57, 54, 57, 55, 57, 56, 57, 57])) (.tmp 119)), none⟩, (.read 0 1)),
    (⟨(some 121), (.iaddr 1 (.tmp 110) (.tmp 112)), none⟩, (.read 0 0)),
    (⟨none, (.store 1 (.tmp 121) (.tmp 118)), none⟩, .eff)]
def r_f63_17t : List LOper :=
   [⟨(some 122), (.iaddr 1 (.tmp 113) (.tmp 115)), none⟩,
    ⟨none, (.store 1 (.tmp 122) (.tmp 120)), none⟩]
def r_f63_18 : List (LOper × Kd) :=
   [(⟨(some 123), (.mv (.tmp 0)), none⟩, .pure),
    (⟨(some 124), (.mv (.tmp 4)), none⟩, .pure),
    (⟨(some 125), (.bin .sub (.tmp 124) (.av (.int .i64 3))), none⟩, .pure),
    (⟨(some 126), (.mv (.tmp 0)), none⟩, .pure),
    (⟨(some 127), (.mv (.tmp 4)), none⟩, .pure),
    (⟨(some 128), (.bin .sub (.tmp 127) (.av (.int .i64 4))), none⟩, .pure),
    (⟨(some 129), (.mv (.tmp 14)), none⟩, .pure),
    (⟨(some 130), (.bin .add (.tmp 129) (.av (.int .u32 1))), none⟩, .pure),
    (⟨(some 131), (.idxS (.av (.str [48, 48, 48, 49, 48, 50, 48, 51, 48, 52, 48, 53, 48, 54, 48, 55, 48, 56, 48, 57, 49, 48, 49, 49, 49, 50, 49, 51, 49, 52, 49, 53, 49, 54, 49, 55, 49, 56, 49, 57, 50, 48, 50, 49, 50, 50, 50, 51, 50, 52, 50, 53, 50, 54, 50, 55, 50, 56, 50, 57, 51, 48, 51, 49, 51, 50, 51, 51, 51, 52, 51, 53, 51, 54, 51, 55, 51, 56, 51, 57, 52, 48, 52, 49, 52, 50, 52, 51, 52, 52, 52, 53, 52, 54, 52, 55, 52, 56, 52, 57, 53, 48, 53, 49, 53, 50, 53, 51, 53, 52, 53, 53, 53, 54, 53, 55, 53, 56, 53, 57, 54, 48, 54, 49, 54, 50, 54, 51, 54, 52, 54, 53, 54, 54, 54, 55, 54, 56, 54, 57, 55, 48, 55, 49, 55, 50, 55, 51, 55, 52, 55, 53, 55, 54, 55, 55, 55, 56, 55, 57, 56, 48, 56, 49, 56, 50, 56, 51, 56, 52, 56, 53, 56, 54, 56, 55, 56, 56, 56, 57, 57, 48, 57, 49, 57, 50, 57, 51, 57, 52, 57, 53, 57, 54, 57, 55, 57, 56, 57, 57])) (.tmp 130)), none⟩, (.read 0 0)),
    (⟨(some 132), (.mv (.tmp 14)), none⟩, .pure),
    (⟨(some 133), (.idxS (.av (.str [48, 48, 48, 49, 48, 50, 48, 51, 48, 52, 48, 53, 48, 54, 48, 55, 48, 56, 48, 57, 49, 48, 49, 49, 49, 50, 49, 51, 49, 52, 49, 53, 49, 54, 49, 55, 49, 56, 49, 57, 50, 48, 50, 49, 50, 50, 50, 51, 50, 52, 50, 53, 50, 54, 50, 55, 50, 56, 50, 57, 51, 48, 51, 49, 51, 50, 51, 51, 51, 52, 51, 53, 51, 54, 51, 55, 51, 56, 51, 57, 52, 48, 52, 49, 52, 50, 52, 51, 52, 52, 52, 53, 52, 54, 52, 55, 52, 56, 52, 57, 53, 48, 53, 49, 53, 50, 53, 51, 53, 52, 53, 53, 53, 54, 53, 55, 53, 56, 53, 57, 54, 48, 54, 49, 54, 50, 54, 51, 54, 52, 54, 53, 54, 54, 54, 55, 54, 56, 54, 57, 55, 48, 55, 49, 55, 50, 55, 51, 55, 52, 55, 53, 55, 54, 55, 55, 55, 56, 55, 57, 56, 48, 56, 49, 56, 50, 56, 51, 56, 52, 56, 53, 56, 54, 56, 55, 56, 56, 56, 57, 57, 48, 57, 49, 57, 50, 57, 51, 57, 52, 57, 53, 57, 54, 57, 55, 57, 56, 57, 57])) (.tmp 132)), none⟩, (.read 0 1)),
    (⟨(some 134), (.iaddr 1 (.tmp 123) (.tmp 125)), none⟩, (.read 0 0)),
    (⟨none, (.store 1 (.tmp 134) (.tmp 131)), none⟩, .eff)]
def r_f63_18t : List LOper :=
   [⟨(some 135), (.iaddr 1 (.tmp 126) (.tmp 128)), none⟩,
    ⟨none, (.store 1 (.tmp 135) (.tmp 133)), none⟩]
def r_f63_19 : List SOp :=
   [.op ⟨(some 136), (.mv (.tmp 4)), none⟩,
    .op ⟨(some 137), (.bin .sub (.tmp 136) (.av (.int .i64 4))), none⟩,
    .op ⟨(some 4), (.mv (.tmp 137)), none⟩]
def r_f63_20 : List SOp :=
   [.op ⟨(some 138), (.mv (.tmp 4)), none⟩,
    .op ⟨(some 139), (.bin .geq (.tmp 138) (.av (.int .i64 2))), none⟩]
def r_f63_21 : List SOp :=
   [.op ⟨(some 140), (.mv (.tmp 12)), none⟩,
    .op ⟨(some 141), (.bin .rem (.tmp 140) (.av (.int .u32 100))), none⟩,
    .op ⟨(some 142), (.bin .mul (.tmp 141) (.av (.int .u32 2))), none⟩,
    .op ⟨(some 16), (.mv (.tmp 142)), none⟩]
def r_f63_22 : List SOp :=
   [.op ⟨(some 143), (.mv (.tmp 12)), none⟩,
    .op ⟨(some 144), (.bin .quo (.tmp 143) (.av (.int .u32 100))), none⟩,
    .op ⟨(some 12), (.mv (.tmp 144)), none⟩]
def r_f63_23 : List (LOper × Kd) :=
   [(⟨(some 145), (.mv (.tmp 0)), none⟩, .pure),
    (⟨(some 146), (.mv (.tmp 4)), none⟩, .pure),
    (⟨(some 147), (.bin .sub (.tmp 146) (.av (.int .i64 1))), none⟩, .pure),
    (⟨(some 148), (.mv (.tmp 0)), none⟩, .pure),
    (⟨(some 149), (.mv (.tmp 4)), none⟩, .pure),
    (⟨(some 150), (.bin .sub (.tmp 149) (.av (.int .i64 2))), none⟩, .pure),
    (⟨(some 151), (.mv (.tmp 16)), none⟩, .pure),
    (⟨(some 152), (.bin .add (.tmp 151) (.av (.int .u32 1))), none⟩, .pure),
    (⟨(some 153), (.idxS (.av (.str [48, 48, 48, 49, 48, 50, 48, 51, 48, 52, 48, 53, 48, 54, 48, 55, 48, 56, 48, 57, 49, 48, 49, 49, 49, 50, 49, 51, 49, 52, 49, 53, 49, 54, 49, 55, 49, 56, 49, 57, 50, 48, 50, 49, 50, 50, 50, 51, 50, 52, 50, 53, 50, 54, 50, 55, 50, 56, 50, 57, 51, 48, 51, 49, 51, 50, 51, 51, 51, 52, 51, 53, 51, 54, 51, 55, 51, 56, 51, 57, 52, 48, 52, 49, 52, 50, 52, 51, 52, 52, 52, 53, 52, 54, 52, 55, 52, 56, 52, 57, 53, 48, 53, 49, 53, 50, 53, 51, 53, 52, 53, 53, 53, 54, 53, 55, 53, 56, 53, 57, 54, 48, 54, 49, 54, 50, 54, 51, 54, 52, 54, 53, 54, 54, 54, 55, 54, 56, 54, 57, 55, 48, 55, 49, 55, 50, 55, 51, 55, 52, 55, 53, 55, 54, 55, 55, 55, 56, 55, 57, 56, 48, 56, 49, 56, 50, 56, 51, 56, 52, 56, 53, 56, 54, 56, 55, 56, 56, 56, 57, 57, 48, 57, 49, 57, 50, 57, 51, 57, 52, 57, 53, 57, 54, 57, 55, 57, 56, 57, 57])) (.tmp 152)), none⟩, (.read 0 0)),
    (⟨(some 154), (.mv (.tmp 16)), none⟩, .pure),
    (⟨(some 155), (.idxS (.av (.str [48, 48, 48, 49, 48, 50, 48, 51, 48, 52, 48, 53, 48, 54, 48, 55, 48, 56, 48, 57, 49, 48, 49, 49, 49, 50, 49, 51, 49, 52, 49, 53, 49, 54, 49, 55, 49, 56, 49, 57, 50, 48, 50, 49, 50, 50, 50, 51, 50, 52, 50, 53, 50, 54, 50, 55, 50, 56, 50, 57, 51, 48, 51, 49, 51, 50, 51, 51, 51, 52, 51, 53, 51, 54, 51, 55, 51, 56, 51, 57, 52, 48, 52, 49, 52, 50, 52, 51, 52, 52, 52, 53, 52, 54, 52, 55, 52, 56, 52, 57, 53, 48, 53, 49, 53, 50, 53, 51, 53, 52, 53, 53, 53, 54, 53, 55, 53, 56, 53, 57, 54, 48, 54, 49, 54, 50, 54, 51, 54, 52, 54, 53, 54, 54, 54, 55, 54, 56, 54, 57, 55, 48, 55, 49, 55, 50, 55, 51, 55, 52, 55, 53, 55, 54, 55, 55, 55, 56, 55, 57, 56, 48, 56, 49, 56, 50, 56, 51, 56, 52, 56, 53, 56, 54, 56, 55, 56, 56, 56, 57, 57, 48, 57, 49, 57, 50, 57, 51, 57, 52, 57, 53, 57, 54, 57, 55, 57, 56, 57, 57])) (.tmp 154)), none⟩, (.read 0 1)),
    (⟨(some 156), (.iaddr 1 (.tmp 145) (.tmp 147)), none⟩, (.read 0 0)),
    (⟨none, (.store 1 (.tmp 156) (.tmp 153)), none⟩, .eff)]
def r_f63_23t : List LOper :=
   [⟨(some 157), (.iaddr 1 (.tmp 148) (.tmp 150)), none⟩,
    ⟨none, (.store 1 (.tmp 157) (.tmp 155)), none⟩]
def r_f63_24 : List SOp :=
   [.op ⟨(some 158), (.mv (.tmp 4)), none⟩,
    .op ⟨(some 159), (.bin .sub (.tmp 158) (.av (.int .i64 2))), none⟩,
    .op ⟨(some 4), (.mv (.tmp 159)), none⟩]
def r_f63_25 : List SOp :=
   [.op ⟨(some 160), (.mv (.tmp 4)), none⟩,
    .op ⟨(some 161), (.bin .gtr (.tmp 160) (.av (.int .i64 0))), none⟩]
def r_f63_26 : List SOp :=
   [.op ⟨(some 162), (.mv (.tmp 0)), none⟩,
    .op ⟨(some 163), (.mv (.tmp 12)), none⟩,
    .op ⟨(some 164), (.bin .add (.av (.int .u32 48)) (.tmp 163)), none⟩,
    .op ⟨(some 165), (.conv .u8 (.tmp 164)), none⟩,
    .op ⟨(some 166), (.iaddr 1 (.tmp 162) (.av (.int .i64 0))), none⟩,
    .op ⟨none, (.store 1 (.tmp 166) (.tmp 165)), none⟩]
def c_f63 : LFun := ⟨167, (.seq (.sreg r_f63_0 [true, false, false])
  (.seq (.block 0 (.loop (.seq (.seq (.sreg r_f63_1 [true, false])
  (.cond (.tmp 20) .skip
  (.exit 0)))
  (.block 1 (.seq (.sreg r_f63_2 [true, false, false, false])
  (.seq (.sreg r_f63_3 [true, false, false])
  (.seq (.sreg r_f63_4 [true, true, false, false, false, false])
  (.seq (.sreg r_f63_5 [true, true, false, false, false, false, false, false])
  (.seq (.sreg r_f63_6 [true, true, false, false, false, false, false, false])
  (.seq (.dregM r_f63_7 r_f63_7t [false, false, false, false, false, false, false, false, false, false, false, false, false])
  (.seq (.dregM r_f63_8 r_f63_8t [false, false, false, false, false, false, false, false, false, false, false, false, false])
  (.seq (.dregM r_f63_9 r_f63_9t [false, false, false, false, false, false, false, false, false, false, false, false, false])
  (.seq (.dregM r_f63_10 r_f63_10t [false, false, false, false, false, false, false, false, false, false, false, false, false])
  (.sreg r_f63_11 [true, false, false]))))))))))))))
  (.seq (.sreg r_f63_12 [true, false, false])
  (.seq (.seq (.sreg r_f63_13 [true, false])
  (.cond (.tmp 99) (.seq (.sreg r_f63_14 [true, false, false])
  (.seq (.sreg r_f63_15 [true, false, false])
  (.seq (.sreg r_f63_16 [true, true, false, false, false, false, false, false])
  (.seq (.dregM r_f63_17 r_f63_17t [false, false, false, false, false, false, false, false, false, false, false, false, false])
  (.seq (.dregM r_f63_18 r_f63_18t [false, false, false, false, false, false, false, false, false, false, false, false, false])
  (.sreg r_f63_19 [true, false, false]))))))
  .skip))
  (.seq (.seq (.sreg r_f63_20 [true, false])
  (.cond (.tmp 139) (.seq (.sreg r_f63_21 [true, false, false, false])
  (.seq (.sreg r_f63_22 [true, false, false])
  (.seq (.dregM r_f63_23 r_f63_23t [false, false, false, false, false, false, false, false, false, false, false, false, false])
  (.sreg r_f63_24 [true, false, false]))))
  .skip))
  (.seq (.sreg r_f63_25 [true, false])
  (.cond (.tmp 161) (.sreg r_f63_26 [false, false, false, false, false])
  .skip))))))), []⟩
def o_f63 : Nat → Nat → Nat := fun _ _ => 1
theorem c_f63_eq : lowF Tryz.prog o_f63 63 = some c_f63.raw := by kernel_rfl
theorem c_f63_ok : c_f63.code.okc = true := by kernel_rfl
/-! internal/strconv.formatBits -/
def r_f64_0 : List SOp :=
   [.op ⟨(some 10), (.mv (.av (.sl [] 0 (some 0)))), none⟩,
    .op ⟨(some 11), (.mv (.av (.str []))), none⟩]
def r_f64_1 : List SOp :=
   [.op ⟨(some 19), (.mv (.tmp 2)), none⟩,
    .op ⟨(some 20), (.bin .lss (.tmp 19) (.av (.int .i64 2))), none⟩,
    .op ⟨(some 21), (.mv (.tmp 20)), none⟩,
    .grp none 21 false
      [.op ⟨(some 22), (.mv (.tmp 2)), (some (21, false))⟩,
      .op ⟨(some 23), (.bin .eql (.tmp 22) (.av (.int .i64 10))), (some (21, false))⟩]
      24 (.tmp 23),
    .op ⟨(some 25), (.mv (.tmp 24)), none⟩,
    .grp none 25 false
      [.op ⟨(some 26), (.mv (.tmp 2)), (some (25, false))⟩,
      .op ⟨(some 27), (.bin .gtr (.tmp 26) (.av (.int .i64 36))), (some (25, false))⟩]
      28 (.tmp 27)]
def r_f64_2 : List SOp :=
   [.op ⟨(some 29), (.mkif 9 (.av (.str [115, 116, 114, 99, 111, 110, 118, 58, 32, 105, 108, 108, 101, 103, 97, 108, 32, 65, 112, 112, 101, 110, 100, 73, 110, 116, 47, 70, 111, 114, 109, 97, 116, 73, 110, 116, 32, 98, 97, 115, 101]))), none⟩,
    .op ⟨none, .bad, none⟩]
def r_f64_3 : List SOp :=
   [.op ⟨(some 12), (.alloc [(.int .u8 0), (.int .u8 0), (.int .u8 0), (.int .u8 0), (.int .u8 0), (.int .u8 0), (.int .u8 0), (.int .u8 0), (.int .u8 0), (.int .u8 0), (.int .u8 0), (.int .u8 0), (.int .u8 0), (.int .u8 0), (.int .u8 0), (.int .u8 0), (.int .u8 0), (.int .u8 0), (.int .u8 0), (.int .u8 0), (.int .u8 0), (.int .u8 0), (.int .u8 0), (.int .u8 0), (.int .u8 0), (.int .u8 0), (.int .u8 0), (.int .u8 0), (.int .u8 0), (.int .u8 0), (.int .u8 0), (.int .u8 0), (.int .u8 0), (.int .u8 0), (.int .u8 0), (.int .u8 0), (.int .u8 0), (.int .u8 0), (.int .u8 0), (.int .u8 0), (.int .u8 0), (.int .u8 0), (.int .u8 0), (.int .u8 0), (.int .u8 0), (.int .u8 0), (.int .u8 0), (.int .u8 0), (.int .u8 0), (.int .u8 0), (.int .u8 0), (.int .u8 0), (.int .u8 0), (.int .u8 0), (.int .u8 0), (.int .u8 0), (.int .u8 0), (.int .u8 0), (.int .u8 0), (.int .u8 0), (.int .u8 0), (.int .u8 0), (.int .u8 0), (.int .u8 0), (.int .u8 0)]), none⟩]
def r_f64_4 : List SOp :=
   [.op ⟨(some 13), (.mv (.av (.int .i64 65))), none⟩]
def r_f64_5 : List SOp :=
   [.op ⟨(some 30), (.mv (.tmp 3)), none⟩]
def r_f64_6 : List SOp :=
   [.op ⟨(some 31), (.mv (.tmp 1)), none⟩,
    .op ⟨(some 32), (.un .neg (.tmp 31)), none⟩,
    .op ⟨(some 1), (.mv (.tmp 32)), none⟩]
def r_f64_7 : List SOp :=
   [.op ⟨(some 33), (.mv (.tmp 2)), none⟩,
    .op ⟨(some 34), (.call 96 [(.tmp 33)]), none⟩]
def r_f64_8 : List SOp :=
   [.op ⟨(some 35), (.mv (.tmp 2)), none⟩,
    .op ⟨(some 36), (.conv .u64 (.tmp 35)), none⟩,
    .op ⟨(some 37), (.call 97 [(.tmp 36)]), none⟩,
    .op ⟨(some 38), (.conv .u64 (.tmp 37)), none⟩,
    .op ⟨(some 14), (.mv (.tmp 38)), none⟩]
def r_f64_9 : List SOp :=
   [.op ⟨(some 39), (.mv (.tmp 2)), none⟩,
    .op ⟨(some 40), (.conv .u64 (.tmp 39)), none⟩,
    .op ⟨(some 15), (.mv (.tmp 40)), none⟩]
def r_f64_10 : List SOp :=
   [.op ⟨(some 41), (.mv (.tmp 2)), none⟩,
    .op ⟨(some 42), (.conv .u64 (.tmp 41)), none⟩,
    .op ⟨(some 43), (.bin .sub (.tmp 42) (.av (.int .u64 1))), none⟩,
    .op ⟨(some 16), (.mv (.tmp 43)), none⟩]
def r_f64_11 : List SOp :=
   [.op ⟨(some 44), (.mv (.tmp 1)), none⟩,
    .op ⟨(some 45), (.mv (.tmp 15)), none⟩,
    .op ⟨(some 46), (.bin .geq (.tmp 44) (.tmp 45)), none⟩]
def r_f64_12 : List SOp :=
   [.op ⟨(some 47), (.mv (.tmp 13)), none⟩,
    .op ⟨(some 48), (.bin .sub (.tmp 47) (.av (.int .i64 1))), none⟩,
    .op ⟨(some 13), (.mv (.tmp 48)), none⟩]
def r_f64_13 : List SOp :=
   [.op ⟨(some 49), (.mv (.tmp 13)), none⟩,
    .op ⟨(some 50), (.mv (.tmp 1)), none⟩,
    .op ⟨(some 51), (.mv (.tmp 16)), none⟩,
    .op ⟨(some 52), (.bin .and (.tmp 50) (.tmp 51)), none⟩,
    .op ⟨(some 53), (.idxS (.av (.str [48, 49, 50, 51, 52, 53, 54, 55, 56, 57, 97, 98, 99, 100, 101, 102, 103, 104, 105, 106, 107, 108, 109, 110, 111, 112, 113, 114, 115, 116, 117, 118, 119, 120, 121, 122])) (.tmp 52)), none⟩,
    .op ⟨(some 54), (.iaddrA 65 1 (.tmp 12) (.tmp 49)), none⟩,
    .op ⟨none, (.store 1 (.tmp 54) (.tmp 53)), none⟩]
def r_f64_14 : List SOp :=
   [.op ⟨(some 55), (.mv (.tmp 1)), none⟩,
    .op ⟨(some 56), (.mv (.tmp 14)), none⟩,
    .op ⟨(some 57), (.bin .shr (.tmp 55) (.tmp 56)), none⟩,
    .op ⟨(some 1), (.mv (.tmp 57)), none⟩]
def r_f64_15 : List SOp :=
   [.op ⟨(some 58), (.mv (.tmp 13)), none⟩,
    .op ⟨(some 59), (.bin .sub (.tmp 58) (.av (.int .i64 1))), none⟩,
    .op ⟨(some 13), (.mv (.tmp 59)), none⟩]
def r_f64_16 : List SOp :=
   [.op ⟨(some 60), (.mv (.tmp 13)), none⟩,
    .op ⟨(some 61), (.mv (.tmp 1)), none⟩,
    .op ⟨(some 62), (.idxS (.av (.str [48, 49, 50, 51, 52, 53, 54, 55, 56, 57, 97, 98, 99, 100, 101, 102, 103, 104, 105, 106, 107, 108, 109, 110, 111, 112, 113, 114, 115, 116, 117, 118, 119, 120, 121, 122])) (.tmp 61)), none⟩,
    .op ⟨(some 63), (.iaddrA 65 1 (.tmp 12) (.tmp 60)), none⟩,
    .op ⟨none, (.store 1 (.tmp 63) (.tmp 62)), none⟩]
def r_f64_17 : List SOp :=
   [.op ⟨(some 64), (.mv (.tmp 2)), none⟩,
    .op ⟨(some 65), (.conv .u64 (.tmp 64)), none⟩,
    .op ⟨(some 17), (.mv (.tmp 65)), none⟩]
def r_f64_18 : List SOp :=
   [.op ⟨(some 66), (.mv (.tmp 1)), none⟩,
    .op ⟨(some 67), (.mv (.tmp 17)), none⟩,
    .op ⟨(some 68), (.bin .geq (.tmp 66) (.tmp 67)), none⟩]
def r_f64_19 : List SOp :=
   [.op ⟨(some 69), (.mv (.tmp 13)), none⟩,
    .op ⟨(some 70), (.bin .sub (.tmp 69) (.av (.int .i64 1))), none⟩,
    .op ⟨(some 13), (.mv (.tmp 70)), none⟩]
def r_f64_20 : List SOp :=
   [.op ⟨(some 71), (.mv (.tmp 1)), none⟩,
    .op ⟨(some 72), (.mv (.tmp 17)), none⟩,
    .op ⟨(some 73), (.bin .quo (.tmp 71) (.tmp 72)), none⟩,
    .op ⟨(some 18), (.mv (.tmp 73)), none⟩]
def r_f64_21 : List SOp :=
   [.op ⟨(some 74), (.mv (.tmp 13)), none⟩,
    .op ⟨(some 75), (.mv (.tmp 1)), none⟩,
    .op ⟨(some 76), (.mv (.tmp 18)), none⟩,
    .op ⟨(some 77), (.mv (.tmp 17)), none⟩,
    .op ⟨(some 78), (.bin .mul (.tmp 76) (.tmp 77)), none⟩,
    .op ⟨(some 79), (.bin .sub (.tmp 75) (.tmp 78)), none⟩,
    .op ⟨(some 80), (.idxS (.av (.str [48, 49, 50, 51, 52, 53, 54, 55, 56, 57, 97, 98, 99, 100, 101, 102, 103, 104, 105, 106, 107, 108, 109, 110, 111, 112, 113, 114, 115, 116, 117, 118, 119, 120, 121, 122])) (.tmp 79)), none⟩,
    .op ⟨(some 81), (.iaddrA 65 1 (.tmp 12) (.tmp 74)), none⟩,
    .op ⟨none, (.store 1 (.tmp 81) (.tmp 80)), none⟩]
def r_f64_22 : List SOp :=
   [.op ⟨(some 82), (.mv (.tmp 18)), none⟩,
    .op ⟨(some 1), (.mv (.tmp 82)), none⟩]
def r_f64_23 : List SOp :=
   [.op ⟨(some 83), (.mv (.tmp 13)), none⟩,
    .op ⟨(some 84), (.bin .sub (.tmp 83) (.av (.int .i64 1))), none⟩,
    .op ⟨(some 13), (.mv (.tmp 84)), none⟩]
def r_f64_24 : List SOp :=
   [.op ⟨(some 85), (.mv (.tmp 13)), none⟩,
    .op ⟨(some 86), (.mv (.tmp 1)), none⟩,
    .op ⟨(some 87), (.idxS (.av (.str [48, 49, 50, 51, 52, 53, 54, 55, 56, 57, 97, 98, 99, 100, 101, 102, 103, 104, 105, 106, 107, 108, 109, 110, 111, 112, 113, 114, 115, 116, 117, 118, 119, 120, 121, 122])) (.tmp 86)), none⟩,
    .op ⟨(some 88), (.iaddrA 65 1 (.tmp 12) (.tmp 85)), none⟩,
    .op ⟨none, (.store 1 (.tmp 88) (.tmp 87)), none⟩]
def r_f64_25 : List SOp :=
   [.op ⟨(some 89), (.mv (.tmp 3)), none⟩]
def r_f64_26 : List SOp :=
   [.op ⟨(some 90), (.mv (.tmp 13)), none⟩,
    .op ⟨(some 91), (.bin .sub (.tmp 90) (.av (.int .i64 1))), none⟩,
    .op ⟨(some 13), (.mv (.tmp 91)), none⟩]
def r_f64_27 : List SOp :=
   [.op ⟨(some 92), (.mv (.tmp 13)), none⟩,
    .op ⟨(some 93), (.iaddrA 65 1 (.tmp 12) (.tmp 92)), none⟩,
    .op ⟨none, (.store 1 (.tmp 93) (.av (.int .u8 45))), none⟩]
def r_f64_28 : List SOp :=
   [.op ⟨(some 94), (.mv (.tmp 4)), none⟩]
def r_f64_29 : List SOp :=
   [.op ⟨(some 95), (.mv (.tmp 0)), none⟩,
    .op ⟨(some 96), (.mv (.tmp 13)), none⟩,
    .op ⟨(some 97), (.slA 65 1 (.tmp 12) (some (.tmp 96)) none), none⟩,
    .op ⟨(some 98), (.app 1 1 1 [(.int .u8 0)] (.tmp 95) (.tmp 97)), none⟩,
    .op ⟨(some 10), (.mv (.tmp 98)), none⟩]
def r_f64_30 : List SOp :=
   [.op ⟨(some 99), (.mv (.tmp 13)), none⟩,
    .op ⟨(some 100), (.slA 65 1 (.tmp 12) (some (.tmp 99)) none), none⟩,
    .op ⟨(some 101), (.b2s (.tmp 100)), none⟩,
    .op ⟨(some 11), (.mv (.tmp 101)), none⟩]
def c_f64 : LFun := ⟨102, (.seq (.sreg r_f64_0 [])
  (.seq (.seq (.sreg r_f64_1 [true, false, false, false, false, false])
  (.cond (.tmp 28) (.sreg r_f64_2 [false])
  .skip))
  (.seq (.sreg r_f64_3 [])
  (.seq (.sreg r_f64_4 [])
  (.seq (.seq (.sreg r_f64_5 [])
  (.cond (.tmp 30) (.sreg r_f64_6 [true, false, false])
  .skip))
  (.seq (.seq (.sreg r_f64_7 [true, false])
  (.cond (.tmp 34) (.seq (.sreg r_f64_8 [true, false, false, false, false])
  (.seq (.sreg r_f64_9 [true, false, false])
  (.seq (.sreg r_f64_10 [true, false, false, false])
  (.seq (.block 0 (.loop (.seq (.seq (.sreg r_f64_11 [true, false, false])
  (.cond (.tmp 46) .skip
  (.exit 0)))
  (.block 1 (.seq (.sreg r_f64_12 [true, false, false])
  (.seq (.sreg r_f64_13 [false, false, false, false, false, false])
  (.sreg r_f64_14 [true, false, false, false])))))))
  (.seq (.sreg r_f64_15 [true, false, false])
  (.sreg r_f64_16 [false, false, false, false]))))))
  (.seq (.sreg r_f64_17 [true, false, false])
  (.seq (.block 2 (.loop (.seq (.seq (.sreg r_f64_18 [true, false, false])
  (.cond (.tmp 68) .skip
  (.exit 2)))
  (.block 3 (.seq (.sreg r_f64_19 [true, false, false])
  (.seq (.sreg r_f64_20 [true, false, false, false])
  (.seq (.sreg r_f64_21 [false, false, false, false, false, false, false, false])
  (.sreg r_f64_22 [true, false]))))))))
  (.seq (.sreg r_f64_23 [true, false, false])
  (.sreg r_f64_24 [false, false, false, false]))))))
  (.seq (.seq (.sreg r_f64_25 [])
  (.cond (.tmp 89) (.seq (.sreg r_f64_26 [true, false, false])
  (.sreg r_f64_27 [false, false]))
  .skip))
  (.seq (.seq (.sreg r_f64_28 [])
  (.cond (.tmp 94) (.seq (.sreg r_f64_29 [true, false, false, false, false])
  .ret)
  .skip))
  (.seq (.sreg r_f64_30 [true, false, false, false])
  .ret))))))))), [(.tmp 10), (.tmp 11)]⟩
def o_f64 : Nat → Nat → Nat := fun _ _ => 1
theorem c_f64_eq : lowF Tryz.prog o_f64 64 = some c_f64.raw := by kernel_rfl
theorem c_f64_ok : c_f64.code.okc = true := by kernel_rfl
/-! internal/stringslite.Cut -/
def r_f129_0 : List SOp :=
   [.op ⟨(some 4), (.mv (.av (.str []))), none⟩,
    .op ⟨(some 5), (.mv (.av (.str []))), none⟩,
    .op ⟨(some 6), (.mv (.av (.bool false))), none⟩]
def r_f129_1 : List SOp :=
   [.op ⟨(some 8), (.mv (.tmp 0)), none⟩,
    .op ⟨(some 9), (.mv (.tmp 1)), none⟩,
    .op ⟨(some 10), (.call 108 [(.tmp 8), (.tmp 9)]), none⟩,
    .op ⟨(some 7), (.mv (.tmp 10)), none⟩]
def r_f129_2 : List SOp :=
   [.op ⟨(some 11), (.mv (.tmp 7)), none⟩,
    .op ⟨(some 12), (.bin .geq (.tmp 11) (.av (.int .i64 0))), none⟩]
def r_f129_3 : List SOp :=
   [.op ⟨(some 13), (.mv (.tmp 0)), none⟩,
    .op ⟨(some 14), (.mv (.tmp 7)), none⟩,
    .op ⟨(some 15), (.slS (.tmp 13) none (some (.tmp 14))), none⟩,
    .op ⟨(some 16), (.mv (.tmp 0)), none⟩,
    .op ⟨(some 17), (.mv (.tmp 7)), none⟩,
    .op ⟨(some 18), (.mv (.tmp 1)), none⟩,
    .op ⟨(some 19), (.len true (.tmp 18)), none⟩,
    .op ⟨(some 20), (.bin .add (.tmp 17) (.tmp 19)), none⟩,
    .op ⟨(some 21), (.slS (.tmp 16) (some (.tmp 20)) none), none⟩,
    .op ⟨(some 4), (.mv (.tmp 15)), none⟩,
    .op ⟨(some 5), (.mv (.tmp 21)), none⟩,
    .op ⟨(some 6), (.mv (.av (.bool true))), none⟩]
def r_f129_4 : List SOp :=
   [.op ⟨(some 22), (.mv (.tmp 0)), none⟩,
    .op ⟨(some 4), (.mv (.tmp 22)), none⟩,
    .op ⟨(some 5), (.mv (.av (.str []))), none⟩,
    .op ⟨(some 6), (.mv (.av (.bool false))), none⟩]
def c_f129 : LFun := ⟨23, (.seq (.sreg r_f129_0 [])
  (.seq (.seq (.sreg r_f129_1 [true, false, false, false])
  (.seq (.sreg r_f129_2 [true, false])
  (.cond (.tmp 12) (.seq (.sdreg r_f129_3 [.pure, .pure, (.read 0 0), .pure, .pure, .pure, (.read 0 0), .pure, (.read 0 0), .pure] [true, true, true, false, false, false, false, false, false, false, false, false])
  .ret)
  .skip)))
  (.seq (.sreg r_f129_4 [true, true, true, false])
  .ret))), [(.tmp 4), (.tmp 5), (.tmp 6)]⟩
def o_f129 : Nat → Nat → Nat := fun _ _ => 1
theorem c_f129_eq : lowF Tryz.prog o_f129 129 = some c_f129.raw := by kernel_rfl
theorem c_f129_ok : c_f129.code.okc = true := by kernel_rfl
/-! castellan/dn.letter -/
def r_f130_0 : List SOp :=
   [.op ⟨(some 2), (.mv (.av (.bool false))), none⟩]
def r_f130_1 : List SOp :=
   [.op ⟨(some 3), (.mv (.tmp 0)), none⟩,
    .op ⟨(some 4), (.bin .geq (.tmp 3) (.av (.int .i32 97))), none⟩,
    .op ⟨(some 5), (.mv (.tmp 4)), none⟩,
    .grp none 5 true
      [.op ⟨(some 6), (.mv (.tmp 0)), (some (5, true))⟩,
      .op ⟨(some 7), (.bin .leq (.tmp 6) (.av (.int .i32 122))), (some (5, true))⟩]
      8 (.tmp 7),
    .op ⟨(some 9), (.mv (.tmp 8)), none⟩,
    .grp none 9 false
      [.op ⟨(some 10), (.mv (.tmp 0)), (some (9, false))⟩,
      .op ⟨(some 11), (.bin .geq (.tmp 10) (.av (.int .i32 65))), (some (9, false))⟩,
      .op ⟨(some 12), (.mv (.tmp 11)), (some (9, false))⟩,
      .grp (some (9, false)) 12 true
        [.op ⟨(some 13), (.mv (.tmp 0)), (some (12, true))⟩,
        .op ⟨(some 14), (.bin .leq (.tmp 13) (.av (.int .i32 90))), (some (12, true))⟩]
        15 (.tmp 14)]
      16 (.tmp 15),
    .op ⟨(some 2), (.mv (.tmp 16)), none⟩]
def c_f130 : LFun := ⟨17, (.seq (.sreg r_f130_0 [])
  (.seq (.sreg r_f130_1 [true, false, false, false, false, false, false])
  .ret)), [(.tmp 2)]⟩
def o_f130 : Nat → Nat → Nat := fun _ _ => 1
theorem c_f130_eq : lowF Tryz.prog o_f130 130 = some c_f130.raw := by kernel_rfl
theorem c_f130_ok : c_f130.code.okc = true := by kernel_rfl
/-! castellan/dn.has$1 -/
def r_f132_0 : List SOp :=
   [.op ⟨(some 2), (.box (.tmp 0)), none⟩,
    .op ⟨(some 3), (.mv (.av (.bool false))), none⟩]
def r_f132_1 : List SOp :=
   [.op ⟨(some 4), (.faddr 0 (.tmp 2)), none⟩,
    .op ⟨(some 5), (.load false 1 (.tmp 4)), none⟩,
    .op ⟨(some 6), (.call 44 [(.tmp 5)]), none⟩,
    .op ⟨(some 7), (.load false 1 (.tmp 1)), none⟩,
    .op ⟨(some 8), (.call 44 [(.tmp 7)]), none⟩,
    .op ⟨(some 9), (.bin .eql (.tmp 6) (.tmp 8)), none⟩,
    .op ⟨(some 3), (.mv (.tmp 9)), none⟩]
def c_f132 : LFun := ⟨10, (.seq (.sreg r_f132_0 [])
  (.seq (.sdreg r_f132_1 [.pure, (.read 0 0), .eff, (.read 1 0)] [true, false, false, false, false, false, false])
  .ret)), [(.tmp 3)]⟩
def o_f132 : Nat → Nat → Nat := fun r i => if r = 1 ∧ i = 2 then 3 else if r = 1 ∧ i = 4 then 3 else 1
theorem c_f132_eq : lowF Tryz.prog o_f132 132 = some c_f132.raw := by kernel_rfl
theorem c_f132_ok : c_f132.code.okc = true := by kernel_rfl
/-! slices.ContainsFunc[castellan/api.RDN,castellan/api.AVA] -/
def r_f131_0 : List SOp :=
   [.op ⟨(some 4), (.mv (.av (.bool false))), none⟩]
def r_f131_1 : List SOp :=
   [.op ⟨(some 5), (.mv (.tmp 0)), none⟩,
    .op ⟨(some 6), (.mv (.tmp 1)), none⟩,
    .op ⟨(some 7), (.call 163 [(.tmp 5), (.tmp 6)]), none⟩,
    .op ⟨(some 8), (.bin .geq (.tmp 7) (.av (.int .i64 0))), none⟩,
    .op ⟨(some 4), (.mv (.tmp 8)), none⟩]
def c_f131 : LFun := ⟨9, (.seq (.sreg r_f131_0 [])
  (.seq (.sreg r_f131_1 [true, false, false, false, false])
  .ret)), [(.tmp 4)]⟩
def o_f131 : Nat → Nat → Nat := fun _ _ => 1
theorem c_f131_eq : lowF Tryz.prog o_f131 131 = some c_f131.raw := by kernel_rfl
theorem c_f131_ok : c_f131.code.okc = true := by kernel_rfl
/-! strings.IndexByte -/
def r_f133_0 : List SOp :=
   [.op ⟨(some 4), (.mv (.av (.int .i64 0))), none⟩]
def r_f133_1 : List SOp :=
   [.op ⟨(some 5), (.mv (.tmp 0)), none⟩,
    .op ⟨(some 6), (.mv (.tmp 1)), none⟩,
    .op ⟨(some 7), (.call 140 [(.tmp 5), (.tmp 6)]), none⟩,
    .op ⟨(some 4), (.mv (.tmp 7)), none⟩]
def c_f133 : LFun := ⟨8, (.seq (.sreg r_f133_0 [])
  (.seq (.sreg r_f133_1 [true, false, false, false])
  .ret)), [(.tmp 4)]⟩
def o_f133 : Nat → Nat → Nat := fun _ _ => 1
theorem c_f133_eq : lowF Tryz.prog o_f133 133 = some c_f133.raw := by kernel_rfl
theorem c_f133_ok : c_f133.code.okc = true := by kernel_rfl
/-! castellan/octet.Unhex -/
def r_f134_0 : List SOp :=
   [.op ⟨(some 2), (.mv (.av (.str []))), none⟩,
    .op ⟨(some 3), (.mv (.av (.bool false))), none⟩]
def r_f134_1 : List SOp :=
   [.op ⟨(some 10), (.mv (.tmp 0)), none⟩,
    .op ⟨(some 11), (.len true (.tmp 10)), none⟩,
    .op ⟨(some 12), (.bin .rem (.tmp 11) (.av (.int .i64 2))), none⟩,
    .op ⟨(some 13), (.bin .eql (.tmp 12) (.av (.int .i64 1))), none⟩]
def r_f134_2 : List SOp :=
   [.op ⟨(some 2), (.mv (.av (.str []))), none⟩,
    .op ⟨(some 3), (.mv (.av (.bool false))), none⟩]
def r_f134_3 : List SOp :=
   [.op ⟨(some 14), (.mv (.tmp 0)), none⟩,
    .op ⟨(some 15), (.len true (.tmp 14)), none⟩,
    .op ⟨(some 16), (.bin .quo (.tmp 15) (.av (.int .i64 2))), none⟩,
    .op ⟨(some 17), (.mkslice 1 1 [(.int .u8 0)] (.av (.int .i64 0)) (.tmp 16)), none⟩,
    .op ⟨(some 4), (.mv (.tmp 17)), none⟩]
def r_f134_4 : List SOp :=
   [.op ⟨(some 5), (.mv (.av (.int .i64 0))), none⟩]
def r_f134_5 : List SOp :=
   [.op ⟨(some 18), (.mv (.tmp 5)), none⟩,
    .op ⟨(some 19), (.mv (.tmp 0)), none⟩,
    .op ⟨(some 20), (.len true (.tmp 19)), none⟩,
    .op ⟨(some 21), (.bin .lss (.tmp 18) (.tmp 20)), none⟩]
def r_f134_6 : List SOp :=
   [.op ⟨(some 25), (.mv (.tmp 0)), none⟩,
    .op ⟨(some 26), (.mv (.tmp 5)), none⟩,
    .op ⟨(some 27), (.idxS (.tmp 25) (.tmp 26)), none⟩,
    .op ⟨(some 28), (.call 164 [(.tmp 27)]), none⟩,
    .op ⟨(some 24), (.mv (.tmp 28)), none⟩,
    .op ⟨(some 29), (.extract (.tmp 24) 0), none⟩,
    .op ⟨(some 30), (.extract (.tmp 24) 1), none⟩,
    .op ⟨(some 6), (.mv (.tmp 29)), none⟩,
    .op ⟨(some 7), (.mv (.tmp 30)), none⟩]
def r_f134_7 : List SOp :=
   [.op ⟨(some 32), (.mv (.tmp 0)), none⟩,
    .op ⟨(some 33), (.mv (.tmp 5)), none⟩,
    .op ⟨(some 34), (.bin .add (.tmp 33) (.av (.int .i64 1))), none⟩,
    .op ⟨(some 35), (.idxS (.tmp 32) (.tmp 34)), none⟩,
    .op ⟨(some 36), (.call 164 [(.tmp 35)]), none⟩,
    .op ⟨(some 31), (.mv (.tmp 36)), none⟩,
    .op ⟨(some 37), (.extract (.tmp 31) 0), none⟩,
    .op ⟨(some 38), (.extract (.tmp 31) 1), none⟩,
    .op ⟨(some 8), (.mv (.tmp 37)), none⟩,
    .op ⟨(some 9), (.mv (.tmp 38)), none⟩]
def r_f134_8 : List SOp :=
   [.op ⟨(some 39), (.mv (.tmp 7)), none⟩,
    .op ⟨(some 40), (.un .not (.tmp 39)), none⟩,
    .op ⟨(some 41), (.mv (.tmp 40)), none⟩,
    .grp none 41 false
      [.op ⟨(some 42), (.mv (.tmp 9)), (some (41, false))⟩,
      .op ⟨(some 43), (.un .not (.tmp 42)), (some (41, false))⟩]
      44 (.tmp 43)]
def r_f134_9 : List SOp :=
   [.op ⟨(some 2), (.mv (.av (.str []))), none⟩,
    .op ⟨(some 3), (.mv (.av (.bool false))), none⟩]
def r_f134_10 : List SOp :=
   [.op ⟨(some 45), (.mv (.tmp 4)), none⟩,
    .op ⟨(some 46), (.mv (.tmp 6)), none⟩,
    .op ⟨(some 47), (.bin .shl (.tmp 46) (.av (.int .u64 4))), none⟩,
    .op ⟨(some 48), (.mv (.tmp 8)), none⟩,
    .op ⟨(some 49), (.bin .or (.tmp 47) (.tmp 48)), none⟩,
    .op ⟨(some 50), (.bslice false 1 1 [(.int .u8 0)] [(0, 1, (.tmp 49))]), none⟩,
    .op ⟨(some 51), (.app 1 1 1 [(.int .u8 0)] (.tmp 45) (.tmp 50)), none⟩,
    .op ⟨(some 4), (.mv (.tmp 51)), none⟩]
def r_f134_11 : List SOp :=
   [.op ⟨(some 22), (.mv (.tmp 5)), none⟩,
    .op ⟨(some 23), (.bin .add (.tmp 22) (.av (.int .i64 2))), none⟩,
    .op ⟨(some 5), (.mv (.tmp 23)), none⟩]
def r_f134_12 : List SOp :=
   [.op ⟨(some 52), (.mv (.tmp 4)), none⟩,
    .op ⟨(some 53), (.b2s (.tmp 52)), none⟩,
    .op ⟨(some 2), (.mv (.tmp 53)), none⟩,
    .op ⟨(some 3), (.mv (.av (.bool true))), none⟩]
def c_f134 : LFun := ⟨54, (.seq (.sreg r_f134_0 [])
  (.seq (.seq (.sreg r_f134_1 [true, false, false, false])
  (.cond (.tmp 13) (.seq (.sreg r_f134_2 [])
  .ret)
  .skip))
  (.seq (.sreg r_f134_3 [true, false, false, false, false])
  (.seq (.seq (.sreg r_f134_4 [])
  (.block 0 (.loop (.seq (.seq (.sreg r_f134_5 [true, false, false, false])
  (.cond (.tmp 21) .skip
  (.exit 0)))
  (.seq (.block 1 (.seq (.sreg r_f134_6 [true, true, false, false, false, false, false, false, false])
  (.seq (.sreg r_f134_7 [true, true, false, false, false, false, false, false, false, false])
  (.seq (.seq (.sreg r_f134_8 [true, false, false, false])
  (.cond (.tmp 44) (.seq (.sreg r_f134_9 [])
  .ret)
  .skip))
  (.sreg r_f134_10 [true, false, false, false, false, false, false, false])))))
  (.sreg r_f134_11 [true, false, false]))))))
  (.seq (.sreg r_f134_12 [true, true, false, false])
  .ret))))), [(.tmp 2), (.tmp 3)]⟩
def o_f134 : Nat → Nat → Nat := fun _ _ => 1
theorem c_f134_eq : lowF Tryz.prog o_f134 134 = some c_f134.raw := by kernel_rfl
theorem c_f134_ok : c_f134.code.okc = true := by kernel_rfl
/-! castellan/dn.check -/
def r_f135_0 : List SOp :=
   [.op ⟨(some 2), (.mv (.av (.int .i64 0))), none⟩]
def r_f135_1 : List SOp :=
   [.op ⟨(some 7), (.mv (.tmp 0)), none⟩,
    .op ⟨(some 8), (.len false (.tmp 7)), none⟩,
    .op ⟨(some 9), (.mv (.av (.int .i64 0))), none⟩]
def r_f135_2 : List SOp :=
   [.op ⟨(some 10), (.bin .lss (.tmp 9) (.tmp 8)), none⟩]
def r_f135_3 : List SOp :=
   [.op ⟨(some 11), (.mv (.tmp 9)), none⟩,
    .op ⟨(some 12), (.iaddr 1 (.tmp 7) (.tmp 9)), none⟩,
    .op ⟨(some 13), (.load false 1 (.tmp 12)), none⟩,
    .op ⟨(some 3), (.mv (.tmp 11)), none⟩,
    .op ⟨(some 4), (.mv (.tmp 13)), none⟩]
def r_f135_4 : List SOp :=
   [.op ⟨(some 15), (.mv (.tmp 3)), none⟩,
    .op ⟨(some 16), (.bin .eql (.tmp 15) (.av (.int .i64 32))), none⟩,
    .op ⟨(some 14), (.mv (.tmp 16)), none⟩]
def r_f135_5 : List SOp :=
   [.op ⟨(some 2), (.mv (.av (.int .i64 9))), none⟩]
def r_f135_6 : List SOp :=
   [.op ⟨(some 18), (.mv (.tmp 4)), none⟩,
    .op ⟨(some 19), (.len false (.tmp 18)), none⟩,
    .op ⟨(some 20), (.bin .eql (.tmp 19) (.av (.int .i64 0))), none⟩,
    .op ⟨(some 17), (.mv (.tmp 20)), none⟩]
def r_f135_7 : List SOp :=
   [.op ⟨(some 2), (.mv (.av (.int .i64 2))), none⟩]
def r_f135_8 : List SOp :=
   [.op ⟨(some 21), (.mv (.tmp 4)), none⟩,
    .op ⟨(some 22), (.len false (.tmp 21)), none⟩,
    .op ⟨(some 23), (.mv (.av (.int .i64 0))), none⟩]
def r_f135_9 : List SOp :=
   [.op ⟨(some 24), (.bin .lss (.tmp 23) (.tmp 22)), none⟩]
def r_f135_10 : List SOp :=
   [.op ⟨(some 25), (.mv (.tmp 23)), none⟩,
    .op ⟨(some 26), (.iaddr 2 (.tmp 21) (.tmp 23)), none⟩,
    .op ⟨(some 27), (.load true 2 (.tmp 26)), none⟩,
    .op ⟨(some 6), (.alloc [(.str []), (.str [])]), none⟩,
    .op ⟨(some 5), (.mv (.tmp 25)), none⟩,
    .op ⟨none, (.store 2 (.tmp 6) (.tmp 27)), none⟩]
def r_f135_11 : List SOp :=
   [.op ⟨(some 29), (.mv (.tmp 5)), none⟩,
    .op ⟨(some 30), (.bin .eql (.tmp 29) (.av (.int .i64 8))), none⟩,
    .op ⟨(some 28), (.mv (.tmp 30)), none⟩]
def r_f135_12 : List SOp :=
   [.op ⟨(some 2), (.mv (.av (.int .i64 9))), none⟩]
def r_f135_13 : List SOp :=
   [.op ⟨(some 32), (.faddr 0 (.tmp 6)), none⟩,
    .op ⟨(some 33), (.load false 1 (.tmp 32)), none⟩,
    .op ⟨(some 34), (.call 101 [(.tmp 33)]), none⟩,
    .op ⟨(some 35), (.un .not (.tmp 34)), none⟩,
    .op ⟨(some 31), (.mv (.tmp 35)), none⟩]
def r_f135_14 : List SOp :=
   [.op ⟨(some 2), (.mv (.av (.int .i64 20))), none⟩]
def r_f135_15 : List SOp :=
   [.op ⟨(some 37), (.mv (.tmp 4)), none⟩,
    .op ⟨(some 38), (.mv (.tmp 5)), none⟩,
    .op ⟨(some 39), (.slV 2 (.tmp 37) none (some (.tmp 38)) none), none⟩,
    .op ⟨(some 40), (.faddr 0 (.tmp 6)), none⟩,
    .op ⟨(some 41), (.load false 1 (.tmp 40)), none⟩,
    .op ⟨(some 42), (.call 102 [(.tmp 39), (.tmp 41)]), none⟩,
    .op ⟨(some 36), (.mv (.tmp 42)), none⟩]
def r_f135_16 : List SOp :=
   [.op ⟨(some 2), (.mv (.av (.int .i64 21))), none⟩]
def r_f135_17 : List SOp :=
   [.op ⟨(some 43), (.bin .add (.tmp 23) (.av (.int .i64 1))), none⟩,
    .op ⟨(some 23), (.mv (.tmp 43)), none⟩]
def r_f135_18 : List SOp :=
   [.op ⟨(some 44), (.bin .add (.tmp 9) (.av (.int .i64 1))), none⟩,
    .op ⟨(some 9), (.mv (.tmp 44)), none⟩]
def r_f135_19 : List SOp :=
   [.op ⟨(some 2), (.mv (.av (.int .i64 0))), none⟩]
def c_f135 : LFun := ⟨45, (.seq (.sreg r_f135_0 [])
  (.seq (.seq (.sreg r_f135_1 [])
  (.block 0 (.loop (.seq (.sreg r_f135_2 [])
  (.seq (.cond (.tmp 10) .skip
  (.exit 0))
  (.seq (.block 1 (.seq (.sreg r_f135_3 [true, true, false, false, false])
  (.seq (.block 2 (.seq (.sreg r_f135_4 [true, false, false])
  (.cond (.tmp 14) (.seq (.sreg r_f135_5 [])
  .ret)
  (.seq (.sreg r_f135_6 [true, false, false, false])
  (.cond (.tmp 17) (.seq (.sreg r_f135_7 [])
  .ret)
  .skip)))))
  (.seq (.sreg r_f135_8 [])
  (.block 3 (.loop (.seq (.sreg r_f135_9 [])
  (.seq (.cond (.tmp 24) .skip
  (.exit 3))
  (.seq (.block 4 (.seq (.sreg r_f135_10 [true, true, false, false, false])
  (.block 5 (.seq (.sreg r_f135_11 [true, false, false])
  (.cond (.tmp 28) (.seq (.sreg r_f135_12 [])
  .ret)
  (.seq (.sreg r_f135_13 [true, false, false, false, false])
  (.cond (.tmp 31) (.seq (.sreg r_f135_14 [])
  .ret)
  (.seq (.sdreg r_f135_15 [.pure, .pure, (.read 0 0), .pure, (.read 0 0)] [true, false, false, false, false, false, false])
  (.cond (.tmp 36) (.seq (.sreg r_f135_16 [])
  .ret)
  .skip)))))))))
  (.sreg r_f135_17 [true, false]))))))))))
  (.sreg r_f135_18 [true, false])))))))
  (.seq (.sreg r_f135_19 [])
  .ret))), [(.tmp 2)]⟩
def o_f135 : Nat → Nat → Nat := fun r i => if r = 15 ∧ i = 5 then 3 else 1
theorem c_f135_eq : lowF Tryz.prog o_f135 135 = some c_f135.raw := by kernel_rfl
theorem c_f135_ok : c_f135.code.okc = true := by kernel_rfl
/-! castellan/dn.written -/
def r_f136_0 : List SOp :=
   [.op ⟨(some 2), (.mv (.av (.str []))), none⟩]
def r_f136_1 : List SOp :=
   [.op ⟨(some 3), (.mv (.av (.sl [] 0 (some 0)))), none⟩]
def r_f136_2 : List SOp :=
   [.op ⟨(some 7), (.mv (.tmp 0)), none⟩,
    .op ⟨(some 8), (.s2b (.tmp 7)), none⟩,
    .op ⟨(some 9), (.len false (.tmp 8)), none⟩,
    .op ⟨(some 10), (.mv (.av (.int .i64 0))), none⟩]
def r_f136_3 : List SOp :=
   [.op ⟨(some 11), (.bin .lss (.tmp 10) (.tmp 9)), none⟩]
def r_f136_4 : List SOp :=
   [.op ⟨(some 12), (.mv (.tmp 10)), none⟩,
    .op ⟨(some 13), (.iaddr 1 (.tmp 8) (.tmp 10)), none⟩,
    .op ⟨(some 14), (.load false 1 (.tmp 13)), none⟩,
    .op ⟨(some 4), (.mv (.tmp 12)), none⟩,
    .op ⟨(some 5), (.mv (.tmp 14)), none⟩]
def r_f136_5 : List SOp :=
   [.op ⟨(some 15), (.mv (.tmp 4)), none⟩,
    .op ⟨(some 16), (.bin .eql (.tmp 15) (.av (.int .i64 0))), none⟩,
    .op ⟨(some 17), (.mv (.tmp 16)), none⟩,
    .grp none 17 true
      [.op ⟨(some 18), (.mv (.tmp 5)), (some (17, true))⟩,
      .op ⟨(some 19), (.bin .eql (.tmp 18) (.av (.int .u8 32))), (some (17, true))⟩,
      .op ⟨(some 20), (.mv (.tmp 19)), (some (17, true))⟩,
      .grp (some (17, true)) 20 false
        [.op ⟨(some 21), (.mv (.tmp 5)), (some (20, false))⟩,
        .op ⟨(some 22), (.bin .eql (.tmp 21) (.av (.int .u8 35))), (some (20, false))⟩]
        23 (.tmp 22)]
      24 (.tmp 23),
    .op ⟨(some 25), (.mv (.tmp 24)), none⟩,
    .grp none 25 false
      [.op ⟨(some 26), (.mv (.tmp 4)), (some (25, false))⟩,
      .op ⟨(some 27), (.mv (.tmp 0)), (some (25, false))⟩,
      .op ⟨(some 28), (.len true (.tmp 27)), (some (25, false))⟩,
      .op ⟨(some 29), (.bin .sub (.tmp 28) (.av (.int .i64 1))), (some (25, false))⟩,
      .op ⟨(some 30), (.bin .eql (.tmp 26) (.tmp 29)), (some (25, false))⟩,
      .op ⟨(some 31), (.mv (.tmp 30)), (some (25, false))⟩,
      .grp (some (25, false)) 31 true
        [.op ⟨(some 32), (.mv (.tmp 5)), (some (31, true))⟩,
        .op ⟨(some 33), (.bin .eql (.tmp 32) (.av (.int .u8 32))), (some (31, true))⟩]
        34 (.tmp 33)]
      35 (.tmp 34),
    .op ⟨(some 6), (.mv (.tmp 35)), none⟩]
def r_f136_6 : List SOp :=
   [.op ⟨(some 37), (.mv (.tmp 5)), none⟩,
    .op ⟨(some 38), (.bin .eql (.tmp 37) (.av (.int .u8 0))), none⟩,
    .op ⟨(some 36), (.mv (.tmp 38)), none⟩]
def r_f136_7 : List SOp :=
   [.op ⟨(some 39), (.mv (.tmp 3)), none⟩,
    .op ⟨(some 40), (.app 1 1 1 [(.int .u8 0)] (.tmp 39) (.av (.str [92, 48, 48]))), none⟩,
    .op ⟨(some 3), (.mv (.tmp 40)), none⟩]
def r_f136_8 : List SOp :=
   [.op ⟨(some 42), (.mv (.tmp 6)), none⟩,
    .op ⟨(some 43), (.mv (.tmp 42)), none⟩,
    .op ⟨(some 44), (.mv (.tmp 5)), (some (43, false))⟩,
    .op ⟨(some 45), (.call 133 [(.av (.str [34, 43, 44, 59, 60, 62, 92])), (.tmp 44)]), (some (43, false))⟩,
    .op ⟨(some 46), (.bin .geq (.tmp 45) (.av (.int .i64 0))), (some (43, false))⟩,
    .op ⟨(some 47), (.pick (.tmp 43) (.av (.bool true)) (.tmp 46)), none⟩,
    .op ⟨(some 41), (.mv (.tmp 47)), none⟩]
def r_f136_9 : List SOp :=
   [.op ⟨(some 48), (.mv (.tmp 3)), none⟩,
    .op ⟨(some 49), (.bslice false 1 1 [(.int .u8 0)] [(0, 1, (.av (.int .u8 92)))]), none⟩,
    .op ⟨(some 50), (.app 1 1 1 [(.int .u8 0)] (.tmp 48) (.tmp 49)), none⟩,
    .op ⟨(some 3), (.mv (.tmp 50)), none⟩]
def r_f136_10 : List SOp :=
   [.op ⟨(some 51), (.mv (.tmp 3)), none⟩,
    .op ⟨(some 52), (.mv (.tmp 5)), none⟩,
    .op ⟨(some 53), (.bslice false 1 1 [(.int .u8 0)] [(0, 1, (.tmp 52))]), none⟩,
    .op ⟨(some 54), (.app 1 1 1 [(.int .u8 0)] (.tmp 51) (.tmp 53)), none⟩,
    .op ⟨(some 3), (.mv (.tmp 54)), none⟩]
def r_f136_11 : List SOp :=
   [.op ⟨(some 55), (.bin .add (.tmp 10) (.av (.int .i64 1))), none⟩,
    .op ⟨(some 10), (.mv (.tmp 55)), none⟩]
def r_f136_12 : List SOp :=
   [.op ⟨(some 56), (.mv (.tmp 3)), none⟩,
    .op ⟨(some 57), (.b2s (.tmp 56)), none⟩,
    .op ⟨(some 2), (.mv (.tmp 57)), none⟩]
def c_f136 : LFun := ⟨58, (.seq (.sreg r_f136_0 [])
  (.seq (.sreg r_f136_1 [])
  (.seq (.seq (.sreg r_f136_2 [true, true, true, false])
  (.block 0 (.loop (.seq (.sreg r_f136_3 [])
  (.seq (.cond (.tmp 11) .skip
  (.exit 0))
  (.seq (.block 1 (.seq (.sreg r_f136_4 [true, true, false, false, false])
  (.seq (.sreg r_f136_5 [true, false, false, false, false, false, false])
  (.seq (.block 2 (.seq (.sreg r_f136_6 [true, false, false])
  (.cond (.tmp 36) (.seq (.sreg r_f136_7 [true, false, false])
  (.exit 1))
  (.seq (.sreg r_f136_8 [true, false, false, false, false, false, false])
  (.cond (.tmp 41) (.sreg r_f136_9 [true, false, false, false])
  .skip)))))
  (.sreg r_f136_10 [true, false, false, false, false])))))
  (.sreg r_f136_11 [true, false])))))))
  (.seq (.sreg r_f136_12 [true, false, false])
  .ret)))), [(.tmp 2)]⟩
def o_f136 : Nat → Nat → Nat := fun _ _ => 1
theorem c_f136_eq : lowF Tryz.prog o_f136 136 = some c_f136.raw := by kernel_rfl
theorem c_f136_ok : c_f136.code.okc = true := by kernel_rfl
/-! slices.Sort[[]string,string] -/
def r_f137_0 : List SOp :=
   [.op ⟨(some 3), (.mv (.tmp 0)), none⟩,
    .op ⟨(some 4), (.len false (.tmp 3)), none⟩,
    .op ⟨(some 2), (.mv (.tmp 4)), none⟩]
def r_f137_1 : List SOp :=
   [.op ⟨(some 5), (.mv (.tmp 0)), none⟩,
    .op ⟨(some 6), (.mv (.tmp 2)), none⟩,
    .op ⟨(some 7), (.mv (.tmp 2)), none⟩,
    .op ⟨(some 8), (.conv .u64 (.tmp 7)), none⟩,
    .op ⟨(some 9), (.call 116 [(.tmp 8)]), none⟩,
    .op ⟨(some 10), (.call 165 [(.tmp 5), (.av (.int .i64 0)), (.tmp 6), (.tmp 9)]), none⟩]
def c_f137 : LFun := ⟨11, (.seq (.sreg r_f137_0 [true, false, false])
  (.sreg r_f137_1 [false, false, false, false, false, false])), []⟩
def o_f137 : Nat → Nat → Nat := fun _ _ => 1
theorem c_f137_eq : lowF Tryz.prog o_f137 137 = some c_f137.raw := by kernel_rfl
theorem c_f137_ok : c_f137.code.okc = true := by kernel_rfl
/-! strings.Join -/
def r_f138_0 : List SOp :=
   [.op ⟨(some 4), (.mv (.av (.str []))), none⟩]
def r_f138_1 : List SOp :=
   [.op ⟨(some 11), (.mv (.tmp 0)), none⟩,
    .op ⟨(some 12), (.len false (.tmp 11)), none⟩]
def r_f138_2 : List SOp :=
   [.op ⟨(some 14), (.bin .eql (.tmp 12) (.av (.int .i64 0))), none⟩,
    .op ⟨(some 13), (.mv (.tmp 14)), none⟩]
def r_f138_3 : List SOp :=
   [.op ⟨(some 4), (.mv (.av (.str []))), none⟩]
def r_f138_4 : List SOp :=
   [.op ⟨(some 16), (.bin .eql (.tmp 12) (.av (.int .i64 1))), none⟩,
    .op ⟨(some 15), (.mv (.tmp 16)), none⟩]
def r_f138_5 : List SOp :=
   [.op ⟨(some 17), (.mv (.tmp 0)), none⟩,
    .op ⟨(some 18), (.iaddr 1 (.tmp 17) (.av (.int .i64 0))), none⟩,
    .op ⟨(some 19), (.load false 1 (.tmp 18)), none⟩,
    .op ⟨(some 4), (.mv (.tmp 19)), none⟩]
def r_f138_6 : List SOp :=
   [.op ⟨(some 5), (.mv (.av (.int .i64 0))), none⟩]
def r_f138_7 : List SOp :=
   [.op ⟨(some 20), (.mv (.tmp 1)), none⟩,
    .op ⟨(some 21), (.len true (.tmp 20)), none⟩,
    .op ⟨(some 22), (.bin .gtr (.tmp 21) (.av (.int .i64 0))), none⟩]
def r_f138_8 : List SOp :=
   [.op ⟨(some 23), (.mv (.tmp 1)), none⟩,
    .op ⟨(some 24), (.len true (.tmp 23)), none⟩,
    .op ⟨(some 25), (.mv (.tmp 0)), none⟩,
    .op ⟨(some 26), (.len false (.tmp 25)), none⟩,
    .op ⟨(some 27), (.bin .sub (.tmp 26) (.av (.int .i64 1))), none⟩,
    .op ⟨(some 28), (.bin .quo (.av (.int .i64 9223372036854775807)) (.tmp 27)), none⟩,
    .op ⟨(some 29), (.bin .geq (.tmp 24) (.tmp 28)), none⟩]
def r_f138_9 : List SOp :=
   [.op ⟨(some 30), (.mkif 9 (.av (.str [115, 116, 114, 105, 110, 103, 115, 58, 32, 74, 111, 105, 110, 32, 111, 117, 116, 112, 117, 116, 32, 108, 101, 110, 103, 116, 104, 32, 111, 118, 101, 114, 102, 108, 111, 119]))), none⟩,
    .op ⟨none, .bad, none⟩]
def r_f138_10 : List SOp :=
   [.op ⟨(some 31), (.mv (.tmp 5)), none⟩,
    .op ⟨(some 32), (.mv (.tmp 1)), none⟩,
    .op ⟨(some 33), (.len true (.tmp 32)), none⟩,
    .op ⟨(some 34), (.mv (.tmp 0)), none⟩,
    .op ⟨(some 35), (.len false (.tmp 34)), none⟩,
    .op ⟨(some 36), (.bin .sub (.tmp 35) (.av (.int .i64 1))), none⟩,
    .op ⟨(some 37), (.bin .mul (.tmp 33) (.tmp 36)), none⟩,
    .op ⟨(some 38), (.bin .add (.tmp 31) (.tmp 37)), none⟩,
    .op ⟨(some 5), (.mv (.tmp 38)), none⟩]
def r_f138_11 : List SOp :=
   [.op ⟨(some 39), (.mv (.tmp 0)), none⟩,
    .op ⟨(some 40), (.len false (.tmp 39)), none⟩,
    .op ⟨(some 41), (.mv (.av (.int .i64 0))), none⟩]
def r_f138_12 : List SOp :=
   [.op ⟨(some 42), (.bin .lss (.tmp 41) (.tmp 40)), none⟩]
def r_f138_13 : List SOp :=
   [.op ⟨(some 43), (.iaddr 1 (.tmp 39) (.tmp 41)), none⟩,
    .op ⟨(some 44), (.load false 1 (.tmp 43)), none⟩,
    .op ⟨(some 7), (.mv (.tmp 44)), none⟩]
def r_f138_14 : List SOp :=
   [.op ⟨(some 45), (.mv (.tmp 7)), none⟩,
    .op ⟨(some 46), (.len true (.tmp 45)), none⟩,
    .op ⟨(some 47), (.mv (.tmp 5)), none⟩,
    .op ⟨(some 48), (.bin .sub (.av (.int .i64 9223372036854775807)) (.tmp 47)), none⟩,
    .op ⟨(some 49), (.bin .gtr (.tmp 46) (.tmp 48)), none⟩]
def r_f138_15 : List SOp :=
   [.op ⟨(some 50), (.mkif 9 (.av (.str [115, 116, 114, 105, 110, 103, 115, 58, 32, 74, 111, 105, 110, 32, 111, 117, 116, 112, 117, 116, 32, 108, 101, 110, 103, 116, 104, 32, 111, 118, 101, 114, 102, 108, 111, 119]))), none⟩,
    .op ⟨none, .bad, none⟩]
def r_f138_16 : List SOp :=
   [.op ⟨(some 51), (.mv (.tmp 5)), none⟩,
    .op ⟨(some 52), (.mv (.tmp 7)), none⟩,
    .op ⟨(some 53), (.len true (.tmp 52)), none⟩,
    .op ⟨(some 54), (.bin .add (.tmp 51) (.tmp 53)), none⟩,
    .op ⟨(some 5), (.mv (.tmp 54)), none⟩]
def r_f138_17 : List SOp :=
   [.op ⟨(some 55), (.bin .add (.tmp 41) (.av (.int .i64 1))), none⟩,
    .op ⟨(some 41), (.mv (.tmp 55)), none⟩]
def r_f138_18 : List SOp :=
   [.op ⟨(some 8), (.alloc [.nilptr, (.sl [] 0 (some 0))]), none⟩]
def r_f138_19 : List SOp :=
   [.op ⟨(some 56), (.mv (.tmp 5)), none⟩,
    .op ⟨(some 57), (.call 166 [(.tmp 8), (.tmp 56)]), none⟩]
def r_f138_20 : List SOp :=
   [.op ⟨(some 58), (.mv (.tmp 0)), none⟩,
    .op ⟨(some 59), (.iaddr 1 (.tmp 58) (.av (.int .i64 0))), none⟩,
    .op ⟨(some 60), (.load false 1 (.tmp 59)), none⟩,
    .op ⟨(some 61), (.call 167 [(.tmp 8), (.tmp 60)]), none⟩]
def r_f138_21 : List SOp :=
   [.op ⟨(some 62), (.mv (.tmp 0)), none⟩,
    .op ⟨(some 63), (.slV 1 (.tmp 62) (some (.av (.int .i64 1))) none none), none⟩,
    .op ⟨(some 64), (.len false (.tmp 63)), none⟩,
    .op ⟨(some 65), (.mv (.av (.int .i64 0))), none⟩]
def r_f138_22 : List SOp :=
   [.op ⟨(some 66), (.bin .lss (.tmp 65) (.tmp 64)), none⟩]
def r_f138_23 : List SOp :=
   [.op ⟨(some 67), (.iaddr 1 (.tmp 63) (.tmp 65)), none⟩,
    .op ⟨(some 68), (.load false 1 (.tmp 67)), none⟩,
    .op ⟨(some 10), (.mv (.tmp 68)), none⟩]
def r_f138_24 : List SOp :=
   [.op ⟨(some 69), (.mv (.tmp 1)), none⟩,
    .op ⟨(some 70), (.call 167 [(.tmp 8), (.tmp 69)]), none⟩]
def r_f138_25 : List SOp :=
   [.op ⟨(some 71), (.mv (.tmp 10)), none⟩,
    .op ⟨(some 72), (.call 167 [(.tmp 8), (.tmp 71)]), none⟩]
def r_f138_26 : List SOp :=
   [.op ⟨(some 73), (.bin .add (.tmp 65) (.av (.int .i64 1))), none⟩,
    .op ⟨(some 65), (.mv (.tmp 73)), none⟩]
def r_f138_27 : List SOp :=
   [.op ⟨(some 74), (.call 168 [(.tmp 8)]), none⟩,
    .op ⟨(some 4), (.mv (.tmp 74)), none⟩]
def c_f138 : LFun := ⟨75, (.seq (.sreg r_f138_0 [])
  (.seq (.seq (.sreg r_f138_1 [true, false])
  (.block 0 (.seq (.sreg r_f138_2 [true, false])
  (.cond (.tmp 13) (.seq (.sreg r_f138_3 [])
  .ret)
  (.seq (.sreg r_f138_4 [true, false])
  (.cond (.tmp 15) (.seq (.sreg r_f138_5 [true, false, false, false])
  .ret)
  .skip))))))
  (.seq (.sreg r_f138_6 [])
  (.seq (.seq (.sreg r_f138_7 [true, false, false])
  (.cond (.tmp 22) (.seq (.seq (.sreg r_f138_8 [true, false, false, false, false, false, false])
  (.cond (.tmp 29) (.sreg r_f138_9 [false])
  .skip))
  (.sreg r_f138_10 [true, false, false, false, false, false, false, false, false]))
  .skip))
  (.seq (.seq (.sreg r_f138_11 [])
  (.block 1 (.loop (.seq (.sreg r_f138_12 [])
  (.seq (.cond (.tmp 42) .skip
  (.exit 1))
  (.seq (.block 2 (.seq (.sreg r_f138_13 [true, false, false])
  (.seq (.seq (.sreg r_f138_14 [true, false, false, false, false])
  (.cond (.tmp 49) (.sreg r_f138_15 [false])
  .skip))
  (.sreg r_f138_16 [true, false, false, false, false]))))
  (.sreg r_f138_17 [true, false])))))))
  (.seq (.sreg r_f138_18 [])
  (.seq (.sreg r_f138_19 [false, false])
  (.seq (.sreg r_f138_20 [false, false, false, false])
  (.seq (.seq (.sreg r_f138_21 [true, true, true, false])
  (.block 3 (.loop (.seq (.sreg r_f138_22 [])
  (.seq (.cond (.tmp 66) .skip
  (.exit 3))
  (.seq (.block 4 (.seq (.sreg r_f138_23 [true, false, false])
  (.seq (.sreg r_f138_24 [false, false])
  (.sreg r_f138_25 [false, false]))))
  (.sreg r_f138_26 [true, false])))))))
  (.seq (.sreg r_f138_27 [true, false])
  .ret)))))))))), [(.tmp 4)]⟩
def o_f138 : Nat → Nat → Nat := fun _ _ => 1
theorem c_f138_eq : lowF Tryz.prog o_f138 138 = some c_f138.raw := by kernel_rfl
theorem c_f138_ok : c_f138.code.okc = true := by kernel_rfl
/-! internal/bytealg.hashStr[string] -/
def r_f170_0 : List SOp :=
   [.op ⟨(some 2), (.mv (.av (.int .u32 0))), none⟩,
    .op ⟨(some 3), (.mv (.av (.int .u32 0))), none⟩]
def r_f170_1 : List SOp :=
   [.op ⟨(some 4), (.mv (.av (.int .u32 0))), none⟩]
def r_f170_2 : List SOp :=
   [.op ⟨(some 5), (.mv (.av (.int .i64 0))), none⟩]
def r_f170_3 : List SOp :=
   [.op ⟨(some 9), (.mv (.tmp 5)), none⟩,
    .op ⟨(some 10), (.mv (.tmp 0)), none⟩,
    .op ⟨(some 11), (.len true (.tmp 10)), none⟩,
    .op ⟨(some 12), (.bin .lss (.tmp 9) (.tmp 11)), none⟩]
def r_f170_4 : List SOp :=
   [.op ⟨(some 15), (.mv (.tmp 4)), none⟩,
    .op ⟨(some 16), (.bin .mul (.tmp 15) (.av (.int .u32 16777619))), none⟩,
    .op ⟨(some 17), (.mv (.tmp 0)), none⟩,
    .op ⟨(some 18), (.mv (.tmp 5)), none⟩,
    .op ⟨(some 19), (.idxS (.tmp 17) (.tmp 18)), none⟩,
    .op ⟨(some 20), (.conv .u32 (.tmp 19)), none⟩,
    .op ⟨(some 21), (.bin .add (.tmp 16) (.tmp 20)), none⟩,
    .op ⟨(some 4), (.mv (.tmp 21)), none⟩]
def r_f170_5 : List SOp :=
   [.op ⟨(some 13), (.mv (.tmp 5)), none⟩,
    .op ⟨(some 14), (.bin .add (.tmp 13) (.av (.int .i64 1))), none⟩,
    .op ⟨(some 5), (.mv (.tmp 14)), none⟩]
def r_f170_6 : List SOp :=
   [.op ⟨(some 6), (.mv (.av (.int .u32 1))), none⟩,
    .op ⟨(some 7), (.mv (.av (.int .u32 16777619))), none⟩]
def r_f170_7 : List SOp :=
   [.op ⟨(some 22), (.mv (.tmp 0)), none⟩,
    .op ⟨(some 23), (.len true (.tmp 22)), none⟩,
    .op ⟨(some 8), (.mv (.tmp 23)), none⟩]
def r_f170_8 : List SOp :=
   [.op ⟨(some 24), (.mv (.tmp 8)), none⟩,
    .op ⟨(some 25), (.bin .gtr (.tmp 24) (.av (.int .i64 0))), none⟩]
def r_f170_9 : List SOp :=
   [.op ⟨(some 28), (.mv (.tmp 8)), none⟩,
    .op ⟨(some 29), (.bin .and (.tmp 28) (.av (.int .i64 1))), none⟩,
    .op ⟨(some 30), (.bin .neq (.tmp 29) (.av (.int .i64 0))), none⟩]
def r_f170_10 : List SOp :=
   [.op ⟨(some 31), (.mv (.tmp 6)), none⟩,
    .op ⟨(some 32), (.mv (.tmp 7)), none⟩,
    .op ⟨(some 33), (.bin .mul (.tmp 31) (.tmp 32)), none⟩,
    .op ⟨(some 6), (.mv (.tmp 33)), none⟩]
def r_f170_11 : List SOp :=
   [.op ⟨(some 34), (.mv (.tmp 7)), none⟩,
    .op ⟨(some 35), (.mv (.tmp 7)), none⟩,
    .op ⟨(some 36), (.bin .mul (.tmp 34) (.tmp 35)), none⟩,
    .op ⟨(some 7), (.mv (.tmp 36)), none⟩]
def r_f170_12 : List SOp :=
   [.op ⟨(some 26), (.mv (.tmp 8)), none⟩,
    .op ⟨(some 27), (.bin .shr (.tmp 26) (.av (.int .u64 1))), none⟩,
    .op ⟨(some 8), (.mv (.tmp 27)), none⟩]
def r_f170_13 : List SOp :=
   [.op ⟨(some 37), (.mv (.tmp 4)), none⟩,
    .op ⟨(some 38), (.mv (.tmp 6)), none⟩,
    .op ⟨(some 2), (.mv (.tmp 37)), none⟩,
    .op ⟨(some 3), (.mv (.tmp 38)), none⟩]
def c_f170 : LFun := ⟨39, (.seq (.sreg r_f170_0 [])
  (.seq (.sreg r_f170_1 [])
  (.seq (.seq (.sreg r_f170_2 [])
  (.block 0 (.loop (.seq (.seq (.sreg r_f170_3 [true, false, false, false])
  (.cond (.tmp 12) .skip
  (.exit 0)))
  (.seq (.block 1 (.sreg r_f170_4 [true, false, false, false, false, false, false, false]))
  (.sreg r_f170_5 [true, false, false]))))))
  (.seq (.sreg r_f170_6 [])
  (.seq (.seq (.sreg r_f170_7 [true, false, false])
  (.block 2 (.loop (.seq (.seq (.sreg r_f170_8 [true, false])
  (.cond (.tmp 25) .skip
  (.exit 2)))
  (.seq (.block 3 (.seq (.seq (.sreg r_f170_9 [true, false, false])
  (.cond (.tmp 30) (.sreg r_f170_10 [true, false, false, false])
  .skip))
  (.sreg r_f170_11 [true, false, false, false])))
  (.sreg r_f170_12 [true, false, false]))))))
  (.seq (.sreg r_f170_13 [true, true, false, false])
  .ret)))))), [(.tmp 2), (.tmp 3)]⟩
def o_f170 : Nat → Nat → Nat := fun _ _ => 1
theorem c_f170_eq : lowF Tryz.prog o_f170 170 = some c_f170.raw := by kernel_rfl
theorem c_f170_ok : c_f170.code.okc = true := by kernel_rfl
/-! internal/strconv.lower -/
def r_f158_0 : List SOp :=
   [.op ⟨(some 2), (.mv (.av (.int .u8 0))), none⟩]
def r_f158_1 : List SOp :=
   [.op ⟨(some 3), (.mv (.tmp 0)), none⟩,
    .op ⟨(some 4), (.bin .or (.tmp 3) (.av (.int .u8 32))), none⟩,
    .op ⟨(some 2), (.mv (.tmp 4)), none⟩]
def c_f158 : LFun := ⟨5, (.seq (.sreg r_f158_0 [])
  (.seq (.sreg r_f158_1 [true, false, false])
  .ret)), [(.tmp 2)]⟩
def o_f158 : Nat → Nat → Nat := fun _ _ => 1
theorem c_f158_eq : lowF Tryz.prog o_f158 158 = some c_f158.raw := by kernel_rfl
theorem c_f158_ok : c_f158.code.okc = true := by kernel_rfl
/-! internal/strconv.underscoreOK -/
def r_f159_0 : List SOp :=
   [.op ⟨(some 2), (.mv (.av (.bool false))), none⟩]
def r_f159_1 : List SOp :=
   [.op ⟨(some 3), (.mv (.av (.int .i32 94))), none⟩]
def r_f159_2 : List SOp :=
   [.op ⟨(some 4), (.mv (.av (.int .i64 0))), none⟩]
def r_f159_3 : List SOp :=
   [.op ⟨(some 6), (.mv (.tmp 0)), none⟩,
    .op ⟨(some 7), (.len true (.tmp 6)), none⟩,
    .op ⟨(some 8), (.bin .geq (.tmp 7) (.av (.int .i64 1))), none⟩,
    .op ⟨(some 9), (.mv (.tmp 8)), none⟩,
    .grp none 9 true
      [.op ⟨(some 10), (.mv (.tmp 0)), (some (9, true))⟩,
      .op ⟨(some 11), (.idxS (.tmp 10) (.av (.int .i64 0))), (some (9, true))⟩,
      .op ⟨(some 12), (.bin .eql (.tmp 11) (.av (.int .u8 45))), (some (9, true))⟩,
      .op ⟨(some 13), (.mv (.tmp 12)), (some (9, true))⟩,
      .grp (some (9, true)) 13 false
        [.op ⟨(some 14), (.mv (.tmp 0)), (some (13, false))⟩,
        .op ⟨(some 15), (.idxS (.tmp 14) (.av (.int .i64 0))), (some (13, false))⟩,
        .op ⟨(some 16), (.bin .eql (.tmp 15) (.av (.int .u8 43))), (some (13, false))⟩]
        17 (.tmp 16)]
      18 (.tmp 17)]
def r_f159_4 : List SOp :=
   [.op ⟨(some 19), (.mv (.tmp 0)), none⟩,
    .op ⟨(some 20), (.slS (.tmp 19) (some (.av (.int .i64 1))) none), none⟩,
    .op ⟨(some 0), (.mv (.tmp 20)), none⟩]
def r_f159_5 : List SOp :=
   [.op ⟨(some 5), (.mv (.av (.bool false))), none⟩]
def r_f159_6 : List SOp :=
   [.op ⟨(some 21), (.mv (.tmp 0)), none⟩,
    .op ⟨(some 22), (.len true (.tmp 21)), none⟩,
    .op ⟨(some 23), (.bin .geq (.tmp 22) (.av (.int .i64 2))), none⟩,
    .op ⟨(some 24), (.mv (.tmp 23)), none⟩,
    .op ⟨(some 25), (.mv (.tmp 0)), (some (24, true))⟩,
    .op ⟨(some 26), (.idxS (.tmp 25) (.av (.int .i64 0))), (some (24, true))⟩,
    .op ⟨(some 27), (.bin .eql (.tmp 26) (.av (.int .u8 48))), (some (24, true))⟩,
    .op ⟨(some 28), (.pick (.tmp 24) (.tmp 27) (.av (.bool false))), none⟩,
    .op ⟨(some 29), (.mv (.tmp 28)), none⟩,
    .op ⟨(some 30), (.mv (.tmp 0)), (some (29, true))⟩,
    .op ⟨(some 31), (.idxS (.tmp 30) (.av (.int .i64 1))), (some (29, true))⟩,
    .op ⟨(some 32), (.call 158 [(.tmp 31)]), (some (29, true))⟩,
    .op ⟨(some 33), (.bin .eql (.tmp 32) (.av (.int .u8 98))), (some (29, true))⟩,
    .op ⟨(some 34), (.mv (.tmp 33)), (some (29, true))⟩,
    .op ⟨(some 35), (.mv (.tmp 0)), (some (34, false))⟩,
    .op ⟨(some 36), (.idxS (.tmp 35) (.av (.int .i64 1))), (some (34, false))⟩,
    .op ⟨(some 37), (.call 158 [(.tmp 36)]), (some (34, false))⟩,
    .op ⟨(some 38), (.bin .eql (.tmp 37) (.av (.int .u8 111))), (some (34, false))⟩,
    .op ⟨(some 39), (.pick (.tmp 34) (.av (.bool true)) (.tmp 38)), (some (29, true))⟩,
    .op ⟨(some 40), (.mv (.tmp 39)), (some (29, true))⟩,
    .op ⟨(some 41), (.mv (.tmp 0)), (some (40, false))⟩,
    .op ⟨(some 42), (.idxS (.tmp 41) (.av (.int .i64 1))), (some (40, false))⟩,
    .op ⟨(some 43), (.call 158 [(.tmp 42)]), (some (40, false))⟩,
    .op ⟨(some 44), (.bin .eql (.tmp 43) (.av (.int .u8 120))), (some (40, false))⟩,
    .op ⟨(some 45), (.pick (.tmp 40) (.av (.bool true)) (.tmp 44)), (some (29, true))⟩,
    .op ⟨(some 46), (.pick (.tmp 29) (.tmp 45) (.av (.bool false))), none⟩]
def r_f159_7 : List SOp :=
   [.op ⟨(some 4), (.mv (.av (.int .i64 2))), none⟩]
def r_f159_8 : List SOp :=
   [.op ⟨(some 3), (.mv (.av (.int .i32 48))), none⟩]
def r_f159_9 : List SOp :=
   [.op ⟨(some 47), (.mv (.tmp 0)), none⟩,
    .op ⟨(some 48), (.idxS (.tmp 47) (.av (.int .i64 1))), none⟩,
    .op ⟨(some 49), (.call 158 [(.tmp 48)]), none⟩,
    .op ⟨(some 50), (.bin .eql (.tmp 49) (.av (.int .u8 120))), none⟩,
    .op ⟨(some 5), (.mv (.tmp 50)), none⟩]
def r_f159_10 : List SOp :=
   [.op ⟨(some 51), (.mv (.tmp 4)), none⟩,
    .op ⟨(some 52), (.mv (.tmp 0)), none⟩,
    .op ⟨(some 53), (.len true (.tmp 52)), none⟩,
    .op ⟨(some 54), (.bin .lss (.tmp 51) (.tmp 53)), none⟩]
def r_f159_11 : List SOp :=
   [.op ⟨(some 57), (.mv (.tmp 0)), none⟩,
    .op ⟨(some 58), (.mv (.tmp 4)), none⟩,
    .op ⟨(some 59), (.idxS (.tmp 57) (.tmp 58)), none⟩,
    .op ⟨(some 60), (.bin .leq (.av (.int .u8 48)) (.tmp 59)), none⟩,
    .op ⟨(some 61), (.mv (.tmp 60)), none⟩,
    .op ⟨(some 62), (.mv (.tmp 0)), (some (61, true))⟩,
    .op ⟨(some 63), (.mv (.tmp 4)), (some (61, true))⟩,
    .op ⟨(some 64), (.idxS (.tmp 62) (.tmp 63)), (some (61, true))⟩,
    .op ⟨(some 65), (.bin .leq (.tmp 64) (.av (.int .u8 57))), (some (61, true))⟩,
    .op ⟨(some 66), (.pick (.tmp 61) (.tmp 65) (.av (.bool false))), none⟩,
    .op ⟨(some 67), (.mv (.tmp 66)), none⟩,
    .op ⟨(some 68), (.mv (.tmp 5)), (some (67, false))⟩,
    .op ⟨(some 69), (.mv (.tmp 68)), (some (67, false))⟩,
    .op ⟨(some 70), (.mv (.tmp 0)), (some (69, true))⟩,
    .op ⟨(some 71), (.mv (.tmp 4)), (some (69, true))⟩,
    .op ⟨(some 72), (.idxS (.tmp 70) (.tmp 71)), (some (69, true))⟩,
    .op ⟨(some 73), (.call 158 [(.tmp 72)]), (some (69, true))⟩,
    .op ⟨(some 74), (.bin .leq (.av (.int .u8 97)) (.tmp 73)), (some (69, true))⟩,
    .op ⟨(some 75), (.pick (.tmp 69) (.tmp 74) (.av (.bool false))), (some (67, false))⟩,
    .op ⟨(some 76), (.mv (.tmp 75)), (some (67, false))⟩,
    .op ⟨(some 77), (.mv (.tmp 0)), (some (76, true))⟩,
    .op ⟨(some 78), (.mv (.tmp 4)), (some (76, true))⟩,
    .op ⟨(some 79), (.idxS (.tmp 77) (.tmp 78)), (some (76, true))⟩,
    .op ⟨(some 80), (.call 158 [(.tmp 79)]), (some (76, true))⟩,
    .op ⟨(some 81), (.bin .leq (.tmp 80) (.av (.int .u8 102))), (some (76, true))⟩,
    .op ⟨(some 82), (.pick (.tmp 76) (.tmp 81) (.av (.bool false))), (some (67, false))⟩,
    .op ⟨(some 83), (.pick (.tmp 67) (.av (.bool true)) (.tmp 82)), none⟩]
def r_f159_12 : List SOp :=
   [.op ⟨(some 3), (.mv (.av (.int .i32 48))), none⟩]
def r_f159_13 : List SOp :=
   [.op ⟨(some 84), (.mv (.tmp 0)), none⟩,
    .op ⟨(some 85), (.mv (.tmp 4)), none⟩,
    .op ⟨(some 86), (.idxS (.tmp 84) (.tmp 85)), none⟩,
    .op ⟨(some 87), (.bin .eql (.tmp 86) (.av (.int .u8 95))), none⟩]
def r_f159_14 : List SOp :=
   [.op ⟨(some 88), (.mv (.tmp 3)), none⟩,
    .op ⟨(some 89), (.bin .neq (.tmp 88) (.av (.int .i32 48))), none⟩]
def r_f159_15 : List SOp :=
   [.op ⟨(some 2), (.mv (.av (.bool false))), none⟩]
def r_f159_16 : List SOp :=
   [.op ⟨(some 3), (.mv (.av (.int .i32 95))), none⟩]
def r_f159_17 : List SOp :=
   [.op ⟨(some 90), (.mv (.tmp 3)), none⟩,
    .op ⟨(some 91), (.bin .eql (.tmp 90) (.av (.int .i32 95))), none⟩]
def r_f159_18 : List SOp :=
   [.op ⟨(some 2), (.mv (.av (.bool false))), none⟩]
def r_f159_19 : List SOp :=
   [.op ⟨(some 3), (.mv (.av (.int .i32 33))), none⟩]
def r_f159_20 : List SOp :=
   [.op ⟨(some 55), (.mv (.tmp 4)), none⟩,
    .op ⟨(some 56), (.bin .add (.tmp 55) (.av (.int .i64 1))), none⟩,
    .op ⟨(some 4), (.mv (.tmp 56)), none⟩]
def r_f159_21 : List SOp :=
   [.op ⟨(some 92), (.mv (.tmp 3)), none⟩,
    .op ⟨(some 93), (.bin .neq (.tmp 92) (.av (.int .i32 95))), none⟩,
    .op ⟨(some 2), (.mv (.tmp 93)), none⟩]
def c_f159 : LFun := ⟨94, (.seq (.sreg r_f159_0 [])
  (.seq (.sreg r_f159_1 [])
  (.seq (.sreg r_f159_2 [])
  (.seq (.seq (.sreg r_f159_3 [true, false, false, false, false])
  (.cond (.tmp 18) (.sreg r_f159_4 [true, false, false])
  .skip))
  (.seq (.sreg r_f159_5 [])
  (.seq (.seq (.sreg r_f159_6 [true, false, false, false, false, false, false, false, false, false, false, false, false, false, false, false, false, false, false, false, false, false, false, false, false, false])
  (.cond (.tmp 46) (.seq (.sreg r_f159_7 [])
  (.seq (.sreg r_f159_8 [])
  (.sreg r_f159_9 [true, false, false, false, false])))
  .skip))
  (.seq (.block 0 (.loop (.seq (.seq (.sreg r_f159_10 [true, false, false, false])
  (.cond (.tmp 54) .skip
  (.exit 0)))
  (.seq (.block 1 (.seq (.seq (.sreg r_f159_11 [true, false, false, false, false, false, false, false, false, false, false, false, false, false, false, false, false, false, false, false, false, false, false, false, false, false, false])
  (.cond (.tmp 83) (.seq (.sreg r_f159_12 [])
  (.exit 1))
  .skip))
  (.seq (.seq (.sreg r_f159_13 [true, false, false, false])
  (.cond (.tmp 87) (.seq (.seq (.sreg r_f159_14 [true, false])
  (.cond (.tmp 89) (.seq (.sreg r_f159_15 [])
  .ret)
  .skip))
  (.seq (.sreg r_f159_16 [])
  (.exit 1)))
  .skip))
  (.seq (.seq (.sreg r_f159_17 [true, false])
  (.cond (.tmp 91) (.seq (.sreg r_f159_18 [])
  .ret)
  .skip))
  (.sreg r_f159_19 [])))))
  (.sreg r_f159_20 [true, false, false])))))
  (.seq (.sreg r_f159_21 [true, false, false])
  .ret)))))))), [(.tmp 2)]⟩
def o_f159 : Nat → Nat → Nat := fun _ _ => 1
theorem c_f159_eq : lowF Tryz.prog o_f159 159 = some c_f159.raw := by kernel_rfl
theorem c_f159_ok : c_f159.code.okc = true := by kernel_rfl
/-! internal/stringslite.Clone -/
def r_f160_0 : List SOp :=
   [.op ⟨(some 2), (.mv (.av (.str []))), none⟩]
def r_f160_1 : List SOp :=
   [.op ⟨(some 4), (.mv (.tmp 0)), none⟩,
    .op ⟨(some 5), (.len true (.tmp 4)), none⟩,
    .op ⟨(some 6), (.bin .eql (.tmp 5) (.av (.int .i64 0))), none⟩]
def r_f160_2 : List SOp :=
   [.op ⟨(some 2), (.mv (.av (.str []))), none⟩]
def r_f160_3 : List SOp :=
   [.op ⟨(some 7), (.mv (.tmp 0)), none⟩,
    .op ⟨(some 8), (.len true (.tmp 7)), none⟩,
    .op ⟨(some 9), (.mkslice 1 1 [(.int .u8 0)] (.tmp 8) (.tmp 8)), none⟩,
    .op ⟨(some 3), (.mv (.tmp 9)), none⟩]
def r_f160_4 : List SOp :=
   [.op ⟨(some 10), (.mv (.tmp 3)), none⟩,
    .op ⟨(some 11), (.mv (.tmp 0)), none⟩,
    .op ⟨(some 12), (.copy 1 (.tmp 10) (.tmp 11)), none⟩]
def r_f160_5 : List SOp :=
   [.op ⟨(some 13), (.mv (.tmp 3)), none⟩,
    .op ⟨(some 14), (.iaddr 1 (.tmp 13) (.av (.int .i64 0))), none⟩,
    .op ⟨(some 15), (.mv (.tmp 3)), none⟩,
    .op ⟨(some 16), (.len false (.tmp 15)), none⟩,
    .op ⟨(some 17), .bad, none⟩,
    .op ⟨(some 2), (.mv (.tmp 17)), none⟩]
def c_f160 : LFun := ⟨18, (.seq (.sreg r_f160_0 [])
  (.seq (.seq (.sreg r_f160_1 [true, false, false])
  (.cond (.tmp 6) (.seq (.sreg r_f160_2 [])
  .ret)
  .skip))
  (.seq (.sreg r_f160_3 [true, false, false, false])
  (.seq (.sreg r_f160_4 [false, false, false])
  (.seq (.sreg r_f160_5 [true, false, false, false, false, false])
  .ret))))), [(.tmp 2)]⟩
def o_f160 : Nat → Nat → Nat := fun _ _ => 1
theorem c_f160_eq : lowF Tryz.prog o_f160 160 = some c_f160.raw := by kernel_rfl
theorem c_f160_ok : c_f160.code.okc = true := by kernel_rfl
/-! strconv.Itoa -/
def r_f162_0 : List SOp :=
   [.op ⟨(some 2), (.mv (.av (.str []))), none⟩]
def r_f162_1 : List SOp :=
   [.op ⟨(some 3), (.mv (.tmp 0)), none⟩,
    .op ⟨(some 4), (.call 179 [(.tmp 3)]), none⟩,
    .op ⟨(some 2), (.mv (.tmp 4)), none⟩]
def c_f162 : LFun := ⟨5, (.seq (.sreg r_f162_0 [])
  (.seq (.sreg r_f162_1 [true, false, false])
  .ret)), [(.tmp 2)]⟩
def o_f162 : Nat → Nat → Nat := fun _ _ => 1
theorem c_f162_eq : lowF Tryz.prog o_f162 162 = some c_f162.raw := by kernel_rfl
theorem c_f162_ok : c_f162.code.okc = true := by kernel_rfl
/-! errors.New -/
def r_f161_0 : List SOp :=
   [.op ⟨(some 2), (.mv (.av .nilif)), none⟩]
def r_f161_1 : List SOp :=
   [.op ⟨(some 3), (.mv (.tmp 0)), none⟩,
    .op ⟨(some 4), (.build [(.str [])] [(0, 1, (.tmp 3))]), none⟩,
    .op ⟨(some 5), (.box (.tmp 4)), none⟩,
    .op ⟨(some 6), (.mkif 230 (.tmp 5)), none⟩,
    .op ⟨(some 2), (.mv (.tmp 6)), none⟩]
def c_f161 : LFun := ⟨7, (.seq (.sreg r_f161_0 [])
  (.seq (.sreg r_f161_1 [true, false, false, false, false])
  .ret)), [(.tmp 2)]⟩
def o_f161 : Nat → Nat → Nat := fun _ _ => 1
theorem c_f161_eq : lowF Tryz.prog o_f161 161 = some c_f161.raw := by kernel_rfl
theorem c_f161_ok : c_f161.code.okc = true := by kernel_rfl
/-! math/bits.Len64 -/
def r_f94_0 : List SOp :=
   [.op ⟨(some 2), (.mv (.av (.int .i64 0))), none⟩]
def r_f94_1 : List SOp :=
   [.op ⟨(some 3), (.mv (.tmp 0)), none⟩,
    .op ⟨(some 4), (.bin .geq (.tmp 3) (.av (.int .u64 4294967296))), none⟩]
def r_f94_2 : List SOp :=
   [.op ⟨(some 5), (.mv (.tmp 0)), none⟩,
    .op ⟨(some 6), (.bin .shr (.tmp 5) (.av (.int .u64 32))), none⟩,
    .op ⟨(some 0), (.mv (.tmp 6)), none⟩]
def r_f94_3 : List SOp :=
   [.op ⟨(some 2), (.mv (.av (.int .i64 32))), none⟩]
def r_f94_4 : List SOp :=
   [.op ⟨(some 7), (.mv (.tmp 0)), none⟩,
    .op ⟨(some 8), (.bin .geq (.tmp 7) (.av (.int .u64 65536))), none⟩]
def r_f94_5 : List SOp :=
   [.op ⟨(some 9), (.mv (.tmp 0)), none⟩,
    .op ⟨(some 10), (.bin .shr (.tmp 9) (.av (.int .u64 16))), none⟩,
    .op ⟨(some 0), (.mv (.tmp 10)), none⟩]
def r_f94_6 : List SOp :=
   [.op ⟨(some 11), (.mv (.tmp 2)), none⟩,
    .op ⟨(some 12), (.bin .add (.tmp 11) (.av (.int .i64 16))), none⟩,
    .op ⟨(some 2), (.mv (.tmp 12)), none⟩]
def r_f94_7 : List SOp :=
   [.op ⟨(some 13), (.mv (.tmp 0)), none⟩,
    .op ⟨(some 14), (.bin .geq (.tmp 13) (.av (.int .u64 256))), none⟩]
def r_f94_8 : List SOp :=
   [.op ⟨(some 15), (.mv (.tmp 0)), none⟩,
    .op ⟨(some 16), (.bin .shr (.tmp 15) (.av (.int .u64 8))), none⟩,
    .op ⟨(some 0), (.mv (.tmp 16)), none⟩]
def r_f94_9 : List SOp :=
   [.op ⟨(some 17), (.mv (.tmp 2)), none⟩,
    .op ⟨(some 18), (.bin .add (.tmp 17) (.av (.int .i64 8))), none⟩,
    .op ⟨(some 2), (.mv (.tmp 18)), none⟩]
def r_f94_10 : List SOp :=
   [.op ⟨(some 19), (.mv (.tmp 2)), none⟩,
    .op ⟨(some 20), (.mv (.tmp 0)), none⟩,
    .op ⟨(some 21), (.conv .u8 (.tmp 20)), none⟩,
    .op ⟨(some 22), (.idxS (.av (.str [0, 1, 2, 2, 3, 3, 3, 3, 4, 4, 4, 4, 4, 4, 4, 4, 5, 5, 5, 5, 5, 5, 5, 5, 5, 5, 5, 5, 5, 5, 5, 5, 6, 6, 6, 6, 6, 6, 6, 6, 6, 6, 6, 6, 6, 6, 6, 6, 6, 6, 6, 6, 6, 6, 6, 6, 6, 6, 6, 6, 6, 6, 6, 6, 7, 7, 7, 7, 7, 7, 7, 7, 7, 7, 7, 7, 7, 7, 7, 7, 7, 7, 7, 7, 7, 7, 7, 7, 7, 7, 7, 7, 7, 7, 7, 7, 7, 7, 7, 7, 7, 7, 7, 7, 7, 7, 7, 7, 7, 7, 7, 7, 7, 7, 7, 7, 7, 7, 7, 7, 7, 7, 7, 7, 7, 7, 7, 7, 8, 8, 8, 8, 8, 8, 8, 8, 8, 8, 8, 8, 8, 8, 8, 8, 8, 8, 8, 8, 8, 8, 8, 8, 8, 8, 8, 8, 8, 8, 8, 8, 8, 8, 8, 8, 8, 8, 8, 8, 8, 8, 8, 8, 8, 8, 8, 8, 8, 8, 8, 8, 8, 8, 8, 8, 8, 8, 8, 8, 8, 8, 8, 8, 8, 8, 8, 8, 8, 8, 8, 8, 8, 8, 8, 8, 8, 8, 8, 8, 8, 8, 8, 8, 8, 8, 8, 8, 8, 8, 8, 8, 8, 8, 8, 8, 8, 8, 8, 8, 8, 8, 8, 8, 8, 8, 8, 8, 8, 8, 8, 8, 8, 8, 8, 8, 8, 8, 8, 8, 8, 8, 8, 8, 8, 8, 8, 8])) (.tmp 21)), none⟩,
    .op ⟨(some 23), (.conv .i64 (.tmp 22)), none⟩,
    .op ⟨(some 24), (.bin .add (.tmp 19) (.tmp 23)), none⟩,
    .op ⟨(some 2), (.mv (.tmp 24)), none⟩]
def c_f94 : LFun := ⟨25, (.seq (.sreg r_f94_0 [])
  (.seq (.seq (.sreg r_f94_1 [true, false])
  (.cond (.tmp 4) (.seq (.sreg r_f94_2 [true, false, false])
  (.sreg r_f94_3 []))
  .skip))
  (.seq (.seq (.sreg r_f94_4 [true, false])
  (.cond (.tmp 8) (.seq (.sreg r_f94_5 [true, false, false])
  (.sreg r_f94_6 [true, false, false]))
  .skip))
  (.seq (.seq (.sreg r_f94_7 [true, false])
  (.cond (.tmp 14) (.seq (.sreg r_f94_8 [true, false, false])
  (.sreg r_f94_9 [true, false, false]))
  .skip))
  (.seq (.sreg r_f94_10 [true, false, false, false, false, false, false])
  .ret))))), [(.tmp 2)]⟩
def o_f94 : Nat → Nat → Nat := fun _ _ => 1
theorem c_f94_eq : lowF Tryz.prog o_f94 94 = some c_f94.raw := by kernel_rfl
theorem c_f94_ok : c_f94.code.okc = true := by kernel_rfl
/-! internal/strconv.log10Pow2 -/
def r_f93_0 : List SOp :=
   [.op ⟨(some 2), (.mv (.av (.int .i64 0))), none⟩]
def r_f93_1 : List SOp :=
   [.op ⟨(some 3), (.mv (.tmp 0)), none⟩,
    .op ⟨(some 4), (.bin .mul (.tmp 3) (.av (.int .i64 78913))), none⟩,
    .op ⟨(some 5), (.bin .shr (.tmp 4) (.av (.int .u64 18))), none⟩,
    .op ⟨(some 2), (.mv (.tmp 5)), none⟩]
def c_f93 : LFun := ⟨6, (.seq (.sreg r_f93_0 [])
  (.seq (.sreg r_f93_1 [true, false, false, false])
  .ret)), [(.tmp 2)]⟩
def o_f93 : Nat → Nat → Nat := fun _ _ => 1
theorem c_f93_eq : lowF Tryz.prog o_f93 93 = some c_f93.raw := by kernel_rfl
theorem c_f93_ok : c_f93.code.okc = true := by kernel_rfl
/-! internal/strconv.bool2[int] -/
def r_f95_0 : List SOp :=
   [.op ⟨(some 2), (.mv (.av (.int .i64 0))), none⟩]
def r_f95_1 : List SOp :=
   [.op ⟨(some 3), (.mv (.tmp 0)), none⟩]
def r_f95_2 : List SOp :=
   [.op ⟨(some 2), (.mv (.av (.int .i64 1))), none⟩]
def r_f95_3 : List SOp :=
   [.op ⟨(some 2), (.mv (.av (.int .i64 0))), none⟩]
def c_f95 : LFun := ⟨4, (.seq (.sreg r_f95_0 [])
  (.seq (.seq (.sreg r_f95_1 [])
  (.cond (.tmp 3) (.seq (.sreg r_f95_2 [])
  .ret)
  .skip))
  (.seq (.sreg r_f95_3 [])
  .ret))), [(.tmp 2)]⟩
def o_f95 : Nat → Nat → Nat := fun _ _ => 1
theorem c_f95_eq : lowF Tryz.prog o_f95 95 = some c_f95.raw := by kernel_rfl
theorem c_f95_ok : c_f95.code.okc = true := by kernel_rfl
/-! internal/strconv.isPowerOfTwo -/
def r_f96_0 : List SOp :=
   [.op ⟨(some 2), (.mv (.av (.bool false))), none⟩]
def r_f96_1 : List SOp :=
   [.op ⟨(some 3), (.mv (.tmp 0)), none⟩,
    .op ⟨(some 4), (.mv (.tmp 0)), none⟩,
    .op ⟨(some 5), (.bin .sub (.tmp 4) (.av (.int .i64 1))), none⟩,
    .op ⟨(some 6), (.bin .and (.tmp 3) (.tmp 5)), none⟩,
    .op ⟨(some 7), (.bin .eql (.tmp 6) (.av (.int .i64 0))), none⟩,
    .op ⟨(some 2), (.mv (.tmp 7)), none⟩]
def c_f96 : LFun := ⟨8, (.seq (.sreg r_f96_0 [])
  (.seq (.sreg r_f96_1 [true, false, false, false, false, false])
  .ret)), [(.tmp 2)]⟩
def o_f96 : Nat → Nat → Nat := fun _ _ => 1
theorem c_f96_eq : lowF Tryz.prog o_f96 96 = some c_f96.raw := by kernel_rfl
theorem c_f96_ok : c_f96.code.okc = true := by kernel_rfl
/-! math/bits.TrailingZeros -/
def r_f97_0 : List SOp :=
   [.op ⟨(some 2), (.mv (.av (.int .i64 0))), none⟩]
def r_f97_1 : List SOp :=
   [.op ⟨(some 3), (.mv (.tmp 0)), none⟩,
    .op ⟨(some 4), (.conv .u32 (.tmp 3)), none⟩,
    .op ⟨(some 5), (.call 122 [(.tmp 4)]), none⟩,
    .op ⟨(some 2), (.mv (.tmp 5)), none⟩]
def r_f97_2 : List SOp :=
   [.op ⟨(some 6), (.mv (.tmp 0)), none⟩,
    .op ⟨(some 7), (.call 123 [(.tmp 6)]), none⟩,
    .op ⟨(some 2), (.mv (.tmp 7)), none⟩]
def c_f97 : LFun := ⟨8, (.seq (.sreg r_f97_0 [])
  (.seq (.cond (.av (.bool false)) (.seq (.sreg r_f97_1 [true, false, false, false])
  .ret)
  .skip)
  (.seq (.sreg r_f97_2 [true, false, false])
  .ret))), [(.tmp 2)]⟩
def o_f97 : Nat → Nat → Nat := fun _ _ => 1
theorem c_f97_eq : lowF Tryz.prog o_f97 97 = some c_f97.raw := by kernel_rfl
theorem c_f97_ok : c_f97.code.okc = true := by kernel_rfl
/-! slices.IndexFunc[castellan/api.RDN,castellan/api.AVA] -/
def r_f163_0 : List SOp :=
   [.op ⟨(some 4), (.mv (.av (.int .i64 0))), none⟩]
def r_f163_1 : List SOp :=
   [.op ⟨(some 6), (.mv (.tmp 0)), none⟩,
    .op ⟨(some 7), (.len false (.tmp 6)), none⟩,
    .op ⟨(some 8), (.mv (.av (.int .i64 0))), none⟩]
def r_f163_2 : List SOp :=
   [.op ⟨(some 9), (.bin .lss (.tmp 8) (.tmp 7)), none⟩]
def r_f163_3 : List SOp :=
   [.op ⟨(some 10), (.mv (.tmp 8)), none⟩,
    .op ⟨(some 5), (.mv (.tmp 10)), none⟩]
def r_f163_4 : List SOp :=
   [.op ⟨(some 11), (.mv (.tmp 1)), none⟩,
    .op ⟨(some 12), (.mv (.tmp 0)), none⟩,
    .op ⟨(some 13), (.mv (.tmp 5)), none⟩,
    .op ⟨(some 14), (.iaddr 2 (.tmp 12) (.tmp 13)), none⟩,
    .op ⟨(some 15), (.load true 2 (.tmp 14)), none⟩,
    .op ⟨(some 16), (.callv (.tmp 11) [(.tmp 15)]), none⟩]
def r_f163_5 : List SOp :=
   [.op ⟨(some 17), (.mv (.tmp 5)), none⟩,
    .op ⟨(some 4), (.mv (.tmp 17)), none⟩]
def r_f163_6 : List SOp :=
   [.op ⟨(some 18), (.bin .add (.tmp 8) (.av (.int .i64 1))), none⟩,
    .op ⟨(some 8), (.mv (.tmp 18)), none⟩]
def r_f163_7 : List SOp :=
   [.op ⟨(some 4), (.mv (.av (.int .i64 (-1)))), none⟩]
def c_f163 : LFun := ⟨19, (.seq (.sreg r_f163_0 [])
  (.seq (.seq (.sreg r_f163_1 [true, true, false])
  (.block 0 (.loop (.seq (.sreg r_f163_2 [])
  (.seq (.cond (.tmp 9) .skip
  (.exit 0))
  (.seq (.block 1 (.seq (.sreg r_f163_3 [true, false])
  (.seq (.sreg r_f163_4 [true, false, false, false, false, false])
  (.cond (.tmp 16) (.seq (.sreg r_f163_5 [true, false])
  .ret)
  .skip))))
  (.sreg r_f163_6 [true, false])))))))
  (.seq (.sreg r_f163_7 [])
  .ret))), [(.tmp 4)]⟩
def o_f163 : Nat → Nat → Nat := fun _ _ => 1
theorem c_f163_eq : lowF Tryz.prog o_f163 163 = some c_f163.raw := by kernel_rfl
theorem c_f163_ok : c_f163.code.okc = true := by kernel_rfl
/-! castellan/octet.half -/
def r_f164_0 : List SOp :=
   [.op ⟨(some 2), (.mv (.av (.int .u8 0))), none⟩,
    .op ⟨(some 3), (.mv (.av (.bool false))), none⟩]
def r_f164_1 : List SOp :=
   [.op ⟨(some 5), (.mv (.tmp 0)), none⟩,
    .op ⟨(some 6), (.bin .geq (.tmp 5) (.av (.int .u8 48))), none⟩,
    .op ⟨(some 7), (.mv (.tmp 6)), none⟩,
    .grp none 7 true
      [.op ⟨(some 8), (.mv (.tmp 0)), (some (7, true))⟩,
      .op ⟨(some 9), (.bin .leq (.tmp 8) (.av (.int .u8 57))), (some (7, true))⟩]
      10 (.tmp 9),
    .op ⟨(some 4), (.mv (.tmp 10)), none⟩]
def r_f164_2 : List SOp :=
   [.op ⟨(some 11), (.mv (.tmp 0)), none⟩,
    .op ⟨(some 12), (.bin .sub (.tmp 11) (.av (.int .u8 48))), none⟩,
    .op ⟨(some 2), (.mv (.tmp 12)), none⟩,
    .op ⟨(some 3), (.mv (.av (.bool true))), none⟩]
def r_f164_3 : List SOp :=
   [.op ⟨(some 14), (.mv (.tmp 0)), none⟩,
    .op ⟨(some 15), (.bin .geq (.tmp 14) (.av (.int .u8 97))), none⟩,
    .op ⟨(some 16), (.mv (.tmp 15)), none⟩,
    .grp none 16 true
      [.op ⟨(some 17), (.mv (.tmp 0)), (some (16, true))⟩,
      .op ⟨(some 18), (.bin .leq (.tmp 17) (.av (.int .u8 102))), (some (16, true))⟩]
      19 (.tmp 18),
    .op ⟨(some 13), (.mv (.tmp 19)), none⟩]
def r_f164_4 : List SOp :=
   [.op ⟨(some 20), (.mv (.tmp 0)), none⟩,
    .op ⟨(some 21), (.bin .sub (.tmp 20) (.av (.int .u8 97))), none⟩,
    .op ⟨(some 22), (.bin .add (.tmp 21) (.av (.int .u8 10))), none⟩,
    .op ⟨(some 2), (.mv (.tmp 22)), none⟩,
    .op ⟨(some 3), (.mv (.av (.bool true))), none⟩]
def r_f164_5 : List SOp :=
   [.op ⟨(some 24), (.mv (.tmp 0)), none⟩,
    .op ⟨(some 25), (.bin .geq (.tmp 24) (.av (.int .u8 65))), none⟩,
    .op ⟨(some 26), (.mv (.tmp 25)), none⟩,
    .grp none 26 true
      [.op ⟨(some 27), (.mv (.tmp 0)), (some (26, true))⟩,
      .op ⟨(some 28), (.bin .leq (.tmp 27) (.av (.int .u8 70))), (some (26, true))⟩]
      29 (.tmp 28),
    .op ⟨(some 23), (.mv (.tmp 29)), none⟩]
def r_f164_6 : List SOp :=
   [.op ⟨(some 30), (.mv (.tmp 0)), none⟩,
    .op ⟨(some 31), (.bin .sub (.tmp 30) (.av (.int .u8 65))), none⟩,
    .op ⟨(some 32), (.bin .add (.tmp 31) (.av (.int .u8 10))), none⟩,
    .op ⟨(some 2), (.mv (.tmp 32)), none⟩,
    .op ⟨(some 3), (.mv (.av (.bool true))), none⟩]
def r_f164_7 : List SOp :=
   [.op ⟨(some 2), (.mv (.av (.int .u8 0))), none⟩,
    .op ⟨(some 3), (.mv (.av (.bool false))), none⟩]
def c_f164 : LFun := ⟨33, (.seq (.sreg r_f164_0 [])
  (.seq (.block 0 (.seq (.sreg r_f164_1 [true, false, false, false, false])
  (.cond (.tmp 4) (.seq (.sreg r_f164_2 [true, true, false, false])
  .ret)
  (.seq (.sreg r_f164_3 [true, false, false, false, false])
  (.cond (.tmp 13) (.seq (.sreg r_f164_4 [true, true, false, false, false])
  .ret)
  (.seq (.sreg r_f164_5 [true, false, false, false, false])
  (.cond (.tmp 23) (.seq (.sreg r_f164_6 [true, true, false, false, false])
  .ret)
  .skip)))))))
  (.seq (.sreg r_f164_7 [])
  .ret))), [(.tmp 2), (.tmp 3)]⟩
def o_f164 : Nat → Nat → Nat := fun _ _ => 1
theorem c_f164_eq : lowF Tryz.prog o_f164 164 = some c_f164.raw := by kernel_rfl
theorem c_f164_ok : c_f164.code.okc = true := by kernel_rfl
/-! math/bits.Len -/
def r_f116_0 : List SOp :=
   [.op ⟨(some 2), (.mv (.av (.int .i64 0))), none⟩]
def r_f116_1 : List SOp :=
   [.op ⟨(some 3), (.mv (.tmp 0)), none⟩,
    .op ⟨(some 4), (.conv .u32 (.tmp 3)), none⟩,
    .op ⟨(some 5), (.call 155 [(.tmp 4)]), none⟩,
    .op ⟨(some 2), (.mv (.tmp 5)), none⟩]
def r_f116_2 : List SOp :=
   [.op ⟨(some 6), (.mv (.tmp 0)), none⟩,
    .op ⟨(some 7), (.call 94 [(.tmp 6)]), none⟩,
    .op ⟨(some 2), (.mv (.tmp 7)), none⟩]
def c_f116 : LFun := ⟨8, (.seq (.sreg r_f116_0 [])
  (.seq (.cond (.av (.bool false)) (.seq (.sreg r_f116_1 [true, false, false, false])
  .ret)
  .skip)
  (.seq (.sreg r_f116_2 [true, false, false])
  .ret))), [(.tmp 2)]⟩
def o_f116 : Nat → Nat → Nat := fun _ _ => 1
theorem c_f116_eq : lowF Tryz.prog o_f116 116 = some c_f116.raw := by kernel_rfl
theorem c_f116_ok : c_f116.code.okc = true := by kernel_rfl
/-! slices.pdqsortOrdered[string] -/
def r_f165_0 : List SOp :=
   [.op ⟨(some 8), (.mv (.av (.bool true))), none⟩]
def r_f165_1 : List SOp :=
   [.op ⟨(some 9), (.mv (.av (.bool true))), none⟩]
def r_f165_2 : List SOp :=
   [.op ⟨(some 19), (.mv (.tmp 2)), none⟩,
    .op ⟨(some 20), (.mv (.tmp 1)), none⟩,
    .op ⟨(some 21), (.bin .sub (.tmp 19) (.tmp 20)), none⟩,
    .op ⟨(some 10), (.mv (.tmp 21)), none⟩]
def r_f165_3 : List SOp :=
   [.op ⟨(some 22), (.mv (.tmp 10)), none⟩,
    .op ⟨(some 23), (.bin .leq (.tmp 22) (.av (.int .i64 12))), none⟩]
def r_f165_4 : List SOp :=
   [.op ⟨(some 24), (.mv (.tmp 0)), none⟩,
    .op ⟨(some 25), (.mv (.tmp 1)), none⟩,
    .op ⟨(some 26), (.mv (.tmp 2)), none⟩,
    .op ⟨(some 27), (.call 180 [(.tmp 24), (.tmp 25), (.tmp 26)]), none⟩]
def r_f165_5 : List SOp :=
   [.op ⟨(some 28), (.mv (.tmp 3)), none⟩,
    .op ⟨(some 29), (.bin .eql (.tmp 28) (.av (.int .i64 0))), none⟩]
def r_f165_6 : List SOp :=
   [.op ⟨(some 30), (.mv (.tmp 0)), none⟩,
    .op ⟨(some 31), (.mv (.tmp 1)), none⟩,
    .op ⟨(some 32), (.mv (.tmp 2)), none⟩,
    .op ⟨(some 33), (.call 181 [(.tmp 30), (.tmp 31), (.tmp 32)]), none⟩]
def r_f165_7 : List SOp :=
   [.op ⟨(some 34), (.mv (.tmp 8)), none⟩,
    .op ⟨(some 35), (.un .not (.tmp 34)), none⟩]
def r_f165_8 : List SOp :=
   [.op ⟨(some 36), (.mv (.tmp 0)), none⟩,
    .op ⟨(some 37), (.mv (.tmp 1)), none⟩,
    .op ⟨(some 38), (.mv (.tmp 2)), none⟩,
    .op ⟨(some 39), (.call 182 [(.tmp 36), (.tmp 37), (.tmp 38)]), none⟩]
def r_f165_9 : List SOp :=
   [.op ⟨(some 40), (.mv (.tmp 3)), none⟩,
    .op ⟨(some 41), (.bin .sub (.tmp 40) (.av (.int .i64 1))), none⟩,
    .op ⟨(some 3), (.mv (.tmp 41)), none⟩]
def r_f165_10 : List SOp :=
   [.op ⟨(some 43), (.mv (.tmp 0)), none⟩,
    .op ⟨(some 44), (.mv (.tmp 1)), none⟩,
    .op ⟨(some 45), (.mv (.tmp 2)), none⟩,
    .op ⟨(some 46), (.call 183 [(.tmp 43), (.tmp 44), (.tmp 45)]), none⟩,
    .op ⟨(some 42), (.mv (.tmp 46)), none⟩,
    .op ⟨(some 47), (.extract (.tmp 42) 0), none⟩,
    .op ⟨(some 48), (.extract (.tmp 42) 1), none⟩,
    .op ⟨(some 11), (.mv (.tmp 47)), none⟩,
    .op ⟨(some 12), (.mv (.tmp 48)), none⟩]
def r_f165_11 : List SOp :=
   [.op ⟨(some 49), (.mv (.tmp 12)), none⟩,
    .op ⟨(some 50), (.bin .eql (.tmp 49) (.av (.int .i64 2))), none⟩]
def r_f165_12 : List SOp :=
   [.op ⟨(some 51), (.mv (.tmp 0)), none⟩,
    .op ⟨(some 52), (.mv (.tmp 1)), none⟩,
    .op ⟨(some 53), (.mv (.tmp 2)), none⟩,
    .op ⟨(some 54), (.call 184 [(.tmp 51), (.tmp 52), (.tmp 53)]), none⟩]
def r_f165_13 : List SOp :=
   [.op ⟨(some 55), (.mv (.tmp 2)), none⟩,
    .op ⟨(some 56), (.bin .sub (.tmp 55) (.av (.int .i64 1))), none⟩,
    .op ⟨(some 57), (.mv (.tmp 11)), none⟩,
    .op ⟨(some 58), (.mv (.tmp 1)), none⟩,
    .op ⟨(some 59), (.bin .sub (.tmp 57) (.tmp 58)), none⟩,
    .op ⟨(some 60), (.bin .sub (.tmp 56) (.tmp 59)), none⟩,
    .op ⟨(some 11), (.mv (.tmp 60)), none⟩]
def r_f165_14 : List SOp :=
   [.op ⟨(some 12), (.mv (.av (.int .i64 1))), none⟩]
def r_f165_15 : List SOp :=
   [.op ⟨(some 61), (.mv (.tmp 8)), none⟩,
    .op ⟨(some 62), (.mv (.tmp 61)), none⟩,
    .grp none 62 true
      [.op ⟨(some 63), (.mv (.tmp 9)), (some (62, true))⟩]
      64 (.tmp 63),
    .op ⟨(some 65), (.mv (.tmp 64)), none⟩,
    .grp none 65 true
      [.op ⟨(some 66), (.mv (.tmp 12)), (some (65, true))⟩,
      .op ⟨(some 67), (.bin .eql (.tmp 66) (.av (.int .i64 1))), (some (65, true))⟩]
      68 (.tmp 67)]
def r_f165_16 : List SOp :=
   [.op ⟨(some 69), (.mv (.tmp 0)), none⟩,
    .op ⟨(some 70), (.mv (.tmp 1)), none⟩,
    .op ⟨(some 71), (.mv (.tmp 2)), none⟩,
    .op ⟨(some 72), (.call 185 [(.tmp 69), (.tmp 70), (.tmp 71)]), none⟩]
def r_f165_17 : List (LOper × Kd) :=
   [(⟨(some 73), (.mv (.tmp 1)), none⟩, .pure),
    (⟨(some 74), (.bin .gtr (.tmp 73) (.av (.int .i64 0))), none⟩, .pure),
    (⟨(some 75), (.mv (.tmp 74)), none⟩, .pure),
    (⟨(some 76), (.mv (.tmp 0)), (some (75, true))⟩, .pure),
    (⟨(some 77), (.mv (.tmp 1)), (some (75, true))⟩, .pure),
    (⟨(some 78), (.bin .sub (.tmp 77) (.av (.int .i64 1))), (some (75, true))⟩, .pure),
    (⟨(some 79), (.iaddr 1 (.tmp 76) (.tmp 78)), (some (75, true))⟩, (.read 0 0)),
    (⟨(some 80), (.load false 1 (.tmp 79)), (some (75, true))⟩, (.read 0 0)),
    (⟨(some 81), (.mv (.tmp 0)), (some (75, true))⟩, .pure),
    (⟨(some 82), (.mv (.tmp 11)), (some (75, true))⟩, .pure),
    (⟨(some 83), (.iaddr 1 (.tmp 81) (.tmp 82)), (some (75, true))⟩, (.read 0 0)),
    (⟨(some 84), (.load false 1 (.tmp 83)), (some (75, true))⟩, (.read 0 0))]
def r_f165_17t : List LOper :=
   [⟨(some 85), (.call 186 [(.tmp 80), (.tmp 84)]), (some (75, true))⟩,
    ⟨(some 86), (.un .not (.tmp 85)), (some (75, true))⟩,
    ⟨(some 87), (.pick (.tmp 75) (.tmp 86) (.av (.bool false))), none⟩]
def r_f165_18 : List SOp :=
   [.op ⟨(some 88), (.mv (.tmp 0)), none⟩,
    .op ⟨(some 89), (.mv (.tmp 1)), none⟩,
    .op ⟨(some 90), (.mv (.tmp 2)), none⟩,
    .op ⟨(some 91), (.mv (.tmp 11)), none⟩,
    .op ⟨(some 92), (.call 187 [(.tmp 88), (.tmp 89), (.tmp 90), (.tmp 91)]), none⟩,
    .op ⟨(some 13), (.mv (.tmp 92)), none⟩]
def r_f165_19 : List SOp :=
   [.op ⟨(some 93), (.mv (.tmp 13)), none⟩,
    .op ⟨(some 1), (.mv (.tmp 93)), none⟩]
def r_f165_20 : List SOp :=
   [.op ⟨(some 95), (.mv (.tmp 0)), none⟩,
    .op ⟨(some 96), (.mv (.tmp 1)), none⟩,
    .op ⟨(some 97), (.mv (.tmp 2)), none⟩,
    .op ⟨(some 98), (.mv (.tmp 11)), none⟩,
    .op ⟨(some 99), (.call 188 [(.tmp 95), (.tmp 96), (.tmp 97), (.tmp 98)]), none⟩,
    .op ⟨(some 94), (.mv (.tmp 99)), none⟩,
    .op ⟨(some 100), (.extract (.tmp 94) 0), none⟩,
    .op ⟨(some 101), (.extract (.tmp 94) 1), none⟩,
    .op ⟨(some 14), (.mv (.tmp 100)), none⟩,
    .op ⟨(some 15), (.mv (.tmp 101)), none⟩]
def r_f165_21 : List SOp :=
   [.op ⟨(some 102), (.mv (.tmp 15)), none⟩,
    .op ⟨(some 9), (.mv (.tmp 102)), none⟩]
def r_f165_22 : List SOp :=
   [.op ⟨(some 103), (.mv (.tmp 14)), none⟩,
    .op ⟨(some 104), (.mv (.tmp 1)), none⟩,
    .op ⟨(some 105), (.bin .sub (.tmp 103) (.tmp 104)), none⟩,
    .op ⟨(some 106), (.mv (.tmp 2)), none⟩,
    .op ⟨(some 107), (.mv (.tmp 14)), none⟩,
    .op ⟨(some 108), (.bin .sub (.tmp 106) (.tmp 107)), none⟩,
    .op ⟨(some 16), (.mv (.tmp 105)), none⟩,
    .op ⟨(some 17), (.mv (.tmp 108)), none⟩]
def r_f165_23 : List SOp :=
   [.op ⟨(some 109), (.mv (.tmp 10)), none⟩,
    .op ⟨(some 110), (.bin .quo (.tmp 109) (.av (.int .i64 8))), none⟩,
    .op ⟨(some 18), (.mv (.tmp 110)), none⟩]
def r_f165_24 : List SOp :=
   [.op ⟨(some 111), (.mv (.tmp 16)), none⟩,
    .op ⟨(some 112), (.mv (.tmp 17)), none⟩,
    .op ⟨(some 113), (.bin .lss (.tmp 111) (.tmp 112)), none⟩]
def r_f165_25 : List SOp :=
   [.op ⟨(some 114), (.mv (.tmp 16)), none⟩,
    .op ⟨(some 115), (.mv (.tmp 18)), none⟩,
    .op ⟨(some 116), (.bin .geq (.tmp 114) (.tmp 115)), none⟩,
    .op ⟨(some 8), (.mv (.tmp 116)), none⟩]
def r_f165_26 : List SOp :=
   [.op ⟨(some 117), (.mv (.tmp 0)), none⟩,
    .op ⟨(some 118), (.mv (.tmp 1)), none⟩,
    .op ⟨(some 119), (.mv (.tmp 14)), none⟩,
    .op ⟨(some 120), (.mv (.tmp 3)), none⟩,
    .op ⟨(some 121), (.call 165 [(.tmp 117), (.tmp 118), (.tmp 119), (.tmp 120)]), none⟩]
def r_f165_27 : List SOp :=
   [.op ⟨(some 122), (.mv (.tmp 14)), none⟩,
    .op ⟨(some 123), (.bin .add (.tmp 122) (.av (.int .i64 1))), none⟩,
    .op ⟨(some 1), (.mv (.tmp 123)), none⟩]
def r_f165_28 : List SOp :=
   [.op ⟨(some 124), (.mv (.tmp 17)), none⟩,
    .op ⟨(some 125), (.mv (.tmp 18)), none⟩,
    .op ⟨(some 126), (.bin .geq (.tmp 124) (.tmp 125)), none⟩,
    .op ⟨(some 8), (.mv (.tmp 126)), none⟩]
def r_f165_29 : List SOp :=
   [.op ⟨(some 127), (.mv (.tmp 0)), none⟩,
    .op ⟨(some 128), (.mv (.tmp 14)), none⟩,
    .op ⟨(some 129), (.bin .add (.tmp 128) (.av (.int .i64 1))), none⟩,
    .op ⟨(some 130), (.mv (.tmp 2)), none⟩,
    .op ⟨(some 131), (.mv (.tmp 3)), none⟩,
    .op ⟨(some 132), (.call 165 [(.tmp 127), (.tmp 129), (.tmp 130), (.tmp 131)]), none⟩]
def r_f165_30 : List SOp :=
   [.op ⟨(some 133), (.mv (.tmp 14)), none⟩,
    .op ⟨(some 2), (.mv (.tmp 133)), none⟩]
def c_f165 : LFun := ⟨134, (.seq (.sreg r_f165_0 [])
  (.seq (.sreg r_f165_1 [])
  (.block 0 (.loop (.block 1 (.seq (.sreg r_f165_2 [true, false, false, false])
  (.seq (.seq (.sreg r_f165_3 [true, false])
  (.cond (.tmp 23) (.seq (.sreg r_f165_4 [false, false, false, false])
  .ret)
  .skip))
  (.seq (.seq (.sreg r_f165_5 [true, false])
  (.cond (.tmp 29) (.seq (.sreg r_f165_6 [false, false, false, false])
  .ret)
  .skip))
  (.seq (.seq (.sreg r_f165_7 [true, false])
  (.cond (.tmp 35) (.seq (.sreg r_f165_8 [false, false, false, false])
  (.sreg r_f165_9 [true, false, false]))
  .skip))
  (.seq (.sreg r_f165_10 [true, true, false, false, false, false, false, false, false])
  (.seq (.seq (.sreg r_f165_11 [true, false])
  (.cond (.tmp 50) (.seq (.sreg r_f165_12 [false, false, false, false])
  (.seq (.sreg r_f165_13 [true, false, false, false, false, false, false])
  (.sreg r_f165_14 [])))
  .skip))
  (.seq (.seq (.sreg r_f165_15 [true, false, false, false, false])
  (.cond (.tmp 68) (.seq (.sreg r_f165_16 [true, false, false, false])
  (.cond (.tmp 72) .ret
  .skip))
  .skip))
  (.seq (.seq (.dregM r_f165_17 r_f165_17t [true, false, false, false, false, false, false, false, false, false, false, false, false, false, false])
  (.cond (.tmp 87) (.seq (.sreg r_f165_18 [true, false, false, false, false, false])
  (.seq (.sreg r_f165_19 [true, false])
  (.exit 1)))
  .skip))
  (.seq (.sreg r_f165_20 [true, true, false, false, false, false, false, false, false, false])
  (.seq (.sreg r_f165_21 [true, false])
  (.seq (.sreg r_f165_22 [true, true, false, false, false, false, false, false])
  (.seq (.sreg r_f165_23 [true, false, false])
  (.seq (.sreg r_f165_24 [true, false, false])
  (.cond (.tmp 113) (.seq (.sreg r_f165_25 [true, false, false, false])
  (.seq (.sreg r_f165_26 [false, false, false, false, false])
  (.sreg r_f165_27 [true, false, false])))
  (.seq (.sreg r_f165_28 [true, false, false, false])
  (.seq (.sreg r_f165_29 [false, false, false, false, false, false])
  (.sreg r_f165_30 [true, false])))))))))))))))))))))), []⟩
def o_f165 : Nat → Nat → Nat := fun r i => if r = 17 ∧ i = 12 then 3 else 1
theorem c_f165_eq : lowF Tryz.prog o_f165 165 = some c_f165.raw := by kernel_rfl
theorem c_f165_ok : c_f165.code.okc = true := by kernel_rfl
/-! (*strings.Builder).Grow -/
def r_f166_0 : List SOp :=
   [.op ⟨(some 4), (.mv (.tmp 0)), none⟩,
    .op ⟨(some 5), (.call 189 [(.tmp 4)]), none⟩]
def r_f166_1 : List SOp :=
   [.op ⟨(some 6), (.mv (.tmp 1)), none⟩,
    .op ⟨(some 7), (.bin .lss (.tmp 6) (.av (.int .i64 0))), none⟩]
def r_f166_2 : List SOp :=
   [.op ⟨(some 8), (.mkif 9 (.av (.str [115, 116, 114, 105, 110, 103, 115, 46, 66, 117, 105, 108, 100, 101, 114, 46, 71, 114, 111, 119, 58, 32, 110, 101, 103, 97, 116, 105, 118, 101, 32, 99, 111, 117, 110, 116]))), none⟩,
    .op ⟨none, .bad, none⟩]
def r_f166_3 : List SOp :=
   [.op ⟨(some 9), (.mv (.tmp 0)), none⟩,
    .op ⟨(some 10), (.nilchk (.tmp 9)), none⟩,
    .op ⟨(some 11), (.faddr 1 (.tmp 10)), none⟩,
    .op ⟨(some 12), (.load false 1 (.tmp 11)), none⟩,
    .op ⟨(some 13), (.cap (.tmp 12)), none⟩,
    .op ⟨(some 14), (.mv (.tmp 0)), none⟩,
    .op ⟨(some 15), (.nilchk (.tmp 14)), none⟩,
    .op ⟨(some 16), (.faddr 1 (.tmp 15)), none⟩,
    .op ⟨(some 17), (.load false 1 (.tmp 16)), none⟩,
    .op ⟨(some 18), (.len false (.tmp 17)), none⟩,
    .op ⟨(some 19), (.bin .sub (.tmp 13) (.tmp 18)), none⟩,
    .op ⟨(some 20), (.mv (.tmp 1)), none⟩,
    .op ⟨(some 21), (.bin .lss (.tmp 19) (.tmp 20)), none⟩]
def r_f166_4 : List SOp :=
   [.op ⟨(some 22), (.mv (.tmp 0)), none⟩,
    .op ⟨(some 23), (.mv (.tmp 1)), none⟩,
    .op ⟨(some 24), (.call 190 [(.tmp 22), (.tmp 23)]), none⟩]
def c_f166 : LFun := ⟨25, (.seq (.sreg r_f166_0 [false, false])
  (.seq (.seq (.sreg r_f166_1 [true, false])
  (.cond (.tmp 7) (.sreg r_f166_2 [false])
  .skip))
  (.seq (.sdreg r_f166_3 [.pure, (.read 0 0), .pure, (.read 0 0), (.read 0 0), .pure, (.read 0 0), .pure, (.read 0 0), (.read 0 0), .pure, .pure] [true, false, false, false, false, false, false, false, false, false, false, false, false])
  (.cond (.tmp 21) (.sreg r_f166_4 [false, false, false])
  .skip)))), []⟩
def o_f166 : Nat → Nat → Nat := fun _ _ => 1
theorem c_f166_eq : lowF Tryz.prog o_f166 166 = some c_f166.raw := by kernel_rfl
theorem c_f166_ok : c_f166.code.okc = true := by kernel_rfl
/-! (*strings.Builder).WriteString -/
def r_f167_0 : List SOp :=
   [.op ⟨(some 4), (.mv (.av (.int .i64 0))), none⟩,
    .op ⟨(some 5), (.mv (.av .nilif)), none⟩]
def r_f167_1 : List SOp :=
   [.op ⟨(some 6), (.mv (.tmp 0)), none⟩,
    .op ⟨(some 7), (.call 189 [(.tmp 6)]), none⟩]
def r_f167_2 : List SOp :=
   [.op ⟨(some 8), (.mv (.tmp 0)), none⟩,
    .op ⟨(some 9), (.mv (.tmp 0)), none⟩,
    .op ⟨(some 10), (.nilchk (.tmp 9)), none⟩,
    .op ⟨(some 11), (.faddr 1 (.tmp 10)), none⟩,
    .op ⟨(some 12), (.load false 1 (.tmp 11)), none⟩,
    .op ⟨(some 13), (.mv (.tmp 1)), none⟩,
    .op ⟨(some 14), (.app 1 1 1 [(.int .u8 0)] (.tmp 12) (.tmp 13)), none⟩,
    .op ⟨(some 15), (.nilchk (.tmp 8)), none⟩,
    .op ⟨(some 16), (.faddr 1 (.tmp 15)), none⟩,
    .op ⟨none, (.store 1 (.tmp 16) (.tmp 14)), none⟩]
def r_f167_3 : List SOp :=
   [.op ⟨(some 17), (.mv (.tmp 1)), none⟩,
    .op ⟨(some 18), (.len true (.tmp 17)), none⟩,
    .op ⟨(some 4), (.mv (.tmp 18)), none⟩,
    .op ⟨(some 5), (.mv (.av .nilif)), none⟩]
def c_f167 : LFun := ⟨19, (.seq (.sreg r_f167_0 [])
  (.seq (.sreg r_f167_1 [false, false])
  (.seq (.sreg r_f167_2 [false, false, false, false, false, false, false, false, false])
  (.seq (.sreg r_f167_3 [true, true, false, false])
  .ret)))), [(.tmp 4), (.tmp 5)]⟩
def o_f167 : Nat → Nat → Nat := fun _ _ => 1
theorem c_f167_eq : lowF Tryz.prog o_f167 167 = some c_f167.raw := by kernel_rfl
theorem c_f167_ok : c_f167.code.okc = true := by kernel_rfl
/-! (*strings.Builder).String -/
def r_f168_0 : List SOp :=
   [.op ⟨(some 2), (.mv (.av (.str []))), none⟩]
def r_f168_1 : List SOp :=
   [.op ⟨(some 3), (.mv (.tmp 0)), none⟩,
    .op ⟨(some 4), (.nilchk (.tmp 3)), none⟩,
    .op ⟨(some 5), (.faddr 1 (.tmp 4)), none⟩,
    .op ⟨(some 6), (.load false 1 (.tmp 5)), none⟩,
    .op ⟨(some 7), .bad, none⟩,
    .op ⟨(some 8), (.mv (.tmp 0)), none⟩,
    .op ⟨(some 9), (.nilchk (.tmp 8)), none⟩,
    .op ⟨(some 10), (.faddr 1 (.tmp 9)), none⟩,
    .op ⟨(some 11), (.load false 1 (.tmp 10)), none⟩,
    .op ⟨(some 12), (.len false (.tmp 11)), none⟩,
    .op ⟨(some 13), .bad, none⟩,
    .op ⟨(some 2), (.mv (.tmp 13)), none⟩]
def c_f168 : LFun := ⟨14, (.seq (.sreg r_f168_0 [])
  (.seq (.sdreg r_f168_1 [.pure, (.read 0 0), .pure, (.read 0 0), (.read 0 0), .pure, (.read 0 0), .pure, (.read 0 0), (.read 0 0)] [true, false, false, false, false, false, false, false, false, false, false, false])
  .ret)), [(.tmp 2)]⟩
def o_f168 : Nat → Nat → Nat := fun _ _ => 1
theorem c_f168_eq : lowF Tryz.prog o_f168 168 = some c_f168.raw := by kernel_rfl
theorem c_f168_ok : c_f168.code.okc = true := by kernel_rfl
/-! internal/strconv.Itoa -/
def r_f179_0 : List SOp :=
   [.op ⟨(some 2), (.mv (.av (.str []))), none⟩]
def r_f179_1 : List SOp :=
   [.op ⟨(some 3), (.mv (.tmp 0)), none⟩,
    .op ⟨(some 4), (.call 26 [(.tmp 3), (.av (.int .i64 10))]), none⟩,
    .op ⟨(some 2), (.mv (.tmp 4)), none⟩]
def c_f179 : LFun := ⟨5, (.seq (.sreg r_f179_0 [])
  (.seq (.sreg r_f179_1 [true, false, false])
  .ret)), [(.tmp 2)]⟩
def o_f179 : Nat → Nat → Nat := fun _ _ => 1
theorem c_f179_eq : lowF Tryz.prog o_f179 179 = some c_f179.raw := by kernel_rfl
theorem c_f179_ok : c_f179.code.okc = true := by kernel_rfl
/-! math/bits.TrailingZeros32 -/
def r_f122_0 : List SOp :=
   [.op ⟨(some 2), (.mv (.av (.int .i64 0))), none⟩]
def r_f122_1 : List SOp :=
   [.op ⟨(some 3), (.mv (.tmp 0)), none⟩,
    .op ⟨(some 4), (.bin .eql (.tmp 3) (.av (.int .u32 0))), none⟩]
def r_f122_2 : List SOp :=
   [.op ⟨(some 2), (.mv (.av (.int .i64 32))), none⟩]
def r_f122_3 : List SOp :=
   [.op ⟨(some 5), (.mv (.tmp 0)), none⟩,
    .op ⟨(some 6), (.mv (.tmp 0)), none⟩,
    .op ⟨(some 7), (.un .neg (.tmp 6)), none⟩,
    .op ⟨(some 8), (.bin .and (.tmp 5) (.tmp 7)), none⟩,
    .op ⟨(some 9), (.bin .mul (.tmp 8) (.av (.int .u32 125613361))), none⟩,
    .op ⟨(some 10), (.bin .shr (.tmp 9) (.av (.int .u64 27))), none⟩,
    .op ⟨(some 11), (.iaddrA 32 1 (.av (.gptr 5 0)) (.tmp 10)), none⟩,
    .op ⟨(some 12), (.load false 1 (.tmp 11)), none⟩,
    .op ⟨(some 13), (.conv .i64 (.tmp 12)), none⟩,
    .op ⟨(some 2), (.mv (.tmp 13)), none⟩]
def c_f122 : LFun := ⟨14, (.seq (.sreg r_f122_0 [])
  (.seq (.seq (.sreg r_f122_1 [true, false])
  (.cond (.tmp 4) (.seq (.sreg r_f122_2 [])
  .ret)
  .skip))
  (.seq (.sreg r_f122_3 [true, false, false, false, false, false, false, false, false, false])
  .ret))), [(.tmp 2)]⟩
def o_f122 : Nat → Nat → Nat := fun _ _ => 1
theorem c_f122_eq : lowF Tryz.prog o_f122 122 = some c_f122.raw := by kernel_rfl
theorem c_f122_ok : c_f122.code.okc = true := by kernel_rfl
/-! math/bits.TrailingZeros64 -/
def r_f123_0 : List SOp :=
   [.op ⟨(some 2), (.mv (.av (.int .i64 0))), none⟩]
def r_f123_1 : List SOp :=
   [.op ⟨(some 3), (.mv (.tmp 0)), none⟩,
    .op ⟨(some 4), (.bin .eql (.tmp 3) (.av (.int .u64 0))), none⟩]
def r_f123_2 : List SOp :=
   [.op ⟨(some 2), (.mv (.av (.int .i64 64))), none⟩]
def r_f123_3 : List SOp :=
   [.op ⟨(some 5), (.mv (.tmp 0)), none⟩,
    .op ⟨(some 6), (.mv (.tmp 0)), none⟩,
    .op ⟨(some 7), (.un .neg (.tmp 6)), none⟩,
    .op ⟨(some 8), (.bin .and (.tmp 5) (.tmp 7)), none⟩,
    .op ⟨(some 9), (.bin .mul (.tmp 8) (.av (.int .u64 285870213051353865))), none⟩,
    .op ⟨(some 10), (.bin .shr (.tmp 9) (.av (.int .u64 58))), none⟩,
    .op ⟨(some 11), (.iaddrA 64 1 (.av (.gptr 6 0)) (.tmp 10)), none⟩,
    .op ⟨(some 12), (.load false 1 (.tmp 11)), none⟩,
    .op ⟨(some 13), (.conv .i64 (.tmp 12)), none⟩,
    .op ⟨(some 2), (.mv (.tmp 13)), none⟩]
def c_f123 : LFun := ⟨14, (.seq (.sreg r_f123_0 [])
  (.seq (.seq (.sreg r_f123_1 [true, false])
  (.cond (.tmp 4) (.seq (.sreg r_f123_2 [])
  .ret)
  .skip))
  (.seq (.sreg r_f123_3 [true, false, false, false, false, false, false, false, false, false])
  .ret))), [(.tmp 2)]⟩
def o_f123 : Nat → Nat → Nat := fun _ _ => 1
theorem c_f123_eq : lowF Tryz.prog o_f123 123 = some c_f123.raw := by kernel_rfl
theorem c_f123_ok : c_f123.code.okc = true := by kernel_rfl
/-! math/bits.Len32 -/
def r_f155_0 : List SOp :=
   [.op ⟨(some 2), (.mv (.av (.int .i64 0))), none⟩]
def r_f155_1 : List SOp :=
   [.op ⟨(some 3), (.mv (.tmp 0)), none⟩,
    .op ⟨(some 4), (.bin .geq (.tmp 3) (.av (.int .u32 65536))), none⟩]
def r_f155_2 : List SOp :=
   [.op ⟨(some 5), (.mv (.tmp 0)), none⟩,
    .op ⟨(some 6), (.bin .shr (.tmp 5) (.av (.int .u64 16))), none⟩,
    .op ⟨(some 0), (.mv (.tmp 6)), none⟩]
def r_f155_3 : List SOp :=
   [.op ⟨(some 2), (.mv (.av (.int .i64 16))), none⟩]
def r_f155_4 : List SOp :=
   [.op ⟨(some 7), (.mv (.tmp 0)), none⟩,
    .op ⟨(some 8), (.bin .geq (.tmp 7) (.av (.int .u32 256))), none⟩]
def r_f155_5 : List SOp :=
   [.op ⟨(some 9), (.mv (.tmp 0)), none⟩,
    .op ⟨(some 10), (.bin .shr (.tmp 9) (.av (.int .u64 8))), none⟩,
    .op ⟨(some 0), (.mv (.tmp 10)), none⟩]
def r_f155_6 : List SOp :=
   [.op ⟨(some 11), (.mv (.tmp 2)), none⟩,
    .op ⟨(some 12), (.bin .add (.tmp 11) (.av (.int .i64 8))), none⟩,
    .op ⟨(some 2), (.mv (.tmp 12)), none⟩]
def r_f155_7 : List SOp :=
   [.op ⟨(some 13), (.mv (.tmp 2)), none⟩,
    .op ⟨(some 14), (.mv (.tmp 0)), none⟩,
    .op ⟨(some 15), (.conv .u8 (.tmp 14)), none⟩,
    .op ⟨(some 16), (.idxS (.av (.str [0, 1, 2, 2, 3, 3, 3, 3, 4, 4, 4, 4, 4, 4, 4, 4, 5, 5, 5, 5, 5, 5, 5, 5, 5, 5, 5, 5, 5, 5, 5, 5, 6, 6, 6, 6, 6, 6, 6, 6, 6, 6, 6, 6, 6, 6, 6, 6, 6, 6, 6, 6, 6, 6, 6, 6, 6, 6, 6, 6, 6, 6, 6, 6, 7, 7, 7, 7, 7, 7, 7, 7, 7, 7, 7, 7, 7, 7, 7, 7, 7, 7, 7, 7, 7, 7, 7, 7, 7, 7, 7, 7, 7, 7, 7, 7, 7, 7, 7, 7, 7, 7, 7, 7, 7, 7, 7, 7, 7, 7, 7, 7, 7, 7, 7, 7, 7, 7, 7, 7, 7, 7, 7, 7, 7, 7, 7, 7, 8, 8, 8, 8, 8, 8, 8, 8, 8, 8, 8, 8, 8, 8, 8, 8, 8, 8, 8, 8, 8, 8, 8, 8, 8, 8, 8, 8, 8, 8, 8, 8, 8, 8, 8, 8, 8, 8, 8, 8, 8, 8, 8, 8, 8, 8, 8, 8, 8, 8, 8, 8, 8, 8, 8, 8, 8, 8, 8, 8, 8, 8, 8, 8, 8, 8, 8, 8, 8, 8, 8, 8, 8, 8, 8, 8, 8, 8, 8, 8, 8, 8, 8, 8, 8, 8, 8, 8, 8, 8, 8, 8, 8, 8, 8, 8, 8, 8, 8, 8, 8, 8, 8, 8, 8, 8, 8, 8, 8, 8, 8, 8, 8, 8, 8, 8, 8, 8, 8, 8, 8, 8, 8, 8, 8, 8, 8, 8])) (.tmp 15)), none⟩,
    .op ⟨(some 17), (.conv .i64 (.tmp 16)), none⟩,
    .op ⟨(some 18), (.bin .add (.tmp 13) (.tmp 17)), none⟩,
    .op ⟨(some 2), (.mv (.tmp 18)), none⟩]
def c_f155 : LFun := ⟨19, (.seq (.sreg r_f155_0 [])
  (.seq (.seq (.sreg r_f155_1 [true, false])
  (.cond (.tmp 4) (.seq (.sreg r_f155_2 [true, false, false])
  (.sreg r_f155_3 []))
  .skip))
  (.seq (.seq (.sreg r_f155_4 [true, false])
  (.cond (.tmp 8) (.seq (.sreg r_f155_5 [true, false, false])
  (.sreg r_f155_6 [true, false, false]))
  .skip))
  (.seq (.sreg r_f155_7 [true, false, false, false, false, false, false])
  .ret)))), [(.tmp 2)]⟩
def o_f155 : Nat → Nat → Nat := fun _ _ => 1
theorem c_f155_eq : lowF Tryz.prog o_f155 155 = some c_f155.raw := by kernel_rfl
theorem c_f155_ok : c_f155.code.okc = true := by kernel_rfl
/-! slices.insertionSortOrdered[string] -/
def r_f180_0 : List SOp :=
   [.op ⟨(some 8), (.mv (.tmp 1)), none⟩,
    .op ⟨(some 9), (.bin .add (.tmp 8) (.av (.int .i64 1))), none⟩,
    .op ⟨(some 6), (.mv (.tmp 9)), none⟩]
def r_f180_1 : List SOp :=
   [.op ⟨(some 10), (.mv (.tmp 6)), none⟩,
    .op ⟨(some 11), (.mv (.tmp 2)), none⟩,
    .op ⟨(some 12), (.bin .lss (.tmp 10) (.tmp 11)), none⟩]
def r_f180_2 : List SOp :=
   [.op ⟨(some 15), (.mv (.tmp 6)), none⟩,
    .op ⟨(some 7), (.mv (.tmp 15)), none⟩]
def r_f180_3 : List (LOper × Kd) :=
   [(⟨(some 16), (.mv (.tmp 7)), none⟩, .pure),
    (⟨(some 17), (.mv (.tmp 1)), none⟩, .pure),
    (⟨(some 18), (.bin .gtr (.tmp 16) (.tmp 17)), none⟩, .pure),
    (⟨(some 19), (.mv (.tmp 18)), none⟩, .pure),
    (⟨(some 20), (.mv (.tmp 0)), (some (19, true))⟩, .pure),
    (⟨(some 21), (.mv (.tmp 7)), (some (19, true))⟩, .pure),
    (⟨(some 22), (.iaddr 1 (.tmp 20) (.tmp 21)), (some (19, true))⟩, (.read 0 0)),
    (⟨(some 23), (.load false 1 (.tmp 22)), (some (19, true))⟩, (.read 0 0)),
    (⟨(some 24), (.mv (.tmp 0)), (some (19, true))⟩, .pure),
    (⟨(some 25), (.mv (.tmp 7)), (some (19, true))⟩, .pure),
    (⟨(some 26), (.bin .sub (.tmp 25) (.av (.int .i64 1))), (some (19, true))⟩, .pure),
    (⟨(some 27), (.iaddr 1 (.tmp 24) (.tmp 26)), (some (19, true))⟩, (.read 0 0)),
    (⟨(some 28), (.load false 1 (.tmp 27)), (some (19, true))⟩, (.read 0 0))]
def r_f180_3t : List LOper :=
   [⟨(some 29), (.call 186 [(.tmp 23), (.tmp 28)]), (some (19, true))⟩,
    ⟨(some 30), (.pick (.tmp 19) (.tmp 29) (.av (.bool false))), none⟩]
def r_f180_4 : List (LOper × Kd) :=
   [(⟨(some 33), (.mv (.tmp 0)), none⟩, .pure),
    (⟨(some 34), (.mv (.tmp 7)), none⟩, .pure),
    (⟨(some 35), (.mv (.tmp 0)), none⟩, .pure),
    (⟨(some 36), (.mv (.tmp 7)), none⟩, .pure),
    (⟨(some 37), (.bin .sub (.tmp 36) (.av (.int .i64 1))), none⟩, .pure),
    (⟨(some 38), (.mv (.tmp 0)), none⟩, .pure),
    (⟨(some 39), (.mv (.tmp 7)), none⟩, .pure),
    (⟨(some 40), (.bin .sub (.tmp 39) (.av (.int .i64 1))), none⟩, .pure),
    (⟨(some 41), (.iaddr 1 (.tmp 38) (.tmp 40)), none⟩, (.read 0 0)),
    (⟨(some 42), (.load false 1 (.tmp 41)), none⟩, (.read 0 0)),
    (⟨(some 43), (.mv (.tmp 0)), none⟩, .pure),
    (⟨(some 44), (.mv (.tmp 7)), none⟩, .pure),
    (⟨(some 45), (.iaddr 1 (.tmp 43) (.tmp 44)), none⟩, (.read 0 0)),
    (⟨(some 46), (.load false 1 (.tmp 45)), none⟩, (.read 0 0)),
    (⟨(some 47), (.iaddr 1 (.tmp 33) (.tmp 34)), none⟩, (.read 0 0)),
    (⟨none, (.store 1 (.tmp 47) (.tmp 42)), none⟩, .eff)]
def r_f180_4t : List LOper :=
   [⟨(some 48), (.iaddr 1 (.tmp 35) (.tmp 37)), none⟩,
    ⟨none, (.store 1 (.tmp 48) (.tmp 46)), none⟩]
def r_f180_5 : List SOp :=
   [.op ⟨(some 31), (.mv (.tmp 7)), none⟩,
    .op ⟨(some 32), (.bin .sub (.tmp 31) (.av (.int .i64 1))), none⟩,
    .op ⟨(some 7), (.mv (.tmp 32)), none⟩]
def r_f180_6 : List SOp :=
   [.op ⟨(some 13), (.mv (.tmp 6)), none⟩,
    .op ⟨(some 14), (.bin .add (.tmp 13) (.av (.int .i64 1))), none⟩,
    .op ⟨(some 6), (.mv (.tmp 14)), none⟩]
def c_f180 : LFun := ⟨49, (.seq (.sreg r_f180_0 [true, false, false])
  (.block 0 (.loop (.seq (.seq (.sreg r_f180_1 [true, false, false])
  (.cond (.tmp 12) .skip
  (.exit 0)))
  (.seq (.block 1 (.seq (.sreg r_f180_2 [true, false])
  (.block 2 (.loop (.seq (.seq (.dregM r_f180_3 r_f180_3t [true, false, false, false, false, false, false, false, false, false, false, false, false, false, false])
  (.cond (.tmp 30) .skip
  (.exit 2)))
  (.seq (.block 3 (.dregM r_f180_4 r_f180_4t [false, false, false, false, false, false, false, false, false, false, false, false, false, false, false, false]))
  (.sreg r_f180_5 [true, false, false])))))))
  (.sreg r_f180_6 [true, false, false])))))), []⟩
def o_f180 : Nat → Nat → Nat := fun r i => if r = 4 ∧ i = 13 then 3 else 1
theorem c_f180_eq : lowF Tryz.prog o_f180 180 = some c_f180.raw := by kernel_rfl
theorem c_f180_ok : c_f180.code.okc = true := by kernel_rfl
/-! slices.heapSortOrdered[string] -/
def r_f181_0 : List SOp :=
   [.op ⟨(some 11), (.mv (.tmp 1)), none⟩,
    .op ⟨(some 6), (.mv (.tmp 11)), none⟩]
def r_f181_1 : List SOp :=
   [.op ⟨(some 7), (.mv (.av (.int .i64 0))), none⟩]
def r_f181_2 : List SOp :=
   [.op ⟨(some 12), (.mv (.tmp 2)), none⟩,
    .op ⟨(some 13), (.mv (.tmp 1)), none⟩,
    .op ⟨(some 14), (.bin .sub (.tmp 12) (.tmp 13)), none⟩,
    .op ⟨(some 8), (.mv (.tmp 14)), none⟩]
def r_f181_3 : List SOp :=
   [.op ⟨(some 15), (.mv (.tmp 8)), none⟩,
    .op ⟨(some 16), (.bin .sub (.tmp 15) (.av (.int .i64 1))), none⟩,
    .op ⟨(some 17), (.bin .quo (.tmp 16) (.av (.int .i64 2))), none⟩,
    .op ⟨(some 9), (.mv (.tmp 17)), none⟩]
def r_f181_4 : List SOp :=
   [.op ⟨(some 18), (.mv (.tmp 9)), none⟩,
    .op ⟨(some 19), (.bin .geq (.tmp 18) (.av (.int .i64 0))), none⟩]
def r_f181_5 : List SOp :=
   [.op ⟨(some 22), (.mv (.tmp 0)), none⟩,
    .op ⟨(some 23), (.mv (.tmp 9)), none⟩,
    .op ⟨(some 24), (.mv (.tmp 8)), none⟩,
    .op ⟨(some 25), (.mv (.tmp 6)), none⟩,
    .op ⟨(some 26), (.call 192 [(.tmp 22), (.tmp 23), (.tmp 24), (.tmp 25)]), none⟩]
def r_f181_6 : List SOp :=
   [.op ⟨(some 20), (.mv (.tmp 9)), none⟩,
    .op ⟨(some 21), (.bin .sub (.tmp 20) (.av (.int .i64 1))), none⟩,
    .op ⟨(some 9), (.mv (.tmp 21)), none⟩]
def r_f181_7 : List SOp :=
   [.op ⟨(some 27), (.mv (.tmp 8)), none⟩,
    .op ⟨(some 28), (.bin .sub (.tmp 27) (.av (.int .i64 1))), none⟩,
    .op ⟨(some 10), (.mv (.tmp 28)), none⟩]
def r_f181_8 : List SOp :=
   [.op ⟨(some 29), (.mv (.tmp 10)), none⟩,
    .op ⟨(some 30), (.bin .geq (.tmp 29) (.av (.int .i64 0))), none⟩]
def r_f181_9 : List (LOper × Kd) :=
   [(⟨(some 33), (.mv (.tmp 0)), none⟩, .pure),
    (⟨(some 34), (.mv (.tmp 6)), none⟩, .pure),
    (⟨(some 35), (.mv (.tmp 0)), none⟩, .pure),
    (⟨(some 36), (.mv (.tmp 6)), none⟩, .pure),
    (⟨(some 37), (.mv (.tmp 10)), none⟩, .pure),
    (⟨(some 38), (.bin .add (.tmp 36) (.tmp 37)), none⟩, .pure),
    (⟨(some 39), (.mv (.tmp 0)), none⟩, .pure),
    (⟨(some 40), (.mv (.tmp 6)), none⟩, .pure),
    (⟨(some 41), (.mv (.tmp 10)), none⟩, .pure),
    (⟨(some 42), (.bin .add (.tmp 40) (.tmp 41)), none⟩, .pure),
    (⟨(some 43), (.iaddr 1 (.tmp 39) (.tmp 42)), none⟩, (.read 0 0)),
    (⟨(some 44), (.load false 1 (.tmp 43)), none⟩, (.read 0 0)),
    (⟨(some 45), (.mv (.tmp 0)), none⟩, .pure),
    (⟨(some 46), (.mv (.tmp 6)), none⟩, .pure),
    (⟨(some 47), (.iaddr 1 (.tmp 45) (.tmp 46)), none⟩, (.read 0 0)),
    (⟨(some 48), (.load false 1 (.tmp 47)), none⟩, (.read 0 0)),
    (⟨(some 49), (.iaddr 1 (.tmp 33) (.tmp 34)), none⟩, (.read 0 0)),
    (⟨none, (.store 1 (.tmp 49) (.tmp 44)), none⟩, .eff)]
def r_f181_9t : List LOper :=
   [⟨(some 50), (.iaddr 1 (.tmp 35) (.tmp 38)), none⟩,
    ⟨none, (.store 1 (.tmp 50) (.tmp 48)), none⟩]
def r_f181_10 : List SOp :=
   [.op ⟨(some 51), (.mv (.tmp 0)), none⟩,
    .op ⟨(some 52), (.mv (.tmp 7)), none⟩,
    .op ⟨(some 53), (.mv (.tmp 10)), none⟩,
    .op ⟨(some 54), (.mv (.tmp 6)), none⟩,
    .op ⟨(some 55), (.call 192 [(.tmp 51), (.tmp 52), (.tmp 53), (.tmp 54)]), none⟩]
def r_f181_11 : List SOp :=
   [.op ⟨(some 31), (.mv (.tmp 10)), none⟩,
    .op ⟨(some 32), (.bin .sub (.tmp 31) (.av (.int .i64 1))), none⟩,
    .op ⟨(some 10), (.mv (.tmp 32)), none⟩]
def c_f181 : LFun := ⟨56, (.seq (.sreg r_f181_0 [true, false])
  (.seq (.sreg r_f181_1 [])
  (.seq (.sreg r_f181_2 [true, false, false, false])
  (.seq (.seq (.sreg r_f181_3 [true, false, false, false])
  (.block 0 (.loop (.seq (.seq (.sreg r_f181_4 [true, false])
  (.cond (.tmp 19) .skip
  (.exit 0)))
  (.seq (.block 1 (.sreg r_f181_5 [false, false, false, false, false]))
  (.sreg r_f181_6 [true, false, false]))))))
  (.seq (.sreg r_f181_7 [true, false, false])
  (.block 2 (.loop (.seq (.seq (.sreg r_f181_8 [true, false])
  (.cond (.tmp 30) .skip
  (.exit 2)))
  (.seq (.block 3 (.seq (.dregM r_f181_9 r_f181_9t [false, false, false, false, false, false, false, false, false, false, false, false, false, false, false, false, false, false])
  (.sreg r_f181_10 [false, false, false, false, false])))
  (.sreg r_f181_11 [true, false, false])))))))))), []⟩
def o_f181 : Nat → Nat → Nat := fun _ _ => 1
theorem c_f181_eq : lowF Tryz.prog o_f181 181 = some c_f181.raw := by kernel_rfl
theorem c_f181_ok : c_f181.code.okc = true := by kernel_rfl
/-! slices.breakPatternsOrdered[string] -/
def r_f182_0 : List SOp :=
   [.op ⟨(some 11), (.mv (.tmp 2)), none⟩,
    .op ⟨(some 12), (.mv (.tmp 1)), none⟩,
    .op ⟨(some 13), (.bin .sub (.tmp 11) (.tmp 12)), none⟩,
    .op ⟨(some 6), (.mv (.tmp 13)), none⟩]
def r_f182_1 : List SOp :=
   [.op ⟨(some 14), (.mv (.tmp 6)), none⟩,
    .op ⟨(some 15), (.bin .geq (.tmp 14) (.av (.int .i64 8))), none⟩]
def r_f182_2 : List SOp :=
   [.op ⟨(some 16), (.mv (.tmp 6)), none⟩,
    .op ⟨(some 17), (.conv .u64 (.tmp 16)), none⟩,
    .op ⟨(some 7), (.alloc [(.int .u64 0)]), none⟩,
    .op ⟨none, (.store 1 (.tmp 7) (.tmp 17)), none⟩]
def r_f182_3 : List SOp :=
   [.op ⟨(some 18), (.mv (.tmp 6)), none⟩,
    .op ⟨(some 19), (.call 172 [(.tmp 18)]), none⟩,
    .op ⟨(some 8), (.mv (.tmp 19)), none⟩]
def r_f182_4 : List SOp :=
   [.op ⟨(some 20), (.mv (.tmp 1)), none⟩,
    .op ⟨(some 21), (.mv (.tmp 6)), none⟩,
    .op ⟨(some 22), (.bin .quo (.tmp 21) (.av (.int .i64 4))), none⟩,
    .op ⟨(some 23), (.bin .mul (.tmp 22) (.av (.int .i64 2))), none⟩,
    .op ⟨(some 24), (.bin .add (.tmp 20) (.tmp 23)), none⟩,
    .op ⟨(some 25), (.bin .sub (.tmp 24) (.av (.int .i64 1))), none⟩,
    .op ⟨(some 9), (.mv (.tmp 25)), none⟩]
def r_f182_5 : List SOp :=
   [.op ⟨(some 26), (.mv (.tmp 9)), none⟩,
    .op ⟨(some 27), (.mv (.tmp 1)), none⟩,
    .op ⟨(some 28), (.mv (.tmp 6)), none⟩,
    .op ⟨(some 29), (.bin .quo (.tmp 28) (.av (.int .i64 4))), none⟩,
    .op ⟨(some 30), (.bin .mul (.tmp 29) (.av (.int .i64 2))), none⟩,
    .op ⟨(some 31), (.bin .add (.tmp 27) (.tmp 30)), none⟩,
    .op ⟨(some 32), (.bin .add (.tmp 31) (.av (.int .i64 1))), none⟩,
    .op ⟨(some 33), (.bin .leq (.tmp 26) (.tmp 32)), none⟩]
def r_f182_6 : List SOp :=
   [.op ⟨(some 36), (.call 173 [(.tmp 7)]), none⟩,
    .op ⟨(some 37), (.mv (.tmp 8)), none⟩,
    .op ⟨(some 38), (.bin .sub (.tmp 37) (.av (.int .u64 1))), none⟩,
    .op ⟨(some 39), (.bin .and (.tmp 36) (.tmp 38)), none⟩,
    .op ⟨(some 40), (.conv .i64 (.tmp 39)), none⟩,
    .op ⟨(some 10), (.mv (.tmp 40)), none⟩]
def r_f182_7 : List SOp :=
   [.op ⟨(some 41), (.mv (.tmp 10)), none⟩,
    .op ⟨(some 42), (.mv (.tmp 6)), none⟩,
    .op ⟨(some 43), (.bin .geq (.tmp 41) (.tmp 42)), none⟩]
def r_f182_8 : List SOp :=
   [.op ⟨(some 44), (.mv (.tmp 10)), none⟩,
    .op ⟨(some 45), (.mv (.tmp 6)), none⟩,
    .op ⟨(some 46), (.bin .sub (.tmp 44) (.tmp 45)), none⟩,
    .op ⟨(some 10), (.mv (.tmp 46)), none⟩]
def r_f182_9 : List (LOper × Kd) :=
   [(⟨(some 47), (.mv (.tmp 0)), none⟩, .pure),
    (⟨(some 48), (.mv (.tmp 9)), none⟩, .pure),
    (⟨(some 49), (.mv (.tmp 0)), none⟩, .pure),
    (⟨(some 50), (.mv (.tmp 1)), none⟩, .pure),
    (⟨(some 51), (.mv (.tmp 10)), none⟩, .pure),
    (⟨(some 52), (.bin .add (.tmp 50) (.tmp 51)), none⟩, .pure),
    (⟨(some 53), (.mv (.tmp 0)), none⟩, .pure),
    (⟨(some 54), (.mv (.tmp 1)), none⟩, .pure),
    (⟨(some 55), (.mv (.tmp 10)), none⟩, .pure),
    (⟨(some 56), (.bin .add (.tmp 54) (.tmp 55)), none⟩, .pure),
    (⟨(some 57), (.iaddr 1 (.tmp 53) (.tmp 56)), none⟩, (.read 0 0)),
    (⟨(some 58), (.load false 1 (.tmp 57)), none⟩, (.read 0 0)),
    (⟨(some 59), (.mv (.tmp 0)), none⟩, .pure),
    (⟨(some 60), (.mv (.tmp 9)), none⟩, .pure),
    (⟨(some 61), (.iaddr 1 (.tmp 59) (.tmp 60)), none⟩, (.read 0 0)),
    (⟨(some 62), (.load false 1 (.tmp 61)), none⟩, (.read 0 0)),
    (⟨(some 63), (.iaddr 1 (.tmp 47) (.tmp 48)), none⟩, (.read 0 0)),
    (⟨none, (.store 1 (.tmp 63) (.tmp 58)), none⟩, .eff)]
def r_f182_9t : List LOper :=
   [⟨(some 64), (.iaddr 1 (.tmp 49) (.tmp 52)), none⟩,
    ⟨none, (.store 1 (.tmp 64) (.tmp 62)), none⟩]
def r_f182_10 : List SOp :=
   [.op ⟨(some 34), (.mv (.tmp 9)), none⟩,
    .op ⟨(some 35), (.bin .add (.tmp 34) (.av (.int .i64 1))), none⟩,
    .op ⟨(some 9), (.mv (.tmp 35)), none⟩]
def c_f182 : LFun := ⟨65, (.seq (.sreg r_f182_0 [true, false, false, false])
  (.seq (.sreg r_f182_1 [true, false])
  (.cond (.tmp 15) (.seq (.sreg r_f182_2 [true, false, false])
  (.seq (.sreg r_f182_3 [true, false, false])
  (.seq (.sreg r_f182_4 [true, false, false, false, false, false, false])
  (.block 0 (.loop (.seq (.seq (.sreg r_f182_5 [true, false, false, false, false, false, false, false])
  (.cond (.tmp 33) .skip
  (.exit 0)))
  (.seq (.block 1 (.seq (.sreg r_f182_6 [true, false, false, false, false, false])
  (.seq (.seq (.sreg r_f182_7 [true, false, false])
  (.cond (.tmp 43) (.sreg r_f182_8 [true, false, false, false])
  .skip))
  (.dregM r_f182_9 r_f182_9t [false, false, false, false, false, false, false, false, false, false, false, false, false, false, false, false, false, false]))))
  (.sreg r_f182_10 [true, false, false]))))))))
  .skip))), []⟩
def o_f182 : Nat → Nat → Nat := fun _ _ => 1
theorem c_f182_eq : lowF Tryz.prog o_f182 182 = some c_f182.raw := by kernel_rfl
theorem c_f182_ok : c_f182.code.okc = true := by kernel_rfl
/-! slices.choosePivotOrdered[string] -/
def r_f183_0 : List SOp :=
   [.op ⟨(some 6), (.mv (.av (.int .i64 0))), none⟩,
    .op ⟨(some 7), (.mv (.av (.int .i64 0))), none⟩]
def r_f183_1 : List SOp :=
   [.op ⟨(some 13), (.mv (.tmp 2)), none⟩,
    .op ⟨(some 14), (.mv (.tmp 1)), none⟩,
    .op ⟨(some 15), (.bin .sub (.tmp 13) (.tmp 14)), none⟩,
    .op ⟨(some 8), (.mv (.tmp 15)), none⟩]
def r_f183_2 : List SOp :=
   [.op ⟨(some 9), (.alloc [(.int .i64 0)]), none⟩]
def r_f183_3 : List SOp :=
   [.op ⟨(some 16), (.mv (.tmp 1)), none⟩,
    .op ⟨(some 17), (.mv (.tmp 8)), none⟩,
    .op ⟨(some 18), (.bin .quo (.tmp 17) (.av (.int .i64 4))), none⟩,
    .op ⟨(some 19), (.bin .mul (.tmp 18) (.av (.int .i64 1))), none⟩,
    .op ⟨(some 20), (.bin .add (.tmp 16) (.tmp 19)), none⟩,
    .op ⟨(some 10), (.mv (.tmp 20)), none⟩]
def r_f183_4 : List SOp :=
   [.op ⟨(some 21), (.mv (.tmp 1)), none⟩,
    .op ⟨(some 22), (.mv (.tmp 8)), none⟩,
    .op ⟨(some 23), (.bin .quo (.tmp 22) (.av (.int .i64 4))), none⟩,
    .op ⟨(some 24), (.bin .mul (.tmp 23) (.av (.int .i64 2))), none⟩,
    .op ⟨(some 25), (.bin .add (.tmp 21) (.tmp 24)), none⟩,
    .op ⟨(some 11), (.mv (.tmp 25)), none⟩]
def r_f183_5 : List SOp :=
   [.op ⟨(some 26), (.mv (.tmp 1)), none⟩,
    .op ⟨(some 27), (.mv (.tmp 8)), none⟩,
    .op ⟨(some 28), (.bin .quo (.tmp 27) (.av (.int .i64 4))), none⟩,
    .op ⟨(some 29), (.bin .mul (.tmp 28) (.av (.int .i64 3))), none⟩,
    .op ⟨(some 30), (.bin .add (.tmp 26) (.tmp 29)), none⟩,
    .op ⟨(some 12), (.mv (.tmp 30)), none⟩]
def r_f183_6 : List SOp :=
   [.op ⟨(some 31), (.mv (.tmp 8)), none⟩,
    .op ⟨(some 32), (.bin .geq (.tmp 31) (.av (.int .i64 8))), none⟩]
def r_f183_7 : List SOp :=
   [.op ⟨(some 33), (.mv (.tmp 8)), none⟩,
    .op ⟨(some 34), (.bin .geq (.tmp 33) (.av (.int .i64 50))), none⟩]
def r_f183_8 : List SOp :=
   [.op ⟨(some 35), (.mv (.tmp 0)), none⟩,
    .op ⟨(some 36), (.mv (.tmp 10)), none⟩,
    .op ⟨(some 37), (.call 193 [(.tmp 35), (.tmp 36), (.tmp 9)]), none⟩,
    .op ⟨(some 10), (.mv (.tmp 37)), none⟩]
def r_f183_9 : List SOp :=
   [.op ⟨(some 38), (.mv (.tmp 0)), none⟩,
    .op ⟨(some 39), (.mv (.tmp 11)), none⟩,
    .op ⟨(some 40), (.call 193 [(.tmp 38), (.tmp 39), (.tmp 9)]), none⟩,
    .op ⟨(some 11), (.mv (.tmp 40)), none⟩]
def r_f183_10 : List SOp :=
   [.op ⟨(some 41), (.mv (.tmp 0)), none⟩,
    .op ⟨(some 42), (.mv (.tmp 12)), none⟩,
    .op ⟨(some 43), (.call 193 [(.tmp 41), (.tmp 42), (.tmp 9)]), none⟩,
    .op ⟨(some 12), (.mv (.tmp 43)), none⟩]
def r_f183_11 : List SOp :=
   [.op ⟨(some 44), (.mv (.tmp 0)), none⟩,
    .op ⟨(some 45), (.mv (.tmp 10)), none⟩,
    .op ⟨(some 46), (.mv (.tmp 11)), none⟩,
    .op ⟨(some 47), (.mv (.tmp 12)), none⟩,
    .op ⟨(some 48), (.call 194 [(.tmp 44), (.tmp 45), (.tmp 46), (.tmp 47), (.tmp 9)]), none⟩,
    .op ⟨(some 11), (.mv (.tmp 48)), none⟩]
def r_f183_12 : List SOp :=
   [.op ⟨(some 49), (.load false 1 (.tmp 9)), none⟩]
def r_f183_13 : List SOp :=
   [.op ⟨(some 52), (.bin .eql (.tmp 49) (.av (.int .i64 0))), none⟩,
    .op ⟨(some 51), (.mv (.tmp 52)), none⟩]
def r_f183_14 : List SOp :=
   [.op ⟨(some 53), (.mv (.tmp 11)), none⟩,
    .op ⟨(some 6), (.mv (.tmp 53)), none⟩,
    .op ⟨(some 7), (.mv (.av (.int .i64 1))), none⟩]
def r_f183_15 : List SOp :=
   [.op ⟨(some 55), (.bin .eql (.tmp 49) (.av (.int .i64 12))), none⟩,
    .op ⟨(some 54), (.mv (.tmp 55)), none⟩]
def r_f183_16 : List SOp :=
   [.op ⟨(some 56), (.mv (.tmp 11)), none⟩,
    .op ⟨(some 6), (.mv (.tmp 56)), none⟩,
    .op ⟨(some 7), (.mv (.av (.int .i64 2))), none⟩]
def r_f183_17 : List SOp :=
   [.op ⟨(some 50), (.mv (.tmp 11)), none⟩,
    .op ⟨(some 6), (.mv (.tmp 50)), none⟩,
    .op ⟨(some 7), (.mv (.av (.int .i64 0))), none⟩]
def c_f183 : LFun := ⟨57, (.seq (.sreg r_f183_0 [])
  (.seq (.sreg r_f183_1 [true, false, false, false])
  (.seq (.sreg r_f183_2 [])
  (.seq (.sreg r_f183_3 [true, false, false, false, false, false])
  (.seq (.sreg r_f183_4 [true, false, false, false, false, false])
  (.seq (.sreg r_f183_5 [true, false, false, false, false, false])
  (.seq (.seq (.sreg r_f183_6 [true, false])
  (.cond (.tmp 32) (.seq (.seq (.sreg r_f183_7 [true, false])
  (.cond (.tmp 34) (.seq (.sreg r_f183_8 [true, false, false, false])
  (.seq (.sreg r_f183_9 [true, false, false, false])
  (.sreg r_f183_10 [true, false, false, false])))
  .skip))
  (.sreg r_f183_11 [true, false, false, false, false, false]))
  .skip))
  (.seq (.sreg r_f183_12 [])
  (.block 0 (.seq (.sreg r_f183_13 [true, false])
  (.cond (.tmp 51) (.seq (.sreg r_f183_14 [true, true, false])
  .ret)
  (.seq (.sreg r_f183_15 [true, false])
  (.cond (.tmp 54) (.seq (.sreg r_f183_16 [true, true, false])
  .ret)
  (.seq (.sreg r_f183_17 [true, true, false])
  .ret)))))))))))))), [(.tmp 6), (.tmp 7)]⟩
def o_f183 : Nat → Nat → Nat := fun _ _ => 1
theorem c_f183_eq : lowF Tryz.prog o_f183 183 = some c_f183.raw := by kernel_rfl
theorem c_f183_ok : c_f183.code.okc = true := by kernel_rfl
/-! slices.reverseRangeOrdered[string] -/
def r_f184_0 : List SOp :=
   [.op ⟨(some 8), (.mv (.tmp 1)), none⟩,
    .op ⟨(some 6), (.mv (.tmp 8)), none⟩]
def r_f184_1 : List SOp :=
   [.op ⟨(some 9), (.mv (.tmp 2)), none⟩,
    .op ⟨(some 10), (.bin .sub (.tmp 9) (.av (.int .i64 1))), none⟩,
    .op ⟨(some 7), (.mv (.tmp 10)), none⟩]
def r_f184_2 : List SOp :=
   [.op ⟨(some 11), (.mv (.tmp 6)), none⟩,
    .op ⟨(some 12), (.mv (.tmp 7)), none⟩,
    .op ⟨(some 13), (.bin .lss (.tmp 11) (.tmp 12)), none⟩]
def r_f184_3 : List (LOper × Kd) :=
   [(⟨(some 14), (.mv (.tmp 0)), none⟩, .pure),
    (⟨(some 15), (.mv (.tmp 6)), none⟩, .pure),
    (⟨(some 16), (.mv (.tmp 0)), none⟩, .pure),
    (⟨(some 17), (.mv (.tmp 7)), none⟩, .pure),
    (⟨(some 18), (.mv (.tmp 0)), none⟩, .pure),
    (⟨(some 19), (.mv (.tmp 7)), none⟩, .pure),
    (⟨(some 20), (.iaddr 1 (.tmp 18) (.tmp 19)), none⟩, (.read 0 0)),
    (⟨(some 21), (.load false 1 (.tmp 20)), none⟩, (.read 0 0)),
    (⟨(some 22), (.mv (.tmp 0)), none⟩, .pure),
    (⟨(some 23), (.mv (.tmp 6)), none⟩, .pure),
    (⟨(some 24), (.iaddr 1 (.tmp 22) (.tmp 23)), none⟩, (.read 0 0)),
    (⟨(some 25), (.load false 1 (.tmp 24)), none⟩, (.read 0 0)),
    (⟨(some 26), (.iaddr 1 (.tmp 14) (.tmp 15)), none⟩, (.read 0 0)),
    (⟨none, (.store 1 (.tmp 26) (.tmp 21)), none⟩, .eff)]
def r_f184_3t : List LOper :=
   [⟨(some 27), (.iaddr 1 (.tmp 16) (.tmp 17)), none⟩,
    ⟨none, (.store 1 (.tmp 27) (.tmp 25)), none⟩]
def r_f184_4 : List SOp :=
   [.op ⟨(some 28), (.mv (.tmp 6)), none⟩,
    .op ⟨(some 29), (.bin .add (.tmp 28) (.av (.int .i64 1))), none⟩,
    .op ⟨(some 6), (.mv (.tmp 29)), none⟩]
def r_f184_5 : List SOp :=
   [.op ⟨(some 30), (.mv (.tmp 7)), none⟩,
    .op ⟨(some 31), (.bin .sub (.tmp 30) (.av (.int .i64 1))), none⟩,
    .op ⟨(some 7), (.mv (.tmp 31)), none⟩]
def c_f184 : LFun := ⟨32, (.seq (.sreg r_f184_0 [true, false])
  (.seq (.sreg r_f184_1 [true, false, false])
  (.block 0 (.loop (.seq (.seq (.sreg r_f184_2 [true, false, false])
  (.cond (.tmp 13) .skip
  (.exit 0)))
  (.block 1 (.seq (.dregM r_f184_3 r_f184_3t [false, false, false, false, false, false, false, false, false, false, false, false, false, false])
  (.seq (.sreg r_f184_4 [true, false, false])
  (.sreg r_f184_5 [true, false, false]))))))))), []⟩
def o_f184 : Nat → Nat → Nat := fun _ _ => 1
theorem c_f184_eq : lowF Tryz.prog o_f184 184 = some c_f184.raw := by kernel_rfl
theorem c_f184_ok : c_f184.code.okc = true := by kernel_rfl
/-! slices.partialInsertionSortOrdered[string] -/
def r_f185_0 : List SOp :=
   [.op ⟨(some 6), (.mv (.av (.bool false))), none⟩]
def r_f185_1 : List SOp :=
   [.op ⟨(some 11), (.mv (.tmp 1)), none⟩,
    .op ⟨(some 12), (.bin .add (.tmp 11) (.av (.int .i64 1))), none⟩,
    .op ⟨(some 7), (.mv (.tmp 12)), none⟩]
def r_f185_2 : List SOp :=
   [.op ⟨(some 8), (.mv (.av (.int .i64 0))), none⟩]
def r_f185_3 : List SOp :=
   [.op ⟨(some 13), (.mv (.tmp 8)), none⟩,
    .op ⟨(some 14), (.bin .lss (.tmp 13) (.av (.int .i64 5))), none⟩]
def r_f185_4 : List (LOper × Kd) :=
   [(⟨(some 17), (.mv (.tmp 7)), none⟩, .pure),
    (⟨(some 18), (.mv (.tmp 2)), none⟩, .pure),
    (⟨(some 19), (.bin .lss (.tmp 17) (.tmp 18)), none⟩, .pure),
    (⟨(some 20), (.mv (.tmp 19)), none⟩, .pure),
    (⟨(some 21), (.mv (.tmp 0)), (some (20, true))⟩, .pure),
    (⟨(some 22), (.mv (.tmp 7)), (some (20, true))⟩, .pure),
    (⟨(some 23), (.iaddr 1 (.tmp 21) (.tmp 22)), (some (20, true))⟩, (.read 0 0)),
    (⟨(some 24), (.load false 1 (.tmp 23)), (some (20, true))⟩, (.read 0 0)),
    (⟨(some 25), (.mv (.tmp 0)), (some (20, true))⟩, .pure),
    (⟨(some 26), (.mv (.tmp 7)), (some (20, true))⟩, .pure),
    (⟨(some 27), (.bin .sub (.tmp 26) (.av (.int .i64 1))), (some (20, true))⟩, .pure),
    (⟨(some 28), (.iaddr 1 (.tmp 25) (.tmp 27)), (some (20, true))⟩, (.read 0 0)),
    (⟨(some 29), (.load false 1 (.tmp 28)), (some (20, true))⟩, (.read 0 0))]
def r_f185_4t : List LOper :=
   [⟨(some 30), (.call 186 [(.tmp 24), (.tmp 29)]), (some (20, true))⟩,
    ⟨(some 31), (.un .not (.tmp 30)), (some (20, true))⟩,
    ⟨(some 32), (.pick (.tmp 20) (.tmp 31) (.av (.bool false))), none⟩]
def r_f185_5 : List SOp :=
   [.op ⟨(some 33), (.mv (.tmp 7)), none⟩,
    .op ⟨(some 34), (.bin .add (.tmp 33) (.av (.int .i64 1))), none⟩,
    .op ⟨(some 7), (.mv (.tmp 34)), none⟩]
def r_f185_6 : List SOp :=
   [.op ⟨(some 35), (.mv (.tmp 7)), none⟩,
    .op ⟨(some 36), (.mv (.tmp 2)), none⟩,
    .op ⟨(some 37), (.bin .eql (.tmp 35) (.tmp 36)), none⟩]
def r_f185_7 : List SOp :=
   [.op ⟨(some 6), (.mv (.av (.bool true))), none⟩]
def r_f185_8 : List SOp :=
   [.op ⟨(some 38), (.mv (.tmp 2)), none⟩,
    .op ⟨(some 39), (.mv (.tmp 1)), none⟩,
    .op ⟨(some 40), (.bin .sub (.tmp 38) (.tmp 39)), none⟩,
    .op ⟨(some 41), (.bin .lss (.tmp 40) (.av (.int .i64 50))), none⟩]
def r_f185_9 : List SOp :=
   [.op ⟨(some 6), (.mv (.av (.bool false))), none⟩]
def r_f185_10 : List (LOper × Kd) :=
   [(⟨(some 42), (.mv (.tmp 0)), none⟩, .pure),
    (⟨(some 43), (.mv (.tmp 7)), none⟩, .pure),
    (⟨(some 44), (.mv (.tmp 0)), none⟩, .pure),
    (⟨(some 45), (.mv (.tmp 7)), none⟩, .pure),
    (⟨(some 46), (.bin .sub (.tmp 45) (.av (.int .i64 1))), none⟩, .pure),
    (⟨(some 47), (.mv (.tmp 0)), none⟩, .pure),
    (⟨(some 48), (.mv (.tmp 7)), none⟩, .pure),
    (⟨(some 49), (.bin .sub (.tmp 48) (.av (.int .i64 1))), none⟩, .pure),
    (⟨(some 50), (.iaddr 1 (.tmp 47) (.tmp 49)), none⟩, (.read 0 0)),
    (⟨(some 51), (.load false 1 (.tmp 50)), none⟩, (.read 0 0)),
    (⟨(some 52), (.mv (.tmp 0)), none⟩, .pure),
    (⟨(some 53), (.mv (.tmp 7)), none⟩, .pure),
    (⟨(some 54), (.iaddr 1 (.tmp 52) (.tmp 53)), none⟩, (.read 0 0)),
    (⟨(some 55), (.load false 1 (.tmp 54)), none⟩, (.read 0 0)),
    (⟨(some 56), (.iaddr 1 (.tmp 42) (.tmp 43)), none⟩, (.read 0 0)),
    (⟨none, (.store 1 (.tmp 56) (.tmp 51)), none⟩, .eff)]
def r_f185_10t : List LOper :=
   [⟨(some 57), (.iaddr 1 (.tmp 44) (.tmp 46)), none⟩,
    ⟨none, (.store 1 (.tmp 57) (.tmp 55)), none⟩]
def r_f185_11 : List SOp :=
   [.op ⟨(some 58), (.mv (.tmp 7)), none⟩,
    .op ⟨(some 59), (.mv (.tmp 1)), none⟩,
    .op ⟨(some 60), (.bin .sub (.tmp 58) (.tmp 59)), none⟩,
    .op ⟨(some 61), (.bin .geq (.tmp 60) (.av (.int .i64 2))), none⟩]
def r_f185_12 : List SOp :=
   [.op ⟨(some 62), (.mv (.tmp 7)), none⟩,
    .op ⟨(some 63), (.bin .sub (.tmp 62) (.av (.int .i64 1))), none⟩,
    .op ⟨(some 9), (.mv (.tmp 63)), none⟩]
def r_f185_13 : List SOp :=
   [.op ⟨(some 64), (.mv (.tmp 9)), none⟩,
    .op ⟨(some 65), (.bin .geq (.tmp 64) (.av (.int .i64 1))), none⟩]
def r_f185_14 : List SOp :=
   [.op ⟨(some 68), (.mv (.tmp 0)), none⟩,
    .op ⟨(some 69), (.mv (.tmp 9)), none⟩,
    .op ⟨(some 70), (.iaddr 1 (.tmp 68) (.tmp 69)), none⟩,
    .op ⟨(some 71), (.load false 1 (.tmp 70)), none⟩,
    .op ⟨(some 72), (.mv (.tmp 0)), none⟩,
    .op ⟨(some 73), (.mv (.tmp 9)), none⟩,
    .op ⟨(some 74), (.bin .sub (.tmp 73) (.av (.int .i64 1))), none⟩,
    .op ⟨(some 75), (.iaddr 1 (.tmp 72) (.tmp 74)), none⟩,
    .op ⟨(some 76), (.load false 1 (.tmp 75)), none⟩,
    .op ⟨(some 77), (.call 186 [(.tmp 71), (.tmp 76)]), none⟩,
    .op ⟨(some 78), (.un .not (.tmp 77)), none⟩]
def r_f185_15 : List (LOper × Kd) :=
   [(⟨(some 79), (.mv (.tmp 0)), none⟩, .pure),
    (⟨(some 80), (.mv (.tmp 9)), none⟩, .pure),
    (⟨(some 81), (.mv (.tmp 0)), none⟩, .pure),
    (⟨(some 82), (.mv (.tmp 9)), none⟩, .pure),
    (⟨(some 83), (.bin .sub (.tmp 82) (.av (.int .i64 1))), none⟩, .pure),
    (⟨(some 84), (.mv (.tmp 0)), none⟩, .pure),
    (⟨(some 85), (.mv (.tmp 9)), none⟩, .pure),
    (⟨(some 86), (.bin .sub (.tmp 85) (.av (.int .i64 1))), none⟩, .pure),
    (⟨(some 87), (.iaddr 1 (.tmp 84) (.tmp 86)), none⟩, (.read 0 0)),
    (⟨(some 88), (.load false 1 (.tmp 87)), none⟩, (.read 0 0)),
    (⟨(some 89), (.mv (.tmp 0)), none⟩, .pure),
    (⟨(some 90), (.mv (.tmp 9)), none⟩, .pure),
    (⟨(some 91), (.iaddr 1 (.tmp 89) (.tmp 90)), none⟩, (.read 0 0)),
    (⟨(some 92), (.load false 1 (.tmp 91)), none⟩, (.read 0 0)),
    (⟨(some 93), (.iaddr 1 (.tmp 79) (.tmp 80)), none⟩, (.read 0 0)),
    (⟨none, (.store 1 (.tmp 93) (.tmp 88)), none⟩, .eff)]
def r_f185_15t : List LOper :=
   [⟨(some 94), (.iaddr 1 (.tmp 81) (.tmp 83)), none⟩,
    ⟨none, (.store 1 (.tmp 94) (.tmp 92)), none⟩]
def r_f185_16 : List SOp :=
   [.op ⟨(some 66), (.mv (.tmp 9)), none⟩,
    .op ⟨(some 67), (.bin .sub (.tmp 66) (.av (.int .i64 1))), none⟩,
    .op ⟨(some 9), (.mv (.tmp 67)), none⟩]
def r_f185_17 : List SOp :=
   [.op ⟨(some 95), (.mv (.tmp 2)), none⟩,
    .op ⟨(some 96), (.mv (.tmp 7)), none⟩,
    .op ⟨(some 97), (.bin .sub (.tmp 95) (.tmp 96)), none⟩,
    .op ⟨(some 98), (.bin .geq (.tmp 97) (.av (.int .i64 2))), none⟩]
def r_f185_18 : List SOp :=
   [.op ⟨(some 99), (.mv (.tmp 7)), none⟩,
    .op ⟨(some 100), (.bin .add (.tmp 99) (.av (.int .i64 1))), none⟩,
    .op ⟨(some 10), (.mv (.tmp 100)), none⟩]
def r_f185_19 : List SOp :=
   [.op ⟨(some 101), (.mv (.tmp 10)), none⟩,
    .op ⟨(some 102), (.mv (.tmp 2)), none⟩,
    .op ⟨(some 103), (.bin .lss (.tmp 101) (.tmp 102)), none⟩]
def r_f185_20 : List SOp :=
   [.op ⟨(some 106), (.mv (.tmp 0)), none⟩,
    .op ⟨(some 107), (.mv (.tmp 10)), none⟩,
    .op ⟨(some 108), (.iaddr 1 (.tmp 106) (.tmp 107)), none⟩,
    .op ⟨(some 109), (.load false 1 (.tmp 108)), none⟩,
    .op ⟨(some 110), (.mv (.tmp 0)), none⟩,
    .op ⟨(some 111), (.mv (.tmp 10)), none⟩,
    .op ⟨(some 112), (.bin .sub (.tmp 111) (.av (.int .i64 1))), none⟩,
    .op ⟨(some 113), (.iaddr 1 (.tmp 110) (.tmp 112)), none⟩,
    .op ⟨(some 114), (.load false 1 (.tmp 113)), none⟩,
    .op ⟨(some 115), (.call 186 [(.tmp 109), (.tmp 114)]), none⟩,
    .op ⟨(some 116), (.un .not (.tmp 115)), none⟩]
def r_f185_21 : List (LOper × Kd) :=
   [(⟨(some 117), (.mv (.tmp 0)), none⟩, .pure),
    (⟨(some 118), (.mv (.tmp 10)), none⟩, .pure),
    (⟨(some 119), (.mv (.tmp 0)), none⟩, .pure),
    (⟨(some 120), (.mv (.tmp 10)), none⟩, .pure),
    (⟨(some 121), (.bin .sub (.tmp 120) (.av (.int .i64 1))), none⟩, .pure),
    (⟨(some 122), (.mv (.tmp 0)), none⟩, .pure),
    (⟨(some 123), (.mv (.tmp 10)), none⟩, .pure),
    (⟨(some 124), (.bin .sub (.tmp 123) (.av (.int .i64 1))), none⟩, .pure),
    (⟨(some 125), (.iaddr 1 (.tmp 122) (.tmp 124)), none⟩, (.read 0 0)),
    (⟨(some 126), (.load false 1 (.tmp 125)), none⟩, (.read 0 0)),
    (⟨(some 127), (.mv (.tmp 0)), none⟩, .pure),
    (⟨(some 128), (.mv (.tmp 10)), none⟩, .pure),
    (⟨(some 129), (.iaddr 1 (.tmp 127) (.tmp 128)), none⟩, (.read 0 0)),
    (⟨(some 130), (.load false 1 (.tmp 129)), none⟩, (.read 0 0)),
    (⟨(some 131), (.iaddr 1 (.tmp 117) (.tmp 118)), none⟩, (.read 0 0)),
    (⟨none, (.store 1 (.tmp 131) (.tmp 126)), none⟩, .eff)]
def r_f185_21t : List LOper :=
   [⟨(some 132), (.iaddr 1 (.tmp 119) (.tmp 121)), none⟩,
    ⟨none, (.store 1 (.tmp 132) (.tmp 130)), none⟩]
def r_f185_22 : List SOp :=
   [.op ⟨(some 104), (.mv (.tmp 10)), none⟩,
    .op ⟨(some 105), (.bin .add (.tmp 104) (.av (.int .i64 1))), none⟩,
    .op ⟨(some 10), (.mv (.tmp 105)), none⟩]
def r_f185_23 : List SOp :=
   [.op ⟨(some 15), (.mv (.tmp 8)), none⟩,
    .op ⟨(some 16), (.bin .add (.tmp 15) (.av (.int .i64 1))), none⟩,
    .op ⟨(some 8), (.mv (.tmp 16)), none⟩]
def r_f185_24 : List SOp :=
   [.op ⟨(some 6), (.mv (.av (.bool false))), none⟩]
def c_f185 : LFun := ⟨133, (.seq (.sreg r_f185_0 [])
  (.seq (.sreg r_f185_1 [true, false, false])
  (.seq (.seq (.sreg r_f185_2 [])
  (.block 0 (.loop (.seq (.seq (.sreg r_f185_3 [true, false])
  (.cond (.tmp 14) .skip
  (.exit 0)))
  (.seq (.block 1 (.seq (.block 2 (.loop (.seq (.seq (.dregM r_f185_4 r_f185_4t [true, false, false, false, false, false, false, false, false, false, false, false, false, false, false, false])
  (.cond (.tmp 32) .skip
  (.exit 2)))
  (.block 3 (.sreg r_f185_5 [true, false, false])))))
  (.seq (.seq (.sreg r_f185_6 [true, false, false])
  (.cond (.tmp 37) (.seq (.sreg r_f185_7 [])
  .ret)
  .skip))
  (.seq (.seq (.sreg r_f185_8 [true, false, false, false])
  (.cond (.tmp 41) (.seq (.sreg r_f185_9 [])
  .ret)
  .skip))
  (.seq (.dregM r_f185_10 r_f185_10t [false, false, false, false, false, false, false, false, false, false, false, false, false, false, false, false])
  (.seq (.seq (.sreg r_f185_11 [true, false, false, false])
  (.cond (.tmp 61) (.seq (.sreg r_f185_12 [true, false, false])
  (.block 4 (.loop (.seq (.seq (.sreg r_f185_13 [true, false])
  (.cond (.tmp 65) .skip
  (.exit 4)))
  (.seq (.block 5 (.seq (.seq (.sdreg r_f185_14 [.pure, .pure, (.read 0 0), (.read 0 0), .pure, .pure, .pure, (.read 0 0), (.read 0 0)] [true, false, false, false, false, false, false, false, false, false, false])
  (.cond (.tmp 78) (.exit 4)
  .skip))
  (.dregM r_f185_15 r_f185_15t [false, false, false, false, false, false, false, false, false, false, false, false, false, false, false, false])))
  (.sreg r_f185_16 [true, false, false]))))))
  .skip))
  (.seq (.sreg r_f185_17 [true, false, false, false])
  (.cond (.tmp 98) (.seq (.sreg r_f185_18 [true, false, false])
  (.block 6 (.loop (.seq (.seq (.sreg r_f185_19 [true, false, false])
  (.cond (.tmp 103) .skip
  (.exit 6)))
  (.seq (.block 7 (.seq (.seq (.sdreg r_f185_20 [.pure, .pure, (.read 0 0), (.read 0 0), .pure, .pure, .pure, (.read 0 0), (.read 0 0)] [true, false, false, false, false, false, false, false, false, false, false])
  (.cond (.tmp 116) (.exit 6)
  .skip))
  (.dregM r_f185_21 r_f185_21t [false, false, false, false, false, false, false, false, false, false, false, false, false, false, false, false])))
  (.sreg r_f185_22 [true, false, false]))))))
  .skip))))))))
  (.sreg r_f185_23 [true, false, false]))))))
  (.seq (.sreg r_f185_24 [])
  .ret)))), [(.tmp 6)]⟩
def o_f185 : Nat → Nat → Nat := fun r i => if r = 5 ∧ i = 13 then 3 else if r = 16 ∧ i = 9 then 3 else if r = 22 ∧ i = 9 then 3 else 1
theorem c_f185_eq : lowF Tryz.prog o_f185 185 = some c_f185.raw := by kernel_rfl
theorem c_f185_ok : c_f185.code.okc = true := by kernel_rfl
/-! cmp.Less[string] -/
def r_f186_0 : List SOp :=
   [.op ⟨(some 4), (.mv (.av (.bool false))), none⟩]
def r_f186_1 : List SOp :=
   [.op ⟨(some 5), (.mv (.tmp 0)), none⟩,
    .op ⟨(some 6), (.call 195 [(.tmp 5)]), none⟩,
    .op ⟨(some 7), (.mv (.tmp 6)), none⟩,
    .op ⟨(some 8), (.mv (.tmp 1)), (some (7, true))⟩,
    .op ⟨(some 9), (.call 195 [(.tmp 8)]), (some (7, true))⟩,
    .op ⟨(some 10), (.un .not (.tmp 9)), (some (7, true))⟩,
    .op ⟨(some 11), (.pick (.tmp 7) (.tmp 10) (.av (.bool false))), none⟩,
    .op ⟨(some 12), (.mv (.tmp 11)), none⟩,
    .op ⟨(some 13), (.mv (.tmp 0)), (some (12, false))⟩,
    .op ⟨(some 14), (.mv (.tmp 1)), (some (12, false))⟩,
    .op ⟨(some 15), (.bin .lss (.tmp 13) (.tmp 14)), (some (12, false))⟩,
    .op ⟨(some 16), (.pick (.tmp 12) (.av (.bool true)) (.tmp 15)), none⟩,
    .op ⟨(some 4), (.mv (.tmp 16)), none⟩]
def c_f186 : LFun := ⟨17, (.seq (.sreg r_f186_0 [])
  (.seq (.sreg r_f186_1 [true, false, false, false, false, false, false, false, false, false, false, false, false])
  .ret)), [(.tmp 4)]⟩
def o_f186 : Nat → Nat → Nat := fun _ _ => 1
theorem c_f186_eq : lowF Tryz.prog o_f186 186 = some c_f186.raw := by kernel_rfl
theorem c_f186_ok : c_f186.code.okc = true := by kernel_rfl
/-! slices.partitionEqualOrdered[string] -/
def r_f187_0 : List SOp :=
   [.op ⟨(some 8), (.mv (.av (.int .i64 0))), none⟩]
def r_f187_1 : List (LOper × Kd) :=
   [(⟨(some 11), (.mv (.tmp 0)), none⟩, .pure),
    (⟨(some 12), (.mv (.tmp 1)), none⟩, .pure),
    (⟨(some 13), (.mv (.tmp 0)), none⟩, .pure),
    (⟨(some 14), (.mv (.tmp 3)), none⟩, .pure),
    (⟨(some 15), (.mv (.tmp 0)), none⟩, .pure),
    (⟨(some 16), (.mv (.tmp 3)), none⟩, .pure),
    (⟨(some 17), (.iaddr 1 (.tmp 15) (.tmp 16)), none⟩, (.read 0 0)),
    (⟨(some 18), (.load false 1 (.tmp 17)), none⟩, (.read 0 0)),
    (⟨(some 19), (.mv (.tmp 0)), none⟩, .pure),
    (⟨(some 20), (.mv (.tmp 1)), none⟩, .pure),
    (⟨(some 21), (.iaddr 1 (.tmp 19) (.tmp 20)), none⟩, (.read 0 0)),
    (⟨(some 22), (.load false 1 (.tmp 21)), none⟩, (.read 0 0)),
    (⟨(some 23), (.iaddr 1 (.tmp 11) (.tmp 12)), none⟩, (.read 0 0)),
    (⟨none, (.store 1 (.tmp 23) (.tmp 18)), none⟩, .eff)]
def r_f187_1t : List LOper :=
   [⟨(some 24), (.iaddr 1 (.tmp 13) (.tmp 14)), none⟩,
    ⟨none, (.store 1 (.tmp 24) (.tmp 22)), none⟩]
def r_f187_2 : List SOp :=
   [.op ⟨(some 25), (.mv (.tmp 1)), none⟩,
    .op ⟨(some 26), (.bin .add (.tmp 25) (.av (.int .i64 1))), none⟩,
    .op ⟨(some 27), (.mv (.tmp 2)), none⟩,
    .op ⟨(some 28), (.bin .sub (.tmp 27) (.av (.int .i64 1))), none⟩,
    .op ⟨(some 9), (.mv (.tmp 26)), none⟩,
    .op ⟨(some 10), (.mv (.tmp 28)), none⟩]
def r_f187_3 : List (LOper × Kd) :=
   [(⟨(some 29), (.mv (.tmp 9)), none⟩, .pure),
    (⟨(some 30), (.mv (.tmp 10)), none⟩, .pure),
    (⟨(some 31), (.bin .leq (.tmp 29) (.tmp 30)), none⟩, .pure),
    (⟨(some 32), (.mv (.tmp 31)), none⟩, .pure),
    (⟨(some 33), (.mv (.tmp 0)), (some (32, true))⟩, .pure),
    (⟨(some 34), (.mv (.tmp 1)), (some (32, true))⟩, .pure),
    (⟨(some 35), (.iaddr 1 (.tmp 33) (.tmp 34)), (some (32, true))⟩, (.read 0 0)),
    (⟨(some 36), (.load false 1 (.tmp 35)), (some (32, true))⟩, (.read 0 0)),
    (⟨(some 37), (.mv (.tmp 0)), (some (32, true))⟩, .pure),
    (⟨(some 38), (.mv (.tmp 9)), (some (32, true))⟩, .pure),
    (⟨(some 39), (.iaddr 1 (.tmp 37) (.tmp 38)), (some (32, true))⟩, (.read 0 0)),
    (⟨(some 40), (.load false 1 (.tmp 39)), (some (32, true))⟩, (.read 0 0))]
def r_f187_3t : List LOper :=
   [⟨(some 41), (.call 186 [(.tmp 36), (.tmp 40)]), (some (32, true))⟩,
    ⟨(some 42), (.un .not (.tmp 41)), (some (32, true))⟩,
    ⟨(some 43), (.pick (.tmp 32) (.tmp 42) (.av (.bool false))), none⟩]
def r_f187_4 : List SOp :=
   [.op ⟨(some 44), (.mv (.tmp 9)), none⟩,
    .op ⟨(some 45), (.bin .add (.tmp 44) (.av (.int .i64 1))), none⟩,
    .op ⟨(some 9), (.mv (.tmp 45)), none⟩]
def r_f187_5 : List (LOper × Kd) :=
   [(⟨(some 46), (.mv (.tmp 9)), none⟩, .pure),
    (⟨(some 47), (.mv (.tmp 10)), none⟩, .pure),
    (⟨(some 48), (.bin .leq (.tmp 46) (.tmp 47)), none⟩, .pure),
    (⟨(some 49), (.mv (.tmp 48)), none⟩, .pure),
    (⟨(some 50), (.mv (.tmp 0)), (some (49, true))⟩, .pure),
    (⟨(some 51), (.mv (.tmp 1)), (some (49, true))⟩, .pure),
    (⟨(some 52), (.iaddr 1 (.tmp 50) (.tmp 51)), (some (49, true))⟩, (.read 0 0)),
    (⟨(some 53), (.load false 1 (.tmp 52)), (some (49, true))⟩, (.read 0 0)),
    (⟨(some 54), (.mv (.tmp 0)), (some (49, true))⟩, .pure),
    (⟨(some 55), (.mv (.tmp 10)), (some (49, true))⟩, .pure),
    (⟨(some 56), (.iaddr 1 (.tmp 54) (.tmp 55)), (some (49, true))⟩, (.read 0 0)),
    (⟨(some 57), (.load false 1 (.tmp 56)), (some (49, true))⟩, (.read 0 0))]
def r_f187_5t : List LOper :=
   [⟨(some 58), (.call 186 [(.tmp 53), (.tmp 57)]), (some (49, true))⟩,
    ⟨(some 59), (.pick (.tmp 49) (.tmp 58) (.av (.bool false))), none⟩]
def r_f187_6 : List SOp :=
   [.op ⟨(some 60), (.mv (.tmp 10)), none⟩,
    .op ⟨(some 61), (.bin .sub (.tmp 60) (.av (.int .i64 1))), none⟩,
    .op ⟨(some 10), (.mv (.tmp 61)), none⟩]
def r_f187_7 : List SOp :=
   [.op ⟨(some 62), (.mv (.tmp 9)), none⟩,
    .op ⟨(some 63), (.mv (.tmp 10)), none⟩,
    .op ⟨(some 64), (.bin .gtr (.tmp 62) (.tmp 63)), none⟩]
def r_f187_8 : List (LOper × Kd) :=
   [(⟨(some 65), (.mv (.tmp 0)), none⟩, .pure),
    (⟨(some 66), (.mv (.tmp 9)), none⟩, .pure),
    (⟨(some 67), (.mv (.tmp 0)), none⟩, .pure),
    (⟨(some 68), (.mv (.tmp 10)), none⟩, .pure),
    (⟨(some 69), (.mv (.tmp 0)), none⟩, .pure),
    (⟨(some 70), (.mv (.tmp 10)), none⟩, .pure),
    (⟨(some 71), (.iaddr 1 (.tmp 69) (.tmp 70)), none⟩, (.read 0 0)),
    (⟨(some 72), (.load false 1 (.tmp 71)), none⟩, (.read 0 0)),
    (⟨(some 73), (.mv (.tmp 0)), none⟩, .pure),
    (⟨(some 74), (.mv (.tmp 9)), none⟩, .pure),
    (⟨(some 75), (.iaddr 1 (.tmp 73) (.tmp 74)), none⟩, (.read 0 0)),
    (⟨(some 76), (.load false 1 (.tmp 75)), none⟩, (.read 0 0)),
    (⟨(some 77), (.iaddr 1 (.tmp 65) (.tmp 66)), none⟩, (.read 0 0)),
    (⟨none, (.store 1 (.tmp 77) (.tmp 72)), none⟩, .eff)]
def r_f187_8t : List LOper :=
   [⟨(some 78), (.iaddr 1 (.tmp 67) (.tmp 68)), none⟩,
    ⟨none, (.store 1 (.tmp 78) (.tmp 76)), none⟩]
def r_f187_9 : List SOp :=
   [.op ⟨(some 79), (.mv (.tmp 9)), none⟩,
    .op ⟨(some 80), (.bin .add (.tmp 79) (.av (.int .i64 1))), none⟩,
    .op ⟨(some 9), (.mv (.tmp 80)), none⟩]
def r_f187_10 : List SOp :=
   [.op ⟨(some 81), (.mv (.tmp 10)), none⟩,
    .op ⟨(some 82), (.bin .sub (.tmp 81) (.av (.int .i64 1))), none⟩,
    .op ⟨(some 10), (.mv (.tmp 82)), none⟩]
def r_f187_11 : List SOp :=
   [.op ⟨(some 83), (.mv (.tmp 9)), none⟩,
    .op ⟨(some 8), (.mv (.tmp 83)), none⟩]
def c_f187 : LFun := ⟨84, (.seq (.sreg r_f187_0 [])
  (.seq (.dregM r_f187_1 r_f187_1t [false, false, false, false, false, false, false, false, false, false, false, false, false, false])
  (.seq (.sreg r_f187_2 [true, true, false, false, false, false])
  (.seq (.block 0 (.loop (.block 1 (.seq (.block 2 (.loop (.seq (.seq (.dregM r_f187_3 r_f187_3t [true, false, false, false, false, false, false, false, false, false, false, false, false, false, false])
  (.cond (.tmp 43) .skip
  (.exit 2)))
  (.block 3 (.sreg r_f187_4 [true, false, false])))))
  (.seq (.block 4 (.loop (.seq (.seq (.dregM r_f187_5 r_f187_5t [true, false, false, false, false, false, false, false, false, false, false, false, false, false])
  (.cond (.tmp 59) .skip
  (.exit 4)))
  (.block 5 (.sreg r_f187_6 [true, false, false])))))
  (.seq (.seq (.sreg r_f187_7 [true, false, false])
  (.cond (.tmp 64) (.exit 0)
  .skip))
  (.seq (.dregM r_f187_8 r_f187_8t [false, false, false, false, false, false, false, false, false, false, false, false, false, false])
  (.seq (.sreg r_f187_9 [true, false, false])
  (.sreg r_f187_10 [true, false, false])))))))))
  (.seq (.sreg r_f187_11 [true, false])
  .ret))))), [(.tmp 8)]⟩
def o_f187 : Nat → Nat → Nat := fun r i => if r = 3 ∧ i = 12 then 3 else if r = 5 ∧ i = 12 then 3 else 1
theorem c_f187_eq : lowF Tryz.prog o_f187 187 = some c_f187.raw := by kernel_rfl
theorem c_f187_ok : c_f187.code.okc = true := by kernel_rfl
/-! slices.partitionOrdered[string] -/
def r_f188_0 : List SOp :=
   [.op ⟨(some 8), (.mv (.av (.int .i64 0))), none⟩,
    .op ⟨(some 9), (.mv (.av (.bool false))), none⟩]
def r_f188_1 : List (LOper × Kd) :=
   [(⟨(some 12), (.mv (.tmp 0)), none⟩, .pure),
    (⟨(some 13), (.mv (.tmp 1)), none⟩, .pure),
    (⟨(some 14), (.mv (.tmp 0)), none⟩, .pure),
    (⟨(some 15), (.mv (.tmp 3)), none⟩, .pure),
    (⟨(some 16), (.mv (.tmp 0)), none⟩, .pure),
    (⟨(some 17), (.mv (.tmp 3)), none⟩, .pure),
    (⟨(some 18), (.iaddr 1 (.tmp 16) (.tmp 17)), none⟩, (.read 0 0)),
    (⟨(some 19), (.load false 1 (.tmp 18)), none⟩, (.read 0 0)),
    (⟨(some 20), (.mv (.tmp 0)), none⟩, .pure),
    (⟨(some 21), (.mv (.tmp 1)), none⟩, .pure),
    (⟨(some 22), (.iaddr 1 (.tmp 20) (.tmp 21)), none⟩, (.read 0 0)),
    (⟨(some 23), (.load false 1 (.tmp 22)), none⟩, (.read 0 0)),
    (⟨(some 24), (.iaddr 1 (.tmp 12) (.tmp 13)), none⟩, (.read 0 0)),
    (⟨none, (.store 1 (.tmp 24) (.tmp 19)), none⟩, .eff)]
def r_f188_1t : List LOper :=
   [⟨(some 25), (.iaddr 1 (.tmp 14) (.tmp 15)), none⟩,
    ⟨none, (.store 1 (.tmp 25) (.tmp 23)), none⟩]
def r_f188_2 : List SOp :=
   [.op ⟨(some 26), (.mv (.tmp 1)), none⟩,
    .op ⟨(some 27), (.bin .add (.tmp 26) (.av (.int .i64 1))), none⟩,
    .op ⟨(some 28), (.mv (.tmp 2)), none⟩,
    .op ⟨(some 29), (.bin .sub (.tmp 28) (.av (.int .i64 1))), none⟩,
    .op ⟨(some 10), (.mv (.tmp 27)), none⟩,
    .op ⟨(some 11), (.mv (.tmp 29)), none⟩]
def r_f188_3 : List (LOper × Kd) :=
   [(⟨(some 30), (.mv (.tmp 10)), none⟩, .pure),
    (⟨(some 31), (.mv (.tmp 11)), none⟩, .pure),
    (⟨(some 32), (.bin .leq (.tmp 30) (.tmp 31)), none⟩, .pure),
    (⟨(some 33), (.mv (.tmp 32)), none⟩, .pure),
    (⟨(some 34), (.mv (.tmp 0)), (some (33, true))⟩, .pure),
    (⟨(some 35), (.mv (.tmp 10)), (some (33, true))⟩, .pure),
    (⟨(some 36), (.iaddr 1 (.tmp 34) (.tmp 35)), (some (33, true))⟩, (.read 0 0)),
    (⟨(some 37), (.load false 1 (.tmp 36)), (some (33, true))⟩, (.read 0 0)),
    (⟨(some 38), (.mv (.tmp 0)), (some (33, true))⟩, .pure),
    (⟨(some 39), (.mv (.tmp 1)), (some (33, true))⟩, .pure),
    (⟨(some 40), (.iaddr 1 (.tmp 38) (.tmp 39)), (some (33, true))⟩, (.read 0 0)),
    (⟨(some 41), (.load false 1 (.tmp 40)), (some (33, true))⟩, (.read 0 0))]
def r_f188_3t : List LOper :=
   [⟨(some 42), (.call 186 [(.tmp 37), (.tmp 41)]), (some (33, true))⟩,
    ⟨(some 43), (.pick (.tmp 33) (.tmp 42) (.av (.bool false))), none⟩]
def r_f188_4 : List SOp :=
   [.op ⟨(some 44), (.mv (.tmp 10)), none⟩,
    .op ⟨(some 45), (.bin .add (.tmp 44) (.av (.int .i64 1))), none⟩,
    .op ⟨(some 10), (.mv (.tmp 45)), none⟩]
def r_f188_5 : List (LOper × Kd) :=
   [(⟨(some 46), (.mv (.tmp 10)), none⟩, .pure),
    (⟨(some 47), (.mv (.tmp 11)), none⟩, .pure),
    (⟨(some 48), (.bin .leq (.tmp 46) (.tmp 47)), none⟩, .pure),
    (⟨(some 49), (.mv (.tmp 48)), none⟩, .pure),
    (⟨(some 50), (.mv (.tmp 0)), (some (49, true))⟩, .pure),
    (⟨(some 51), (.mv (.tmp 11)), (some (49, true))⟩, .pure),
    (⟨(some 52), (.iaddr 1 (.tmp 50) (.tmp 51)), (some (49, true))⟩, (.read 0 0)),
    (⟨(some 53), (.load false 1 (.tmp 52)), (some (49, true))⟩, (.read 0 0)),
    (⟨(some 54), (.mv (.tmp 0)), (some (49, true))⟩, .pure),
    (⟨(some 55), (.mv (.tmp 1)), (some (49, true))⟩, .pure),
    (⟨(some 56), (.iaddr 1 (.tmp 54) (.tmp 55)), (some (49, true))⟩, (.read 0 0)),
    (⟨(some 57), (.load false 1 (.tmp 56)), (some (49, true))⟩, (.read 0 0))]
def r_f188_5t : List LOper :=
   [⟨(some 58), (.call 186 [(.tmp 53), (.tmp 57)]), (some (49, true))⟩,
    ⟨(some 59), (.un .not (.tmp 58)), (some (49, true))⟩,
    ⟨(some 60), (.pick (.tmp 49) (.tmp 59) (.av (.bool false))), none⟩]
def r_f188_6 : List SOp :=
   [.op ⟨(some 61), (.mv (.tmp 11)), none⟩,
    .op ⟨(some 62), (.bin .sub (.tmp 61) (.av (.int .i64 1))), none⟩,
    .op ⟨(some 11), (.mv (.tmp 62)), none⟩]
def r_f188_7 : List SOp :=
   [.op ⟨(some 63), (.mv (.tmp 10)), none⟩,
    .op ⟨(some 64), (.mv (.tmp 11)), none⟩,
    .op ⟨(some 65), (.bin .gtr (.tmp 63) (.tmp 64)), none⟩]
def r_f188_8 : List (LOper × Kd) :=
   [(⟨(some 66), (.mv (.tmp 0)), none⟩, .pure),
    (⟨(some 67), (.mv (.tmp 11)), none⟩, .pure),
    (⟨(some 68), (.mv (.tmp 0)), none⟩, .pure),
    (⟨(some 69), (.mv (.tmp 1)), none⟩, .pure),
    (⟨(some 70), (.mv (.tmp 0)), none⟩, .pure),
    (⟨(some 71), (.mv (.tmp 1)), none⟩, .pure),
    (⟨(some 72), (.iaddr 1 (.tmp 70) (.tmp 71)), none⟩, (.read 0 0)),
    (⟨(some 73), (.load false 1 (.tmp 72)), none⟩, (.read 0 0)),
    (⟨(some 74), (.mv (.tmp 0)), none⟩, .pure),
    (⟨(some 75), (.mv (.tmp 11)), none⟩, .pure),
    (⟨(some 76), (.iaddr 1 (.tmp 74) (.tmp 75)), none⟩, (.read 0 0)),
    (⟨(some 77), (.load false 1 (.tmp 76)), none⟩, (.read 0 0)),
    (⟨(some 78), (.iaddr 1 (.tmp 66) (.tmp 67)), none⟩, (.read 0 0)),
    (⟨none, (.store 1 (.tmp 78) (.tmp 73)), none⟩, .eff)]
def r_f188_8t : List LOper :=
   [⟨(some 79), (.iaddr 1 (.tmp 68) (.tmp 69)), none⟩,
    ⟨none, (.store 1 (.tmp 79) (.tmp 77)), none⟩]
def r_f188_9 : List SOp :=
   [.op ⟨(some 80), (.mv (.tmp 11)), none⟩,
    .op ⟨(some 8), (.mv (.tmp 80)), none⟩,
    .op ⟨(some 9), (.mv (.av (.bool true))), none⟩]
def r_f188_10 : List (LOper × Kd) :=
   [(⟨(some 81), (.mv (.tmp 0)), none⟩, .pure),
    (⟨(some 82), (.mv (.tmp 10)), none⟩, .pure),
    (⟨(some 83), (.mv (.tmp 0)), none⟩, .pure),
    (⟨(some 84), (.mv (.tmp 11)), none⟩, .pure),
    (⟨(some 85), (.mv (.tmp 0)), none⟩, .pure),
    (⟨(some 86), (.mv (.tmp 11)), none⟩, .pure),
    (⟨(some 87), (.iaddr 1 (.tmp 85) (.tmp 86)), none⟩, (.read 0 0)),
    (⟨(some 88), (.load false 1 (.tmp 87)), none⟩, (.read 0 0)),
    (⟨(some 89), (.mv (.tmp 0)), none⟩, .pure),
    (⟨(some 90), (.mv (.tmp 10)), none⟩, .pure),
    (⟨(some 91), (.iaddr 1 (.tmp 89) (.tmp 90)), none⟩, (.read 0 0)),
    (⟨(some 92), (.load false 1 (.tmp 91)), none⟩, (.read 0 0)),
    (⟨(some 93), (.iaddr 1 (.tmp 81) (.tmp 82)), none⟩, (.read 0 0)),
    (⟨none, (.store 1 (.tmp 93) (.tmp 88)), none⟩, .eff)]
def r_f188_10t : List LOper :=
   [⟨(some 94), (.iaddr 1 (.tmp 83) (.tmp 84)), none⟩,
    ⟨none, (.store 1 (.tmp 94) (.tmp 92)), none⟩]
def r_f188_11 : List SOp :=
   [.op ⟨(some 95), (.mv (.tmp 10)), none⟩,
    .op ⟨(some 96), (.bin .add (.tmp 95) (.av (.int .i64 1))), none⟩,
    .op ⟨(some 10), (.mv (.tmp 96)), none⟩]
def r_f188_12 : List SOp :=
   [.op ⟨(some 97), (.mv (.tmp 11)), none⟩,
    .op ⟨(some 98), (.bin .sub (.tmp 97) (.av (.int .i64 1))), none⟩,
    .op ⟨(some 11), (.mv (.tmp 98)), none⟩]
def r_f188_13 : List (LOper × Kd) :=
   [(⟨(some 99), (.mv (.tmp 10)), none⟩, .pure),
    (⟨(some 100), (.mv (.tmp 11)), none⟩, .pure),
    (⟨(some 101), (.bin .leq (.tmp 99) (.tmp 100)), none⟩, .pure),
    (⟨(some 102), (.mv (.tmp 101)), none⟩, .pure),
    (⟨(some 103), (.mv (.tmp 0)), (some (102, true))⟩, .pure),
    (⟨(some 104), (.mv (.tmp 10)), (some (102, true))⟩, .pure),
    (⟨(some 105), (.iaddr 1 (.tmp 103) (.tmp 104)), (some (102, true))⟩, (.read 0 0)),
    (⟨(some 106), (.load false 1 (.tmp 105)), (some (102, true))⟩, (.read 0 0)),
    (⟨(some 107), (.mv (.tmp 0)), (some (102, true))⟩, .pure),
    (⟨(some 108), (.mv (.tmp 1)), (some (102, true))⟩, .pure),
    (⟨(some 109), (.iaddr 1 (.tmp 107) (.tmp 108)), (some (102, true))⟩, (.read 0 0)),
    (⟨(some 110), (.load false 1 (.tmp 109)), (some (102, true))⟩, (.read 0 0))]
def r_f188_13t : List LOper :=
   [⟨(some 111), (.call 186 [(.tmp 106), (.tmp 110)]), (some (102, true))⟩,
    ⟨(some 112), (.pick (.tmp 102) (.tmp 111) (.av (.bool false))), none⟩]
def r_f188_14 : List SOp :=
   [.op ⟨(some 113), (.mv (.tmp 10)), none⟩,
    .op ⟨(some 114), (.bin .add (.tmp 113) (.av (.int .i64 1))), none⟩,
    .op ⟨(some 10), (.mv (.tmp 114)), none⟩]
def r_f188_15 : List (LOper × Kd) :=
   [(⟨(some 115), (.mv (.tmp 10)), none⟩, .pure),
    (⟨(some 116), (.mv (.tmp 11)), none⟩, .pure),
    (⟨(some 117), (.bin .leq (.tmp 115) (.tmp 116)), none⟩, .pure),
    (⟨(some 118), (.mv (.tmp 117)), none⟩, .pure),
    (⟨(some 119), (.mv (.tmp 0)), (some (118, true))⟩, .pure),
    (⟨(some 120), (.mv (.tmp 11)), (some (118, true))⟩, .pure),
    (⟨(some 121), (.iaddr 1 (.tmp 119) (.tmp 120)), (some (118, true))⟩, (.read 0 0)),
    (⟨(some 122), (.load false 1 (.tmp 121)), (some (118, true))⟩, (.read 0 0)),
    (⟨(some 123), (.mv (.tmp 0)), (some (118, true))⟩, .pure),
    (⟨(some 124), (.mv (.tmp 1)), (some (118, true))⟩, .pure),
    (⟨(some 125), (.iaddr 1 (.tmp 123) (.tmp 124)), (some (118, true))⟩, (.read 0 0)),
    (⟨(some 126), (.load false 1 (.tmp 125)), (some (118, true))⟩, (.read 0 0))]
def r_f188_15t : List LOper :=
   [⟨(some 127), (.call 186 [(.tmp 122), (.tmp 126)]), (some (118, true))⟩,
    ⟨(some 128), (.un .not (.tmp 127)), (some (118, true))⟩,
    ⟨(some 129), (.pick (.tmp 118) (.tmp 128) (.av (.bool false))), none⟩]
def r_f188_16 : List SOp :=
   [.op ⟨(some 130), (.mv (.tmp 11)), none⟩,
    .op ⟨(some 131), (.bin .sub (.tmp 130) (.av (.int .i64 1))), none⟩,
    .op ⟨(some 11), (.mv (.tmp 131)), none⟩]
def r_f188_17 : List SOp :=
   [.op ⟨(some 132), (.mv (.tmp 10)), none⟩,
    .op ⟨(some 133), (.mv (.tmp 11)), none⟩,
    .op ⟨(some 134), (.bin .gtr (.tmp 132) (.tmp 133)), none⟩]
def r_f188_18 : List (LOper × Kd) :=
   [(⟨(some 135), (.mv (.tmp 0)), none⟩, .pure),
    (⟨(some 136), (.mv (.tmp 10)), none⟩, .pure),
    (⟨(some 137), (.mv (.tmp 0)), none⟩, .pure),
    (⟨(some 138), (.mv (.tmp 11)), none⟩, .pure),
    (⟨(some 139), (.mv (.tmp 0)), none⟩, .pure),
    (⟨(some 140), (.mv (.tmp 11)), none⟩, .pure),
    (⟨(some 141), (.iaddr 1 (.tmp 139) (.tmp 140)), none⟩, (.read 0 0)),
    (⟨(some 142), (.load false 1 (.tmp 141)), none⟩, (.read 0 0)),
    (⟨(some 143), (.mv (.tmp 0)), none⟩, .pure),
    (⟨(some 144), (.mv (.tmp 10)), none⟩, .pure),
    (⟨(some 145), (.iaddr 1 (.tmp 143) (.tmp 144)), none⟩, (.read 0 0)),
    (⟨(some 146), (.load false 1 (.tmp 145)), none⟩, (.read 0 0)),
    (⟨(some 147), (.iaddr 1 (.tmp 135) (.tmp 136)), none⟩, (.read 0 0)),
    (⟨none, (.store 1 (.tmp 147) (.tmp 142)), none⟩, .eff)]
def r_f188_18t : List LOper :=
   [⟨(some 148), (.iaddr 1 (.tmp 137) (.tmp 138)), none⟩,
    ⟨none, (.store 1 (.tmp 148) (.tmp 146)), none⟩]
def r_f188_19 : List SOp :=
   [.op ⟨(some 149), (.mv (.tmp 10)), none⟩,
    .op ⟨(some 150), (.bin .add (.tmp 149) (.av (.int .i64 1))), none⟩,
    .op ⟨(some 10), (.mv (.tmp 150)), none⟩]
def r_f188_20 : List SOp :=
   [.op ⟨(some 151), (.mv (.tmp 11)), none⟩,
    .op ⟨(some 152), (.bin .sub (.tmp 151) (.av (.int .i64 1))), none⟩,
    .op ⟨(some 11), (.mv (.tmp 152)), none⟩]
def r_f188_21 : List (LOper × Kd) :=
   [(⟨(some 153), (.mv (.tmp 0)), none⟩, .pure),
    (⟨(some 154), (.mv (.tmp 11)), none⟩, .pure),
    (⟨(some 155), (.mv (.tmp 0)), none⟩, .pure),
    (⟨(some 156), (.mv (.tmp 1)), none⟩, .pure),
    (⟨(some 157), (.mv (.tmp 0)), none⟩, .pure),
    (⟨(some 158), (.mv (.tmp 1)), none⟩, .pure),
    (⟨(some 159), (.iaddr 1 (.tmp 157) (.tmp 158)), none⟩, (.read 0 0)),
    (⟨(some 160), (.load false 1 (.tmp 159)), none⟩, (.read 0 0)),
    (⟨(some 161), (.mv (.tmp 0)), none⟩, .pure),
    (⟨(some 162), (.mv (.tmp 11)), none⟩, .pure),
    (⟨(some 163), (.iaddr 1 (.tmp 161) (.tmp 162)), none⟩, (.read 0 0)),
    (⟨(some 164), (.load false 1 (.tmp 163)), none⟩, (.read 0 0)),
    (⟨(some 165), (.iaddr 1 (.tmp 153) (.tmp 154)), none⟩, (.read 0 0)),
    (⟨none, (.store 1 (.tmp 165) (.tmp 160)), none⟩, .eff)]
def r_f188_21t : List LOper :=
   [⟨(some 166), (.iaddr 1 (.tmp 155) (.tmp 156)), none⟩,
    ⟨none, (.store 1 (.tmp 166) (.tmp 164)), none⟩]
def r_f188_22 : List SOp :=
   [.op ⟨(some 167), (.mv (.tmp 11)), none⟩,
    .op ⟨(some 8), (.mv (.tmp 167)), none⟩,
    .op ⟨(some 9), (.mv (.av (.bool false))), none⟩]
def c_f188 : LFun := ⟨168, (.seq (.sreg r_f188_0 [])
  (.seq (.dregM r_f188_1 r_f188_1t [false, false, false, false, false, false, false, false, false, false, false, false, false, false])
  (.seq (.sreg r_f188_2 [true, true, false, false, false, false])
  (.seq (.block 0 (.loop (.seq (.seq (.dregM r_f188_3 r_f188_3t [true, false, false, false, false, false, false, false, false, false, false, false, false, false])
  (.cond (.tmp 43) .skip
  (.exit 0)))
  (.block 1 (.sreg r_f188_4 [true, false, false])))))
  (.seq (.block 2 (.loop (.seq (.seq (.dregM r_f188_5 r_f188_5t [true, false, false, false, false, false, false, false, false, false, false, false, false, false, false])
  (.cond (.tmp 60) .skip
  (.exit 2)))
  (.block 3 (.sreg r_f188_6 [true, false, false])))))
  (.seq (.seq (.sreg r_f188_7 [true, false, false])
  (.cond (.tmp 65) (.seq (.dregM r_f188_8 r_f188_8t [false, false, false, false, false, false, false, false, false, false, false, false, false, false])
  (.seq (.sreg r_f188_9 [true, true, false])
  .ret))
  .skip))
  (.seq (.dregM r_f188_10 r_f188_10t [false, false, false, false, false, false, false, false, false, false, false, false, false, false])
  (.seq (.sreg r_f188_11 [true, false, false])
  (.seq (.sreg r_f188_12 [true, false, false])
  (.seq (.block 4 (.loop (.block 5 (.seq (.block 6 (.loop (.seq (.seq (.dregM r_f188_13 r_f188_13t [true, false, false, false, false, false, false, false, false, false, false, false, false, false])
  (.cond (.tmp 112) .skip
  (.exit 6)))
  (.block 7 (.sreg r_f188_14 [true, false, false])))))
  (.seq (.block 8 (.loop (.seq (.seq (.dregM r_f188_15 r_f188_15t [true, false, false, false, false, false, false, false, false, false, false, false, false, false, false])
  (.cond (.tmp 129) .skip
  (.exit 8)))
  (.block 9 (.sreg r_f188_16 [true, false, false])))))
  (.seq (.seq (.sreg r_f188_17 [true, false, false])
  (.cond (.tmp 134) (.exit 4)
  .skip))
  (.seq (.dregM r_f188_18 r_f188_18t [false, false, false, false, false, false, false, false, false, false, false, false, false, false])
  (.seq (.sreg r_f188_19 [true, false, false])
  (.sreg r_f188_20 [true, false, false])))))))))
  (.seq (.dregM r_f188_21 r_f188_21t [false, false, false, false, false, false, false, false, false, false, false, false, false, false])
  (.seq (.sreg r_f188_22 [true, true, false])
  .ret)))))))))))), [(.tmp 8), (.tmp 9)]⟩
def o_f188 : Nat → Nat → Nat := fun r i => if r = 3 ∧ i = 12 then 3 else if r = 5 ∧ i = 12 then 3 else if r = 13 ∧ i = 12 then 3 else if r = 15 ∧ i = 12 then 3 else 1
theorem c_f188_eq : lowF Tryz.prog o_f188 188 = some c_f188.raw := by kernel_rfl
theorem c_f188_ok : c_f188.code.okc = true := by kernel_rfl
/-! (*strings.Builder).grow -/
def r_f190_0 : List SOp :=
   [.op ⟨(some 5), (.mv (.tmp 0)), none⟩,
    .op ⟨(some 6), (.nilchk (.tmp 5)), none⟩,
    .op ⟨(some 7), (.faddr 1 (.tmp 6)), none⟩,
    .op ⟨(some 8), (.load false 1 (.tmp 7)), none⟩,
    .op ⟨(some 9), (.cap (.tmp 8)), none⟩,
    .op ⟨(some 10), (.bin .mul (.av (.int .i64 2)) (.tmp 9)), none⟩,
    .op ⟨(some 11), (.mv (.tmp 1)), none⟩,
    .op ⟨(some 12), (.bin .add (.tmp 10) (.tmp 11)), none⟩,
    .op ⟨(some 13), (.call 197 [(.tmp 12)]), none⟩,
    .op ⟨(some 14), (.mv (.tmp 0)), none⟩,
    .op ⟨(some 15), (.nilchk (.tmp 14)), none⟩,
    .op ⟨(some 16), (.faddr 1 (.tmp 15)), none⟩,
    .op ⟨(some 17), (.load false 1 (.tmp 16)), none⟩,
    .op ⟨(some 18), (.len false (.tmp 17)), none⟩,
    .op ⟨(some 19), (.slV 1 (.tmp 13) none (some (.tmp 18)) none), none⟩,
    .op ⟨(some 4), (.mv (.tmp 19)), none⟩]
def r_f190_1 : List SOp :=
   [.op ⟨(some 20), (.mv (.tmp 4)), none⟩,
    .op ⟨(some 21), (.mv (.tmp 0)), none⟩,
    .op ⟨(some 22), (.nilchk (.tmp 21)), none⟩,
    .op ⟨(some 23), (.faddr 1 (.tmp 22)), none⟩,
    .op ⟨(some 24), (.load false 1 (.tmp 23)), none⟩,
    .op ⟨(some 25), (.copy 1 (.tmp 20) (.tmp 24)), none⟩]
def r_f190_2 : List SOp :=
   [.op ⟨(some 26), (.mv (.tmp 0)), none⟩,
    .op ⟨(some 27), (.mv (.tmp 4)), none⟩,
    .op ⟨(some 28), (.nilchk (.tmp 26)), none⟩,
    .op ⟨(some 29), (.faddr 1 (.tmp 28)), none⟩,
    .op ⟨none, (.store 1 (.tmp 29) (.tmp 27)), none⟩]
def c_f190 : LFun := ⟨30, (.seq (.sdreg r_f190_0 [.pure, (.read 0 0), .pure, (.read 0 0), (.read 0 0), .pure, .pure, .pure, .eff, .pure, (.read 1 0), .pure, (.read 1 0), (.read 1 0)] [true, false, false, false, false, false, false, false, false, false, false, false, false, false, false, false])
  (.seq (.sreg r_f190_1 [false, false, false, false, false, false])
  (.sreg r_f190_2 [false, false, false, false]))), []⟩
def o_f190 : Nat → Nat → Nat := fun r i => if r = 0 ∧ i = 8 then 3 else 1
theorem c_f190_eq : lowF Tryz.prog o_f190 190 = some c_f190.raw := by kernel_rfl
theorem c_f190_ok : c_f190.code.okc = true := by kernel_rfl
/-! slices.siftDownOrdered[string] -/
def r_f192_0 : List SOp :=
   [.op ⟨(some 10), (.mv (.tmp 1)), none⟩,
    .op ⟨(some 8), (.mv (.tmp 10)), none⟩]
def r_f192_1 : List SOp :=
   [.op ⟨(some 11), (.mv (.tmp 8)), none⟩,
    .op ⟨(some 12), (.bin .mul (.av (.int .i64 2)) (.tmp 11)), none⟩,
    .op ⟨(some 13), (.bin .add (.tmp 12) (.av (.int .i64 1))), none⟩,
    .op ⟨(some 9), (.mv (.tmp 13)), none⟩]
def r_f192_2 : List SOp :=
   [.op ⟨(some 14), (.mv (.tmp 9)), none⟩,
    .op ⟨(some 15), (.mv (.tmp 2)), none⟩,
    .op ⟨(some 16), (.bin .geq (.tmp 14) (.tmp 15)), none⟩]
def r_f192_3 : List (LOper × Kd) :=
   [(⟨(some 17), (.mv (.tmp 9)), none⟩, .pure),
    (⟨(some 18), (.bin .add (.tmp 17) (.av (.int .i64 1))), none⟩, .pure),
    (⟨(some 19), (.mv (.tmp 2)), none⟩, .pure),
    (⟨(some 20), (.bin .lss (.tmp 18) (.tmp 19)), none⟩, .pure),
    (⟨(some 21), (.mv (.tmp 20)), none⟩, .pure),
    (⟨(some 22), (.mv (.tmp 0)), (some (21, true))⟩, .pure),
    (⟨(some 23), (.mv (.tmp 3)), (some (21, true))⟩, .pure),
    (⟨(some 24), (.mv (.tmp 9)), (some (21, true))⟩, .pure),
    (⟨(some 25), (.bin .add (.tmp 23) (.tmp 24)), (some (21, true))⟩, .pure),
    (⟨(some 26), (.iaddr 1 (.tmp 22) (.tmp 25)), (some (21, true))⟩, (.read 0 0)),
    (⟨(some 27), (.load false 1 (.tmp 26)), (some (21, true))⟩, (.read 0 0)),
    (⟨(some 28), (.mv (.tmp 0)), (some (21, true))⟩, .pure),
    (⟨(some 29), (.mv (.tmp 3)), (some (21, true))⟩, .pure),
    (⟨(some 30), (.mv (.tmp 9)), (some (21, true))⟩, .pure),
    (⟨(some 31), (.bin .add (.tmp 29) (.tmp 30)), (some (21, true))⟩, .pure),
    (⟨(some 32), (.bin .add (.tmp 31) (.av (.int .i64 1))), (some (21, true))⟩, .pure),
    (⟨(some 33), (.iaddr 1 (.tmp 28) (.tmp 32)), (some (21, true))⟩, (.read 0 0)),
    (⟨(some 34), (.load false 1 (.tmp 33)), (some (21, true))⟩, (.read 0 0))]
def r_f192_3t : List LOper :=
   [⟨(some 35), (.call 186 [(.tmp 27), (.tmp 34)]), (some (21, true))⟩,
    ⟨(some 36), (.pick (.tmp 21) (.tmp 35) (.av (.bool false))), none⟩]
def r_f192_4 : List SOp :=
   [.op ⟨(some 37), (.mv (.tmp 9)), none⟩,
    .op ⟨(some 38), (.bin .add (.tmp 37) (.av (.int .i64 1))), none⟩,
    .op ⟨(some 9), (.mv (.tmp 38)), none⟩]
def r_f192_5 : List SOp :=
   [.op ⟨(some 39), (.mv (.tmp 0)), none⟩,
    .op ⟨(some 40), (.mv (.tmp 3)), none⟩,
    .op ⟨(some 41), (.mv (.tmp 8)), none⟩,
    .op ⟨(some 42), (.bin .add (.tmp 40) (.tmp 41)), none⟩,
    .op ⟨(some 43), (.iaddr 1 (.tmp 39) (.tmp 42)), none⟩,
    .op ⟨(some 44), (.load false 1 (.tmp 43)), none⟩,
    .op ⟨(some 45), (.mv (.tmp 0)), none⟩,
    .op ⟨(some 46), (.mv (.tmp 3)), none⟩,
    .op ⟨(some 47), (.mv (.tmp 9)), none⟩,
    .op ⟨(some 48), (.bin .add (.tmp 46) (.tmp 47)), none⟩,
    .op ⟨(some 49), (.iaddr 1 (.tmp 45) (.tmp 48)), none⟩,
    .op ⟨(some 50), (.load false 1 (.tmp 49)), none⟩,
    .op ⟨(some 51), (.call 186 [(.tmp 44), (.tmp 50)]), none⟩,
    .op ⟨(some 52), (.un .not (.tmp 51)), none⟩]
def r_f192_6 : List (LOper × Kd) :=
   [(⟨(some 53), (.mv (.tmp 0)), none⟩, .pure),
    (⟨(some 54), (.mv (.tmp 3)), none⟩, .pure),
    (⟨(some 55), (.mv (.tmp 8)), none⟩, .pure),
    (⟨(some 56), (.bin .add (.tmp 54) (.tmp 55)), none⟩, .pure),
    (⟨(some 57), (.mv (.tmp 0)), none⟩, .pure),
    (⟨(some 58), (.mv (.tmp 3)), none⟩, .pure),
    (⟨(some 59), (.mv (.tmp 9)), none⟩, .pure),
    (⟨(some 60), (.bin .add (.tmp 58) (.tmp 59)), none⟩, .pure),
    (⟨(some 61), (.mv (.tmp 0)), none⟩, .pure),
    (⟨(some 62), (.mv (.tmp 3)), none⟩, .pure),
    (⟨(some 63), (.mv (.tmp 9)), none⟩, .pure),
    (⟨(some 64), (.bin .add (.tmp 62) (.tmp 63)), none⟩, .pure),
    (⟨(some 65), (.iaddr 1 (.tmp 61) (.tmp 64)), none⟩, (.read 0 0)),
    (⟨(some 66), (.load false 1 (.tmp 65)), none⟩, (.read 0 0)),
    (⟨(some 67), (.mv (.tmp 0)), none⟩, .pure),
    (⟨(some 68), (.mv (.tmp 3)), none⟩, .pure),
    (⟨(some 69), (.mv (.tmp 8)), none⟩, .pure),
    (⟨(some 70), (.bin .add (.tmp 68) (.tmp 69)), none⟩, .pure),
    (⟨(some 71), (.iaddr 1 (.tmp 67) (.tmp 70)), none⟩, (.read 0 0)),
    (⟨(some 72), (.load false 1 (.tmp 71)), none⟩, (.read 0 0)),
    (⟨(some 73), (.iaddr 1 (.tmp 53) (.tmp 56)), none⟩, (.read 0 0)),
    (⟨none, (.store 1 (.tmp 73) (.tmp 66)), none⟩, .eff)]
def r_f192_6t : List LOper :=
   [⟨(some 74), (.iaddr 1 (.tmp 57) (.tmp 60)), none⟩,
    ⟨none, (.store 1 (.tmp 74) (.tmp 72)), none⟩]
def r_f192_7 : List SOp :=
   [.op ⟨(some 75), (.mv (.tmp 9)), none⟩,
    .op ⟨(some 8), (.mv (.tmp 75)), none⟩]
def c_f192 : LFun := ⟨76, (.seq (.sreg r_f192_0 [true, false])
  (.block 0 (.loop (.block 1 (.seq (.sreg r_f192_1 [true, false, false, false])
  (.seq (.seq (.sreg r_f192_2 [true, false, false])
  (.cond (.tmp 16) (.exit 0)
  .skip))
  (.seq (.seq (.dregM r_f192_3 r_f192_3t [true, false, false, false, false, false, false, false, false, false, false, false, false, false, false, false, false, false, false, false])
  (.cond (.tmp 36) (.sreg r_f192_4 [true, false, false])
  .skip))
  (.seq (.seq (.sdreg r_f192_5 [.pure, .pure, .pure, .pure, (.read 0 0), (.read 0 0), .pure, .pure, .pure, .pure, (.read 0 0), (.read 0 0)] [true, false, false, false, false, false, false, false, false, false, false, false, false, false])
  (.cond (.tmp 52) .ret
  .skip))
  (.seq (.dregM r_f192_6 r_f192_6t [false, false, false, false, false, false, false, false, false, false, false, false, false, false, false, false, false, false, false, false, false, false])
  (.sreg r_f192_7 [true, false])))))))))), []⟩
def o_f192 : Nat → Nat → Nat := fun r i => if r = 3 ∧ i = 18 then 3 else if r = 5 ∧ i = 12 then 3 else 1
theorem c_f192_eq : lowF Tryz.prog o_f192 192 = some c_f192.raw := by kernel_rfl
theorem c_f192_ok : c_f192.code.okc = true := by kernel_rfl
/-! slices.nextPowerOfTwo -/
def r_f172_0 : List SOp :=
   [.op ⟨(some 2), (.mv (.av (.int .u64 0))), none⟩]
def r_f172_1 : List SOp :=
   [.op ⟨(some 3), (.mv (.tmp 0)), none⟩,
    .op ⟨(some 4), (.conv .u64 (.tmp 3)), none⟩,
    .op ⟨(some 5), (.call 116 [(.tmp 4)]), none⟩,
    .op ⟨(some 6), (.bin .shl (.av (.int .u64 1)) (.tmp 5)), none⟩,
    .op ⟨(some 2), (.mv (.tmp 6)), none⟩]
def c_f172 : LFun := ⟨7, (.seq (.sreg r_f172_0 [])
  (.seq (.sreg r_f172_1 [true, false, false, false, false])
  .ret)), [(.tmp 2)]⟩
def o_f172 : Nat → Nat → Nat := fun _ _ => 1
theorem c_f172_eq : lowF Tryz.prog o_f172 172 = some c_f172.raw := by kernel_rfl
theorem c_f172_ok : c_f172.code.okc = true := by kernel_rfl
/-! (*slices.xorshift).Next -/
def r_f173_0 : List SOp :=
   [.op ⟨(some 2), (.mv (.av (.int .u64 0))), none⟩]
def r_f173_1 : List (LOper × Kd) :=
   [(⟨(some 3), (.mv (.tmp 0)), none⟩, .pure),
    (⟨(some 4), (.nilchk (.tmp 3)), none⟩, (.read 0 0)),
    (⟨(some 5), (.load false 1 (.tmp 4)), none⟩, (.read 0 0)),
    (⟨(some 6), (.mv (.tmp 0)), none⟩, .pure),
    (⟨(some 7), (.nilchk (.tmp 6)), none⟩, (.read 0 0)),
    (⟨(some 8), (.load false 1 (.tmp 7)), none⟩, (.read 0 0)),
    (⟨(some 9), (.bin .shl (.tmp 8) (.av (.int .u64 13))), none⟩, .pure)]
def r_f173_1t : List LOper :=
   [⟨(some 10), (.bin .xor (.tmp 5) (.tmp 9)), none⟩,
    ⟨(some 11), (.nilchk (.tmp 3)), none⟩,
    ⟨none, (.store 1 (.tmp 11) (.tmp 10)), none⟩]
def r_f173_2 : List (LOper × Kd) :=
   [(⟨(some 12), (.mv (.tmp 0)), none⟩, .pure),
    (⟨(some 13), (.nilchk (.tmp 12)), none⟩, (.read 0 0)),
    (⟨(some 14), (.load false 1 (.tmp 13)), none⟩, (.read 0 0)),
    (⟨(some 15), (.mv (.tmp 0)), none⟩, .pure),
    (⟨(some 16), (.nilchk (.tmp 15)), none⟩, (.read 0 0)),
    (⟨(some 17), (.load false 1 (.tmp 16)), none⟩, (.read 0 0)),
    (⟨(some 18), (.bin .shr (.tmp 17) (.av (.int .u64 7))), none⟩, .pure)]
def r_f173_2t : List LOper :=
   [⟨(some 19), (.bin .xor (.tmp 14) (.tmp 18)), none⟩,
    ⟨(some 20), (.nilchk (.tmp 12)), none⟩,
    ⟨none, (.store 1 (.tmp 20) (.tmp 19)), none⟩]
def r_f173_3 : List (LOper × Kd) :=
   [(⟨(some 21), (.mv (.tmp 0)), none⟩, .pure),
    (⟨(some 22), (.nilchk (.tmp 21)), none⟩, (.read 0 0)),
    (⟨(some 23), (.load false 1 (.tmp 22)), none⟩, (.read 0 0)),
    (⟨(some 24), (.mv (.tmp 0)), none⟩, .pure),
    (⟨(some 25), (.nilchk (.tmp 24)), none⟩, (.read 0 0)),
    (⟨(some 26), (.load false 1 (.tmp 25)), none⟩, (.read 0 0)),
    (⟨(some 27), (.bin .shl (.tmp 26) (.av (.int .u64 17))), none⟩, .pure)]
def r_f173_3t : List LOper :=
   [⟨(some 28), (.bin .xor (.tmp 23) (.tmp 27)), none⟩,
    ⟨(some 29), (.nilchk (.tmp 21)), none⟩,
    ⟨none, (.store 1 (.tmp 29) (.tmp 28)), none⟩]
def r_f173_4 : List SOp :=
   [.op ⟨(some 30), (.mv (.tmp 0)), none⟩,
    .op ⟨(some 31), (.nilchk (.tmp 30)), none⟩,
    .op ⟨(some 32), (.load false 1 (.tmp 31)), none⟩,
    .op ⟨(some 2), (.mv (.tmp 32)), none⟩]
def c_f173 : LFun := ⟨33, (.seq (.sreg r_f173_0 [])
  (.seq (.dregM r_f173_1 r_f173_1t [false, false, false, false, false, false, false, false, false])
  (.seq (.dregM r_f173_2 r_f173_2t [false, false, false, false, false, false, false, false, false])
  (.seq (.dregM r_f173_3 r_f173_3t [false, false, false, false, false, false, false, false, false])
  (.seq (.sreg r_f173_4 [true, false, false, false])
  .ret))))), [(.tmp 2)]⟩
def o_f173 : Nat → Nat → Nat := fun _ _ => 1
theorem c_f173_eq : lowF Tryz.prog o_f173 173 = some c_f173.raw := by kernel_rfl
theorem c_f173_ok : c_f173.code.okc = true := by kernel_rfl
/-! slices.medianAdjacentOrdered[string] -/
def r_f193_0 : List SOp :=
   [.op ⟨(some 6), (.mv (.av (.int .i64 0))), none⟩]
def r_f193_1 : List SOp :=
   [.op ⟨(some 7), (.mv (.tmp 0)), none⟩,
    .op ⟨(some 8), (.mv (.tmp 1)), none⟩,
    .op ⟨(some 9), (.bin .sub (.tmp 8) (.av (.int .i64 1))), none⟩,
    .op ⟨(some 10), (.mv (.tmp 1)), none⟩,
    .op ⟨(some 11), (.mv (.tmp 1)), none⟩,
    .op ⟨(some 12), (.bin .add (.tmp 11) (.av (.int .i64 1))), none⟩,
    .op ⟨(some 13), (.mv (.tmp 2)), none⟩,
    .op ⟨(some 14), (.call 194 [(.tmp 7), (.tmp 9), (.tmp 10), (.tmp 12), (.tmp 13)]), none⟩,
    .op ⟨(some 6), (.mv (.tmp 14)), none⟩]
def c_f193 : LFun := ⟨15, (.seq (.sreg r_f193_0 [])
  (.seq (.sreg r_f193_1 [true, false, false, false, false, false, false, false, false])
  .ret)), [(.tmp 6)]⟩
def o_f193 : Nat → Nat → Nat := fun _ _ => 1
theorem c_f193_eq : lowF Tryz.prog o_f193 193 = some c_f193.raw := by kernel_rfl
theorem c_f193_ok : c_f193.code.okc = true := by kernel_rfl
/-! slices.medianOrdered[string] -/
def r_f194_0 : List SOp :=
   [.op ⟨(some 10), (.mv (.av (.int .i64 0))), none⟩]
def r_f194_1 : List SOp :=
   [.op ⟨(some 12), (.mv (.tmp 0)), none⟩,
    .op ⟨(some 13), (.mv (.tmp 1)), none⟩,
    .op ⟨(some 14), (.mv (.tmp 2)), none⟩,
    .op ⟨(some 15), (.mv (.tmp 4)), none⟩,
    .op ⟨(some 16), (.call 198 [(.tmp 12), (.tmp 13), (.tmp 14), (.tmp 15)]), none⟩,
    .op ⟨(some 11), (.mv (.tmp 16)), none⟩,
    .op ⟨(some 17), (.extract (.tmp 11) 0), none⟩,
    .op ⟨(some 18), (.extract (.tmp 11) 1), none⟩,
    .op ⟨(some 1), (.mv (.tmp 17)), none⟩,
    .op ⟨(some 2), (.mv (.tmp 18)), none⟩]
def r_f194_2 : List SOp :=
   [.op ⟨(some 20), (.mv (.tmp 0)), none⟩,
    .op ⟨(some 21), (.mv (.tmp 2)), none⟩,
    .op ⟨(some 22), (.mv (.tmp 3)), none⟩,
    .op ⟨(some 23), (.mv (.tmp 4)), none⟩,
    .op ⟨(some 24), (.call 198 [(.tmp 20), (.tmp 21), (.tmp 22), (.tmp 23)]), none⟩,
    .op ⟨(some 19), (.mv (.tmp 24)), none⟩,
    .op ⟨(some 25), (.extract (.tmp 19) 0), none⟩,
    .op ⟨(some 26), (.extract (.tmp 19) 1), none⟩,
    .op ⟨(some 2), (.mv (.tmp 25)), none⟩,
    .op ⟨(some 3), (.mv (.tmp 26)), none⟩]
def r_f194_3 : List SOp :=
   [.op ⟨(some 28), (.mv (.tmp 0)), none⟩,
    .op ⟨(some 29), (.mv (.tmp 1)), none⟩,
    .op ⟨(some 30), (.mv (.tmp 2)), none⟩,
    .op ⟨(some 31), (.mv (.tmp 4)), none⟩,
    .op ⟨(some 32), (.call 198 [(.tmp 28), (.tmp 29), (.tmp 30), (.tmp 31)]), none⟩,
    .op ⟨(some 27), (.mv (.tmp 32)), none⟩,
    .op ⟨(some 33), (.extract (.tmp 27) 0), none⟩,
    .op ⟨(some 34), (.extract (.tmp 27) 1), none⟩,
    .op ⟨(some 1), (.mv (.tmp 33)), none⟩,
    .op ⟨(some 2), (.mv (.tmp 34)), none⟩]
def r_f194_4 : List SOp :=
   [.op ⟨(some 35), (.mv (.tmp 2)), none⟩,
    .op ⟨(some 10), (.mv (.tmp 35)), none⟩]
def c_f194 : LFun := ⟨36, (.seq (.sreg r_f194_0 [])
  (.seq (.sreg r_f194_1 [true, true, false, false, false, false, false, false, false, false])
  (.seq (.sreg r_f194_2 [true, true, false, false, false, false, false, false, false, false])
  (.seq (.sreg r_f194_3 [true, true, false, false, false, false, false, false, false, false])
  (.seq (.sreg r_f194_4 [true, false])
  .ret))))), [(.tmp 10)]⟩
def o_f194 : Nat → Nat → Nat := fun _ _ => 1
theorem c_f194_eq : lowF Tryz.prog o_f194 194 = some c_f194.raw := by kernel_rfl
theorem c_f194_ok : c_f194.code.okc = true := by kernel_rfl
/-! cmp.isNaN[string] -/
def r_f195_0 : List SOp :=
   [.op ⟨(some 2), (.mv (.av (.bool false))), none⟩]
def r_f195_1 : List SOp :=
   [.op ⟨(some 3), (.mv (.tmp 0)), none⟩,
    .op ⟨(some 4), (.mv (.tmp 0)), none⟩,
    .op ⟨(some 5), (.bin .neq (.tmp 3) (.tmp 4)), none⟩,
    .op ⟨(some 2), (.mv (.tmp 5)), none⟩]
def c_f195 : LFun := ⟨6, (.seq (.sreg r_f195_0 [])
  (.seq (.sreg r_f195_1 [true, false, false, false])
  .ret)), [(.tmp 2)]⟩
def o_f195 : Nat → Nat → Nat := fun _ _ => 1
theorem c_f195_eq : lowF Tryz.prog o_f195 195 = some c_f195.raw := by kernel_rfl
theorem c_f195_ok : c_f195.code.okc = true := by kernel_rfl
/-! slices.order2Ordered[string] -/
def r_f198_0 : List SOp :=
   [.op ⟨(some 8), (.mv (.av (.int .i64 0))), none⟩,
    .op ⟨(some 9), (.mv (.av (.int .i64 0))), none⟩]
def r_f198_1 : List SOp :=
   [.op ⟨(some 10), (.mv (.tmp 0)), none⟩,
    .op ⟨(some 11), (.mv (.tmp 2)), none⟩,
    .op ⟨(some 12), (.iaddr 1 (.tmp 10) (.tmp 11)), none⟩,
    .op ⟨(some 13), (.load false 1 (.tmp 12)), none⟩,
    .op ⟨(some 14), (.mv (.tmp 0)), none⟩,
    .op ⟨(some 15), (.mv (.tmp 1)), none⟩,
    .op ⟨(some 16), (.iaddr 1 (.tmp 14) (.tmp 15)), none⟩,
    .op ⟨(some 17), (.load false 1 (.tmp 16)), none⟩,
    .op ⟨(some 18), (.call 186 [(.tmp 13), (.tmp 17)]), none⟩]
def r_f198_2 : List SOp :=
   [.op ⟨(some 19), (.mv (.tmp 3)), none⟩,
    .op ⟨(some 20), (.nilchk (.tmp 19)), none⟩,
    .op ⟨(some 21), (.load false 1 (.tmp 20)), none⟩,
    .op ⟨(some 22), (.bin .add (.tmp 21) (.av (.int .i64 1))), none⟩,
    .op ⟨(some 23), (.nilchk (.tmp 19)), none⟩,
    .op ⟨none, (.store 1 (.tmp 23) (.tmp 22)), none⟩]
def r_f198_3 : List SOp :=
   [.op ⟨(some 24), (.mv (.tmp 2)), none⟩,
    .op ⟨(some 25), (.mv (.tmp 1)), none⟩,
    .op ⟨(some 8), (.mv (.tmp 24)), none⟩,
    .op ⟨(some 9), (.mv (.tmp 25)), none⟩]
def r_f198_4 : List SOp :=
   [.op ⟨(some 26), (.mv (.tmp 1)), none⟩,
    .op ⟨(some 27), (.mv (.tmp 2)), none⟩,
    .op ⟨(some 8), (.mv (.tmp 26)), none⟩,
    .op ⟨(some 9), (.mv (.tmp 27)), none⟩]
def c_f198 : LFun := ⟨28, (.seq (.sreg r_f198_0 [])
  (.seq (.seq (.sdreg r_f198_1 [.pure, .pure, (.read 0 0), (.read 0 0), .pure, .pure, (.read 0 0), (.read 0 0)] [true, false, false, false, false, false, false, false, false])
  (.cond (.tmp 18) (.seq (.sreg r_f198_2 [false, false, false, false, false])
  (.seq (.sreg r_f198_3 [true, true, false, false])
  .ret))
  .skip))
  (.seq (.sreg r_f198_4 [true, true, false, false])
  .ret))), [(.tmp 8), (.tmp 9)]⟩
def o_f198 : Nat → Nat → Nat := fun r i => if r = 1 ∧ i = 8 then 3 else 1
theorem c_f198_eq : lowF Tryz.prog o_f198 198 = some c_f198.raw := by kernel_rfl
theorem c_f198_ok : c_f198.code.okc = true := by kernel_rfl

end Go.Proofs.YtpednpndahgleaaGreatDoor.Av
