/- The chapter's examples of layer 21 are as the chapter says: reckoned. -/
import Derived.Test.YtkmfnbhdjijlnaaGreatDoorExP
import Derived.KernelRfl
set_option linter.unusedSimpArgs false
set_option linter.unusedVariables false
namespace Go.Proofs.YtkmfnbhdjijlnaaGreatDoor.Av
open Go
set_option maxRecDepth 1000000
theorem of_run0 : runN xtab 100 54 [.str [40, 99, 110, 61, 65, 41]] = some (.int .i64 1) := by kernel_rfl
theorem of_run1 : runN xtab 100 54 [.str [40, 115, 110, 61, 120, 41]] = some (.int .i64 0) := by kernel_rfl
theorem of_run2 : runN xtab 100 54 [.str [40, 122, 122, 61, 120, 41]] = some (.int .i64 2) := by kernel_rfl
theorem of_run3 : runN xtab 100 54 [.str [40, 33, 40, 122, 122, 61, 120, 41, 41]] = some (.int .i64 2) := by kernel_rfl
theorem of_run4 : runN xtab 100 54 [.str [40, 124, 40, 122, 122, 61, 120, 41, 40, 99, 110, 61, 97, 41, 41]] = some (.int .i64 1) := by kernel_rfl

def ofMemo : List (FuncId × List AV × AV) := [(54, [.str [40, 99, 110, 61, 65, 41]], .int .i64 1), (54, [.str [40, 115, 110, 61, 120, 41]], .int .i64 0), (54, [.str [40, 122, 122, 61, 120, 41]], .int .i64 2), (54, [.str [40, 33, 40, 122, 122, 61, 120, 41, 41]], .int .i64 2), (54, [.str [40, 124, 40, 122, 122, 61, 120, 41, 40, 99, 110, 61, 97, 41, 41]], .int .i64 1)]
theorem ofMemo_ok : ∀ e ∈ ofMemo, ∀ L, ACall Tryz.prog e.1 e.2.1 L fun av K => av = e.2.2 ∧ K = L := by
  intro e he L
  simp only [ofMemo, List.mem_cons, List.not_mem_nil, or_false] at he
  rcases he with rfl | rfl | rfl | rfl | rfl
  · exact run_ACall xtab_ok of_run0 ⟨rfl, rfl⟩
  · exact run_ACall xtab_ok of_run1 ⟨rfl, rfl⟩
  · exact run_ACall xtab_ok of_run2 ⟨rfl, rfl⟩
  · exact run_ACall xtab_ok of_run3 ⟨rfl, rfl⟩
  · exact run_ACall xtab_ok of_run4 ⟨rfl, rfl⟩
def xtabO : Tab := { xtab with prim := fun f args => memoP ofMemo f args }
theorem xtabO_ok : TabOk Tryz.prog ftab.own xtabO := ⟨fun f lf hf => FT.get_ok ftab_ok f lf hf, fun f args v hp _ _ L => memo_ok ofMemo_ok hp L⟩
theorem awake21_run : runN xtabO 100 17 [] = some (.bool true) := by kernel_rfl
theorem awake21_k {L : List Blk} {K : AV → List Blk → Prop} (h : K (.bool true) L) : ACall Tryz.prog 17 [] L K := run_ACall xtabO_ok awake21_run h
end Go.Proofs.YtkmfnbhdjijlnaaGreatDoor.Av
