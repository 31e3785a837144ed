/- Normal forms are as the document says: the law's walk. -/
import Derived.Test.YtffnflplocbpiaaGreatDoorQR3
import Derived.Test.YtffnflplocbpiaaGreatDoorQSyR
set_option linter.unusedSimpArgs false
set_option linter.unusedVariables false
namespace Go.Proofs.YtffnflplocbpiaaGreatDoor.Av
open Go
set_option maxHeartbeats 8000000
set_option maxRecDepth 100000

theorem rnormG_k {syn : Int} {v : List UInt8} {L : List Blk} {K : AV → List Blk → Prop} (h : K (.tup [.str ((normO syn v).getD []), .bool (normO syn v).isSome]) L) : ACall Tryz.prog 10 [.int .i64 syn, .str v] L K := by
  refine rnorm_syn_k ?_
  revert h
  rcases normO syn v with _ | c <;> exact fun h => h
theorem norms_k {syn : Int} {v : List UInt8} {L : List Blk} {K : AV → List Blk → Prop} (h : K (.bool true) L) : ACall Tryz.prog 3 [.int .i64 syn, .str v] L K := by
  replace h := hid h
  refine ACall_fn c_law12_SyntaxNorms_eq (by simp [c_law12_SyntaxNorms]) ?_
  simp only [c_law12_SyntaxNorms, initT]
  by_cases la : (5000 : Int) < (v.length : Int)
  · have kk1 := @hid _ @awake12_k
    refine wk ?_
    exact Fin_same h.out
  obtain ⟨x, hx⟩ : ∃ x, (normO syn v).getD [] = x := ⟨_, rfl⟩
  obtain ⟨b, hb⟩ : ∃ b, (normO syn v).isSome = b := ⟨_, rfl⟩
  cases b with
  | true =>
    have kk1 := @hid _ @normG_k
    have kk2 := @hid _ @rnormG_k
    have kk3 := @hid _ @awake12_k
    refine wk ?_
    exact Fin_same h.out
  | false =>
    have kk1 := @hid _ @normG_k
    have kk2 := @hid _ @rnormG_k
    have kk3 := @hid _ @awake12_k
    refine wk ?_
    exact Fin_same h.out
end Go.Proofs.YtffnflplocbpiaaGreatDoor.Av
