/- Which of two values is ahead is as the document says: the law's walk. -/
import Derived.Test.YtffnflplocbpiaaGreatDoorQRsD
import Derived.Test.YtffnflplocbpiaaGreatDoorQSyR
set_option linter.unusedSimpArgs false
set_option linter.unusedVariables false
namespace Go.Proofs.YtffnflplocbpiaaGreatDoor.Av
open Go
set_option maxHeartbeats 8000000
set_option maxRecDepth 100000

theorem rorderG_k {syn : Int} {a b : List UInt8} {L : List Blk} {K : AV → List Blk → Prop} (h : K (.tup [.int .i64 ((ordO syn a b).getD 0), .bool (ordO syn a b).isSome]) L) : ACall Tryz.prog 12 [.int .i64 syn, .str a, .str b] L K := by
  refine rorder_syn_k ?_
  revert h
  rcases ordO syn a b with _ | c <;> exact fun h => h
theorem orders_k {syn : Int} {a b : List UInt8} {L : List Blk} {K : AV → List Blk → Prop} (h : K (.bool true) L) : ACall Tryz.prog 4 [.int .i64 syn, .str a, .str b] L K := by
  replace h := hid h
  refine ACall_fn c_law12_SyntaxOrders_eq (by simp [c_law12_SyntaxOrders]) ?_
  simp only [c_law12_SyntaxOrders, initT]
  by_cases la : (5000 : Int) < (a.length : Int)
  · have kk1 := @hid _ @awake12_k
    refine wk ?_
    exact Fin_same h.out
  by_cases lb : (5000 : Int) < (b.length : Int)
  · have kk1 := @hid _ @awake12_k
    refine wk ?_
    exact Fin_same h.out
  obtain ⟨x, hx⟩ : ∃ x, (ordO syn a b).getD 0 = x := ⟨_, rfl⟩
  obtain ⟨p, hp⟩ : ∃ p, (ordO syn a b).isSome = p := ⟨_, rfl⟩
  cases p with
  | true =>
    have kk1 := @hid _ @orderG_k
    have kk2 := @hid _ @rorderG_k
    have kk3 := @hid _ @awake12_k
    refine wk ?_
    exact Fin_same h.out
  | false =>
    have kk1 := @hid _ @orderG_k
    have kk2 := @hid _ @rorderG_k
    have kk3 := @hid _ @awake12_k
    refine wk ?_
    exact Fin_same h.out
end Go.Proofs.YtffnflplocbpiaaGreatDoor.Av
