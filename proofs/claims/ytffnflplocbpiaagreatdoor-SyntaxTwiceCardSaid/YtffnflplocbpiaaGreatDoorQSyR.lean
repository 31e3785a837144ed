/- Of any three values the order is one: the law's walk. -/
import Derived.Test.YtffnflplocbpiaaGreatDoorQS2
import Derived.Test.YtffnflplocbpiaaGreatDoorQSyP
set_option linter.unusedSimpArgs false
set_option linter.unusedVariables false
namespace Go.Proofs.YtffnflplocbpiaaGreatDoor.Av
open Go
set_option maxHeartbeats 8000000
set_option maxRecDepth 100000

theorem orderG_k {syn : Int} {a b : List UInt8} {L : List Blk} {K : AV → List Blk → Prop} (h : K (.tup [.int .i64 ((ordO syn a b).getD 0), .bool (ordO syn a b).isSome]) L) : ACall Tryz.prog 11 [.int .i64 syn, .str a, .str b] L K := by
  refine order_syn_k ?_
  revert h
  rcases ordO syn a b with _ | c <;> exact fun h => h
theorem normG_k {syn : Int} {v : List UInt8} {L : List Blk} {K : AV → List Blk → Prop} (h : K (.tup [.str ((normO syn v).getD []), .bool (normO syn v).isSome]) L) : ACall Tryz.prog 9 [.int .i64 syn, .str v] L K := by
  refine norm_syn_k ?_
  revert h
  rcases normO syn v with _ | c <;> exact fun h => h

theorem ranks_k {syn : Int} {a b c : List UInt8} {L : List Blk} {K : AV → List Blk → Prop} (h : K (.bool true) L) : ACall Tryz.prog 6 [.int .i64 syn, .str a, .str b, .str c] L K := by
  replace h := hid h
  refine ACall_fn c_law12_SyntaxRanks_eq (by simp [c_law12_SyntaxRanks]) ?_
  simp only [c_law12_SyntaxRanks, initT]
  by_cases la : (5000 : Int) < (a.length : Int)
  · have kk1 := @hid _ @awake12_k
    refine wk ?_
    exact Fin_same h.out
  by_cases lb : (5000 : Int) < (b.length : Int)
  · have kk1 := @hid _ @awake12_k
    refine wk ?_
    exact Fin_same h.out
  by_cases lc : (5000 : Int) < (c.length : Int)
  · have kk1 := @hid _ @awake12_k
    refine wk ?_
    exact Fin_same h.out
  have law := @hid _ (@ranks_law syn a b c)
  obtain ⟨o1, h1⟩ : ∃ o, ordO syn a b = o := ⟨_, rfl⟩
  obtain ⟨o2, h2⟩ : ∃ o, ordO syn b c = o := ⟨_, rfl⟩
  obtain ⟨o3, h3⟩ : ∃ o, ordO syn a c = o := ⟨_, rfl⟩
  obtain ⟨o4, h4⟩ : ∃ o, ordO syn b a = o := ⟨_, rfl⟩
  rcases o1 with _ | x
  · have e1 : (none : Option Int).getD 0 = 0 := rfl
    have e2 : (none : Option Int).isSome = false := rfl
    have kk1 := @hid _ @orderG_k
    have kk2 := @hid _ @awake12_k
    refine wk ?_
    exact Fin_same h.out
  have d1 : (some x).getD 0 = x := rfl
  have d2 : (some x).isSome = true := rfl
  rcases o2 with _ | y
  · have e1 : (none : Option Int).getD 0 = 0 := rfl
    have e2 : (none : Option Int).isSome = false := rfl
    have kk1 := @hid _ @orderG_k
    have kk2 := @hid _ @awake12_k
    refine wk ?_
    exact Fin_same h.out
  have d3 : (some y).getD 0 = y := rfl
  have d4 : (some y).isSome = true := rfl
  obtain ⟨m, n, z, hm, hn, k1, k2, k3, k4, k5, k6, k7⟩ := law.out h1 h2
  rw [h3] at k1
  rw [h4] at k2
  subst k1
  subst k2
  have d5 : (some z).getD 0 = z := rfl
  have d6 : (some z).isSome = true := rfl
  have d7 : (some (-x)).getD 0 = -x := rfl
  have d8 : (some (-x)).isSome = true := rfl
  have d9 : (some m).getD [] = m := rfl
  have d10 : (some n).getD [] = n := rfl
  have d11 : (some m).isSome = true := rfl
  have d12 : (some n).isSome = true := rfl
  have w1 : IntKind.i64.wrap (0 - x) = -x := by rw [show 0 - x = -x by omega]; exact wrap64_in (by omega) (by omega)
  have hmn : decide (x = 0) = decide (m = n) := by simpa using k3
  have hle := hid k4
  have hge := hid k5
  have hb1 := hid k6
  have hb2 := hid k7
  clear k3 k4 k5 k6 k7 law
  repeat' first
    | refine AW_seq ?_
    | (first | refine AW_sreg (by kernel_rfl) ?_ | refine AW_sdreg (by kernel_rfl) ?_ | refine AW_dregM ?_ | refine Nx_in ?_ | refine NxI_in (fun _ => ?_) | refine AW_region ?_ | refine AW_dreg ?_ | refine orderG_k ?_ | refine awake12_k ?_ | refine normG_k ?_ | refine CalK2_mk (orderG_k ⟨rfl, rfl⟩) (orderG_k ⟨rfl, rfl⟩) ?_ | refine CalK2_mk (awake12_k ⟨rfl, rfl⟩) (awake12_k ⟨rfl, rfl⟩) ?_ | refine CalK2_mk (normG_k ⟨rfl, rfl⟩) (normG_k ⟨rfl, rfl⟩) ?_ | refine CalK_mk (orderG_k ⟨rfl, rfl⟩) ?_ | refine CalK_mk (awake12_k ⟨rfl, rfl⟩) ?_ | refine CalK_mk (normG_k ⟨rfl, rfl⟩) ?_)
      simp (config := { maxSteps := 2000000 }) only [Kon, push_cast, reduceIte, Nat.reduceEqDiff, Nat.reduceAdd, Nat.reduceMul, Nat.reduceSub, Nat.reduceLT, Nat.reduceLeDiff, Int.reduceLT, Int.reduceLE, Int.reduceAdd, Int.reduceSub, Int.reduceNeg, Int.reduceToNat, Int.reduceEq, reduceCtorEq, *]
    | (first | refine SelK_mk (by kernel_rfl) ?_ | refine AW_skip ?_ | refine AW_exit ?_ | refine AW_ret (Back_retR ?_))
      simp only [push_cast, reduceIte, Nat.reduceEqDiff, Nat.reduceAdd, Nat.reduceMul, Nat.reduceSub, Nat.reduceLT, Nat.reduceLeDiff, Int.reduceLT, Int.reduceLE, Int.reduceAdd, Int.reduceSub, Int.reduceNeg, Int.reduceToNat, Int.reduceEq, reduceCtorEq, *]
    | exact IsB_mk
    | first | apply GQ_mkT | apply GQ_mkTN | apply GQ_mkF | apply GQ_mkFN | apply GQ_mkB | apply GQ_mkBF
    | refine AW_block ?_
    | first | refine AW_condT rfl ?_ | refine AW_condF rfl ?_ | refine AW_condAny rfl ?_ ?_ | refine AW_condB rfl (fun _ => ?_) (fun _ => ?_) | refine AW_condN rfl (fun _ => ?_) (fun _ => ?_)
    | ((first | refine ite_introN (fun _ => ?_) (fun _ => ?_) | refine ite_intro (fun _ => ?_) (fun _ => ?_)) <;> try simp (config := { maxSteps := 2000000 }) only [Kon, push_cast, reduceIte, Nat.reduceEqDiff, Nat.reduceAdd, Nat.reduceMul, Nat.reduceSub, Nat.reduceLT, Nat.reduceLeDiff, Int.reduceLT, Int.reduceLE, Int.reduceAdd, Int.reduceSub, Int.reduceNeg, Int.reduceToNat, Int.reduceEq, reduceCtorEq, *])
    | refine And.intro trivial ?_
    | refine And.intro (by omega) ?_
    | refine AW_cond rfl (fun _ => ?_) (fun _ => ?_)
    | refine And.intro ?_ ?_
  have e := hle.out
  have e' := hge.out
  have e1 := hb1.out
  have e2 := hb2.out
  refine Fin_same ?_
  rw [decide_eq_true (show ((((0 < x ∨ 0 < y) ∨ z ≤ 0) ∧ ((x < 0 ∨ y < 0) ∨ 0 ≤ z)) ∧ -1 ≤ x) ∧ x ≤ 1 by omega)]
  exact h.out
end Go.Proofs.YtffnflplocbpiaaGreatDoor.Av
