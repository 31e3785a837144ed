import Derived.Test.YtafghkbedkjpmaaDoorPolT
set_option linter.unusedSimpArgs false
set_option linter.unusedVariables false
namespace Go.Proofs.YtafghkbedkjpmaaDoor.Av
open Go
set_option maxHeartbeats 8000000

theorem awake_k {L : List Blk} {K : AV → List Blk → Prop} (h : K (.bool true) L) :
    ACall Tryd.prog 5 [] L K := by
  have e1 : tryR 2 10 5 0 [] (-1) 0 1 false = (([1], -1, 0), 1) := by decide
  have e2 : tryR 2 10 5 0 [1] (-1) 0 3 false = (([], 3, 0), 1) := by decide
  have e3 : tryR 2 10 5 0 [] 3 0 7 true = (([], 3, 0), 2) := by decide
  have e4 : tryR 2 10 5 0 [] 3 0 8 true = (([], -1, 0), 0) := by decide
  have e5 : polOk 2 10 5 0 = true := by decide
  refine ACall_fn c_law23_awake_eq (by simp [c_law23_awake]) ?_
  simp only [c_law23_awake, initT]
  repeat' first
    | refine AW_seq ?_
    | (refine AW_sreg (by kernel_rfl) ?_; simp (config := { maxSteps := 2000000 }) only [resT, stA, ints, List.map_cons, List.map_nil, List.length_cons, List.length_nil, Kon, push_cast, reduceIte, Nat.reduceEqDiff, Nat.reduceAdd, Nat.reduceMul, Nat.reduceSub, Nat.reduceLT, Nat.reduceLeDiff, Int.reduceLT, Int.reduceLE, Int.reduceAdd, Int.reduceSub, Int.reduceNeg, Int.reduceToNat, Int.reduceEq, reduceCtorEq, *])
    | (refine AW_sdreg (by kernel_rfl) ?_; simp (config := { maxSteps := 2000000 }) only [resT, stA, ints, List.map_cons, List.map_nil, List.length_cons, List.length_nil, Kon, push_cast, reduceIte, Nat.reduceEqDiff, Nat.reduceAdd, Nat.reduceMul, Nat.reduceSub, Nat.reduceLT, Nat.reduceLeDiff, Int.reduceLT, Int.reduceLE, Int.reduceAdd, Int.reduceSub, Int.reduceNeg, Int.reduceToNat, Int.reduceEq, reduceCtorEq, *])
    | (refine AW_dregM ?_; simp (config := { maxSteps := 2000000 }) only [resT, stA, ints, List.map_cons, List.map_nil, List.length_cons, List.length_nil, Kon, push_cast, reduceIte, Nat.reduceEqDiff, Nat.reduceAdd, Nat.reduceMul, Nat.reduceSub, Nat.reduceLT, Nat.reduceLeDiff, Int.reduceLT, Int.reduceLE, Int.reduceAdd, Int.reduceSub, Int.reduceNeg, Int.reduceToNat, Int.reduceEq, reduceCtorEq, *])
    | (refine SelK_mk (by kernel_rfl) ?_; simp only [push_cast, reduceIte, Nat.reduceEqDiff, Nat.reduceAdd, Nat.reduceMul, Nat.reduceSub, Nat.reduceLT, Nat.reduceLeDiff, Int.reduceLT, Int.reduceLE, Int.reduceAdd, Int.reduceSub, Int.reduceNeg, Int.reduceToNat, Int.reduceEq, reduceCtorEq])
    | exact IsB_mk
    | (refine Nx_in ?_; simp (config := { maxSteps := 2000000 }) only [resT, stA, ints, List.map_cons, List.map_nil, List.length_cons, List.length_nil, Kon, push_cast, reduceIte, Nat.reduceEqDiff, Nat.reduceAdd, Nat.reduceMul, Nat.reduceSub, Nat.reduceLT, Nat.reduceLeDiff, Int.reduceLT, Int.reduceLE, Int.reduceAdd, Int.reduceSub, Int.reduceNeg, Int.reduceToNat, Int.reduceEq, reduceCtorEq, *])
    | (refine NxI_in (fun _ => ?_); simp (config := { maxSteps := 2000000 }) only [resT, stA, ints, List.map_cons, List.map_nil, List.length_cons, List.length_nil, Kon, push_cast, reduceIte, Nat.reduceEqDiff, Nat.reduceAdd, Nat.reduceMul, Nat.reduceSub, Nat.reduceLT, Nat.reduceLeDiff, Int.reduceLT, Int.reduceLE, Int.reduceAdd, Int.reduceSub, Int.reduceNeg, Int.reduceToNat, Int.reduceEq, reduceCtorEq, *])
    | apply GQ_mkT
    | apply GQ_mkTN
    | apply GQ_mkF
    | apply GQ_mkFN
    | apply GQ_mkB
    | apply GQ_mkBF
    | (refine AW_region ?_; simp (config := { maxSteps := 2000000 }) only [resT, stA, ints, List.map_cons, List.map_nil, List.length_cons, List.length_nil, Kon, push_cast, reduceIte, Nat.reduceEqDiff, Nat.reduceAdd, Nat.reduceMul, Nat.reduceSub, Nat.reduceLT, Nat.reduceLeDiff, Int.reduceLT, Int.reduceLE, Int.reduceAdd, Int.reduceSub, Int.reduceNeg, Int.reduceToNat, Int.reduceEq, reduceCtorEq, *])
    | (refine AW_dreg ?_; simp (config := { maxSteps := 2000000 }) only [resT, stA, ints, List.map_cons, List.map_nil, List.length_cons, List.length_nil, Kon, push_cast, reduceIte, Nat.reduceEqDiff, Nat.reduceAdd, Nat.reduceMul, Nat.reduceSub, Nat.reduceLT, Nat.reduceLeDiff, Int.reduceLT, Int.reduceLE, Int.reduceAdd, Int.reduceSub, Int.reduceNeg, Int.reduceToNat, Int.reduceEq, reduceCtorEq, *])
    | (refine AW_block ?_)
    | (refine new_k ?_; simp (config := { maxSteps := 2000000 }) only [resT, stA, ints, List.map_cons, List.map_nil, List.length_cons, List.length_nil, Kon, push_cast, reduceIte, Nat.reduceEqDiff, Nat.reduceAdd, Nat.reduceMul, Nat.reduceSub, Nat.reduceLT, Nat.reduceLeDiff, Int.reduceLT, Int.reduceLE, Int.reduceAdd, Int.reduceSub, Int.reduceNeg, Int.reduceToNat, Int.reduceEq, reduceCtorEq, *])
    | (refine check_k ?_; simp (config := { maxSteps := 2000000 }) only [resT, stA, ints, List.map_cons, List.map_nil, List.length_cons, List.length_nil, Kon, push_cast, reduceIte, Nat.reduceEqDiff, Nat.reduceAdd, Nat.reduceMul, Nat.reduceSub, Nat.reduceLT, Nat.reduceLeDiff, Int.reduceLT, Int.reduceLE, Int.reduceAdd, Int.reduceSub, Int.reduceNeg, Int.reduceToNat, Int.reduceEq, reduceCtorEq, *])
    | (refine try_k (fs := []) (by simp) ?_; simp (config := { maxSteps := 2000000 }) only [resT, stA, ints, List.map_cons, List.map_nil, List.length_cons, List.length_nil, Kon, push_cast, reduceIte, Nat.reduceEqDiff, Nat.reduceAdd, Nat.reduceMul, Nat.reduceSub, Nat.reduceLT, Nat.reduceLeDiff, Int.reduceLT, Int.reduceLE, Int.reduceAdd, Int.reduceSub, Int.reduceNeg, Int.reduceToNat, Int.reduceEq, reduceCtorEq, *])
    | (refine try_k (fs := [1]) (by simp) ?_; simp (config := { maxSteps := 2000000 }) only [resT, stA, ints, List.map_cons, List.map_nil, List.length_cons, List.length_nil, Kon, push_cast, reduceIte, Nat.reduceEqDiff, Nat.reduceAdd, Nat.reduceMul, Nat.reduceSub, Nat.reduceLT, Nat.reduceLeDiff, Int.reduceLT, Int.reduceLE, Int.reduceAdd, Int.reduceSub, Int.reduceNeg, Int.reduceToNat, Int.reduceEq, reduceCtorEq, *])
    | (refine CalK2_mk (new_k ⟨rfl, rfl⟩) (new_k ⟨rfl, rfl⟩) ?_; simp (config := { maxSteps := 2000000 }) only [resT, stA, ints, List.map_cons, List.map_nil, List.length_cons, List.length_nil, Kon, push_cast, reduceIte, Nat.reduceEqDiff, Nat.reduceAdd, Nat.reduceMul, Nat.reduceSub, Nat.reduceLT, Nat.reduceLeDiff, Int.reduceLT, Int.reduceLE, Int.reduceAdd, Int.reduceSub, Int.reduceNeg, Int.reduceToNat, Int.reduceEq, reduceCtorEq, *])
    | (refine CalK2_mk (check_k ⟨rfl, rfl⟩) (check_k ⟨rfl, rfl⟩) ?_; simp (config := { maxSteps := 2000000 }) only [resT, stA, ints, List.map_cons, List.map_nil, List.length_cons, List.length_nil, Kon, push_cast, reduceIte, Nat.reduceEqDiff, Nat.reduceAdd, Nat.reduceMul, Nat.reduceSub, Nat.reduceLT, Nat.reduceLeDiff, Int.reduceLT, Int.reduceLE, Int.reduceAdd, Int.reduceSub, Int.reduceNeg, Int.reduceToNat, Int.reduceEq, reduceCtorEq, *])
    | (refine CalK2_mk (try_k (fs := []) (by simp) ⟨rfl, rfl⟩) (try_k (fs := []) (by simp) ⟨rfl, rfl⟩) ?_; simp (config := { maxSteps := 2000000 }) only [resT, stA, ints, List.map_cons, List.map_nil, List.length_cons, List.length_nil, Kon, push_cast, reduceIte, Nat.reduceEqDiff, Nat.reduceAdd, Nat.reduceMul, Nat.reduceSub, Nat.reduceLT, Nat.reduceLeDiff, Int.reduceLT, Int.reduceLE, Int.reduceAdd, Int.reduceSub, Int.reduceNeg, Int.reduceToNat, Int.reduceEq, reduceCtorEq, *])
    | (refine CalK2_mk (try_k (fs := [1]) (by simp) ⟨rfl, rfl⟩) (try_k (fs := [1]) (by simp) ⟨rfl, rfl⟩) ?_; simp (config := { maxSteps := 2000000 }) only [resT, stA, ints, List.map_cons, List.map_nil, List.length_cons, List.length_nil, Kon, push_cast, reduceIte, Nat.reduceEqDiff, Nat.reduceAdd, Nat.reduceMul, Nat.reduceSub, Nat.reduceLT, Nat.reduceLeDiff, Int.reduceLT, Int.reduceLE, Int.reduceAdd, Int.reduceSub, Int.reduceNeg, Int.reduceToNat, Int.reduceEq, reduceCtorEq, *])
    | (refine CalK_mk (new_k ⟨rfl, rfl⟩) ?_; simp (config := { maxSteps := 2000000 }) only [resT, stA, ints, List.map_cons, List.map_nil, List.length_cons, List.length_nil, Kon, push_cast, reduceIte, Nat.reduceEqDiff, Nat.reduceAdd, Nat.reduceMul, Nat.reduceSub, Nat.reduceLT, Nat.reduceLeDiff, Int.reduceLT, Int.reduceLE, Int.reduceAdd, Int.reduceSub, Int.reduceNeg, Int.reduceToNat, Int.reduceEq, reduceCtorEq, *])
    | (refine CalK_mk (check_k ⟨rfl, rfl⟩) ?_; simp (config := { maxSteps := 2000000 }) only [resT, stA, ints, List.map_cons, List.map_nil, List.length_cons, List.length_nil, Kon, push_cast, reduceIte, Nat.reduceEqDiff, Nat.reduceAdd, Nat.reduceMul, Nat.reduceSub, Nat.reduceLT, Nat.reduceLeDiff, Int.reduceLT, Int.reduceLE, Int.reduceAdd, Int.reduceSub, Int.reduceNeg, Int.reduceToNat, Int.reduceEq, reduceCtorEq, *])
    | (refine CalK_mk (try_k (fs := []) (by simp) ⟨rfl, rfl⟩) ?_; simp (config := { maxSteps := 2000000 }) only [resT, stA, ints, List.map_cons, List.map_nil, List.length_cons, List.length_nil, Kon, push_cast, reduceIte, Nat.reduceEqDiff, Nat.reduceAdd, Nat.reduceMul, Nat.reduceSub, Nat.reduceLT, Nat.reduceLeDiff, Int.reduceLT, Int.reduceLE, Int.reduceAdd, Int.reduceSub, Int.reduceNeg, Int.reduceToNat, Int.reduceEq, reduceCtorEq, *])
    | (refine CalK_mk (try_k (fs := [1]) (by simp) ⟨rfl, rfl⟩) ?_; simp (config := { maxSteps := 2000000 }) only [resT, stA, ints, List.map_cons, List.map_nil, List.length_cons, List.length_nil, Kon, push_cast, reduceIte, Nat.reduceEqDiff, Nat.reduceAdd, Nat.reduceMul, Nat.reduceSub, Nat.reduceLT, Nat.reduceLeDiff, Int.reduceLT, Int.reduceLE, Int.reduceAdd, Int.reduceSub, Int.reduceNeg, Int.reduceToNat, Int.reduceEq, reduceCtorEq, *])
    | refine AW_condT rfl ?_
    | refine AW_condF rfl ?_
    | refine AW_condAny rfl ?_ ?_
    | refine AW_condB rfl (fun _ => ?_) (fun _ => ?_)
    | refine AW_condN rfl (fun _ => ?_) (fun _ => ?_)
    | (refine ite_introN (fun _ => ?_) (fun _ => ?_) <;> try simp (config := { maxSteps := 2000000 }) only [resT, stA, ints, List.map_cons, List.map_nil, List.length_cons, List.length_nil, Kon, push_cast, reduceIte, Nat.reduceEqDiff, Nat.reduceAdd, Nat.reduceMul, Nat.reduceSub, Nat.reduceLT, Nat.reduceLeDiff, Int.reduceLT, Int.reduceLE, Int.reduceAdd, Int.reduceSub, Int.reduceNeg, Int.reduceToNat, Int.reduceEq, reduceCtorEq, *])
    | (refine ite_intro (fun _ => ?_) (fun _ => ?_) <;> try simp (config := { maxSteps := 2000000 }) only [resT, stA, ints, List.map_cons, List.map_nil, List.length_cons, List.length_nil, Kon, push_cast, reduceIte, Nat.reduceEqDiff, Nat.reduceAdd, Nat.reduceMul, Nat.reduceSub, Nat.reduceLT, Nat.reduceLeDiff, Int.reduceLT, Int.reduceLE, Int.reduceAdd, Int.reduceSub, Int.reduceNeg, Int.reduceToNat, Int.reduceEq, reduceCtorEq, *])
    | refine And.intro trivial ?_
    | refine And.intro (by omega) ?_
    | refine AW_block ?_
    | (refine AW_skip ?_; simp only [push_cast, reduceIte, Nat.reduceEqDiff, Nat.reduceAdd, Nat.reduceMul, Nat.reduceSub, Nat.reduceLT, Nat.reduceLeDiff, Int.reduceLT, Int.reduceLE, Int.reduceAdd, Int.reduceSub, Int.reduceNeg, Int.reduceToNat, Int.reduceEq, reduceCtorEq])
    | (refine AW_exit ?_; simp only [push_cast, reduceIte, Nat.reduceEqDiff, Nat.reduceAdd, Nat.reduceMul, Nat.reduceSub, Nat.reduceLT, Nat.reduceLeDiff, Int.reduceLT, Int.reduceLE, Int.reduceAdd, Int.reduceSub, Int.reduceNeg, Int.reduceToNat, Int.reduceEq, reduceCtorEq])
    | (refine AW_ret (Back_retR ?_); simp only [push_cast, reduceIte, Nat.reduceEqDiff, Nat.reduceAdd, Nat.reduceMul, Nat.reduceSub, Nat.reduceLT, Nat.reduceLeDiff, Int.reduceLT, Int.reduceLE, Int.reduceAdd, Int.reduceSub, Int.reduceNeg, Int.reduceToNat, Int.reduceEq, reduceCtorEq, *])
    | refine AW_cond rfl (fun _ => ?_) (fun _ => ?_)
    | refine And.intro ?_ ?_
  exact Fin_pure rfl h

end Go.Proofs.YtafghkbedkjpmaaDoor.Av
