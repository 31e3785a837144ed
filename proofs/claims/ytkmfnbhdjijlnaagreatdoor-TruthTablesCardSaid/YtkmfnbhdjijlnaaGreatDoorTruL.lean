/- Truths joined, turned: the law's walk. -/
import Derived.Test.YtkmfnbhdjijlnaaGreatDoorTruW
import Derived.Test.YtkmfnbhdjijlnaaGreatDoorTruA
set_option linter.unusedSimpArgs false
set_option linter.unusedVariables false
namespace Go.Proofs.YtkmfnbhdjijlnaaGreatDoor.Av
open Go
set_option maxHeartbeats 8000000
set_option maxRecDepth 100000

theorem tables_k {xs : List Int} {cap : Option Nat} {v : Int} {L : List Blk} {K : AV → List Blk → Prop} (h : K (.bool true) L) : ACall Tryz.prog 4 [.sl (xs.map (AV.int .i64)) xs.length cap, .int .i64 v] L K := by
  replace h := hid h
  refine ACall_fn c_law21_TruthTables_eq (by simp [c_law21_TruthTables]) ?_
  simp only [c_law21_TruthTables, initT]
  by_cases hn : (1000 : Int) < (xs.length : Int)
  · repeat' first
      | refine AW_seq ?_
      | (first | refine AW_sreg (by kernel_rfl) ?_ | refine AW_sdreg (by kernel_rfl) ?_ | refine AW_dregM ?_ | refine Nx_in ?_ | refine NxI_in (fun _ => ?_) | refine AW_region ?_ | refine AW_dreg ?_ | refine awake21_k ?_ | refine CalK2_mk (awake21_k ⟨rfl, rfl⟩) (awake21_k ⟨rfl, rfl⟩) ?_ | refine CalK_mk (awake21_k ⟨rfl, rfl⟩) ?_)
        simp (config := { maxSteps := 2000000 }) only [Kon, push_cast, reduceIte, Nat.reduceEqDiff, Nat.reduceAdd, Nat.reduceMul, Nat.reduceSub, Nat.reduceLT, Nat.reduceLeDiff, Int.reduceLT, Int.reduceLE, Int.reduceAdd, Int.reduceSub, Int.reduceNeg, Int.reduceToNat, Int.reduceEq, reduceCtorEq, *]
      | (first | refine SelK_mk (by kernel_rfl) ?_ | refine AW_skip ?_ | refine AW_exit ?_ | refine AW_ret (Back_retR ?_))
        simp only [push_cast, reduceIte, Nat.reduceEqDiff, Nat.reduceAdd, Nat.reduceMul, Nat.reduceSub, Nat.reduceLT, Nat.reduceLeDiff, Int.reduceLT, Int.reduceLE, Int.reduceAdd, Int.reduceSub, Int.reduceNeg, Int.reduceToNat, Int.reduceEq, reduceCtorEq, *]
      | exact IsB_mk
      | first | apply GQ_mkT | apply GQ_mkTN | apply GQ_mkF | apply GQ_mkFN | apply GQ_mkB | apply GQ_mkBF
      | refine AW_block ?_
      | first | refine AW_condT rfl ?_ | refine AW_condF rfl ?_ | refine AW_condAny rfl ?_ ?_ | refine AW_condB rfl (fun _ => ?_) (fun _ => ?_) | refine AW_condN rfl (fun _ => ?_) (fun _ => ?_)
      | ((first | refine ite_introN (fun _ => ?_) (fun _ => ?_) | refine ite_intro (fun _ => ?_) (fun _ => ?_)) <;> try simp (config := { maxSteps := 2000000 }) only [Kon, push_cast, reduceIte, Nat.reduceEqDiff, Nat.reduceAdd, Nat.reduceMul, Nat.reduceSub, Nat.reduceLT, Nat.reduceLeDiff, Int.reduceLT, Int.reduceLE, Int.reduceAdd, Int.reduceSub, Int.reduceNeg, Int.reduceToNat, Int.reduceEq, reduceCtorEq, *])
      | refine And.intro trivial ?_
      | refine And.intro (by omega) ?_
      | refine AW_cond rfl (fun _ => ?_) (fun _ => ?_)
      | refine And.intro ?_ ?_
    refine Fin_same ?_
    exact h.out
  · have hn1 : (xs.length : Int) ≤ 1000000 := by omega
    have e1 := andV_eq xs
    have e2 := orV_eq xs
    have e3 := notV_eq v
    repeat' first
      | refine AW_seq ?_
      | (first | refine AW_sreg (by kernel_rfl) ?_ | refine AW_sdreg (by kernel_rfl) ?_ | refine AW_dregM ?_ | refine Nx_in ?_ | refine NxI_in (fun _ => ?_) | refine AW_region ?_ | refine AW_dreg ?_ | refine awake21_k ?_ | refine and_k hn1 ?_ | refine rand_k hn1 ?_ | refine or_k hn1 ?_ | refine ror_k hn1 ?_ | refine not_k ?_ | refine rnot_k ?_ | refine CalK2_mk (awake21_k ⟨rfl, rfl⟩) (awake21_k ⟨rfl, rfl⟩) ?_ | refine CalK2_mk (and_k hn1 ⟨rfl, rfl⟩) (and_k hn1 ⟨rfl, rfl⟩) ?_ | refine CalK2_mk (rand_k hn1 ⟨rfl, rfl⟩) (rand_k hn1 ⟨rfl, rfl⟩) ?_ | refine CalK2_mk (or_k hn1 ⟨rfl, rfl⟩) (or_k hn1 ⟨rfl, rfl⟩) ?_ | refine CalK2_mk (ror_k hn1 ⟨rfl, rfl⟩) (ror_k hn1 ⟨rfl, rfl⟩) ?_ | refine CalK2_mk (not_k ⟨rfl, rfl⟩) (not_k ⟨rfl, rfl⟩) ?_ | refine CalK2_mk (rnot_k ⟨rfl, rfl⟩) (rnot_k ⟨rfl, rfl⟩) ?_ | refine CalK_mk (awake21_k ⟨rfl, rfl⟩) ?_ | refine CalK_mk (and_k hn1 ⟨rfl, rfl⟩) ?_ | refine CalK_mk (rand_k hn1 ⟨rfl, rfl⟩) ?_ | refine CalK_mk (or_k hn1 ⟨rfl, rfl⟩) ?_ | refine CalK_mk (ror_k hn1 ⟨rfl, rfl⟩) ?_ | refine CalK_mk (not_k ⟨rfl, rfl⟩) ?_ | refine CalK_mk (rnot_k ⟨rfl, rfl⟩) ?_)
        simp (config := { maxSteps := 2000000 }) only [Kon, push_cast, reduceIte, Nat.reduceEqDiff, Nat.reduceAdd, Nat.reduceMul, Nat.reduceSub, Nat.reduceLT, Nat.reduceLeDiff, Int.reduceLT, Int.reduceLE, Int.reduceAdd, Int.reduceSub, Int.reduceNeg, Int.reduceToNat, Int.reduceEq, reduceCtorEq, *]
      | (first | refine SelK_mk (by kernel_rfl) ?_ | refine AW_skip ?_ | refine AW_exit ?_ | refine AW_ret (Back_retR ?_))
        simp only [push_cast, reduceIte, Nat.reduceEqDiff, Nat.reduceAdd, Nat.reduceMul, Nat.reduceSub, Nat.reduceLT, Nat.reduceLeDiff, Int.reduceLT, Int.reduceLE, Int.reduceAdd, Int.reduceSub, Int.reduceNeg, Int.reduceToNat, Int.reduceEq, reduceCtorEq, *]
      | exact IsB_mk
      | first | apply GQ_mkT | apply GQ_mkTN | apply GQ_mkF | apply GQ_mkFN | apply GQ_mkB | apply GQ_mkBF
      | refine AW_block ?_
      | first | refine AW_condT rfl ?_ | refine AW_condF rfl ?_ | refine AW_condAny rfl ?_ ?_ | refine AW_condB rfl (fun _ => ?_) (fun _ => ?_) | refine AW_condN rfl (fun _ => ?_) (fun _ => ?_)
      | ((first | refine ite_introN (fun _ => ?_) (fun _ => ?_) | refine ite_intro (fun _ => ?_) (fun _ => ?_)) <;> try simp (config := { maxSteps := 2000000 }) only [Kon, push_cast, reduceIte, Nat.reduceEqDiff, Nat.reduceAdd, Nat.reduceMul, Nat.reduceSub, Nat.reduceLT, Nat.reduceLeDiff, Int.reduceLT, Int.reduceLE, Int.reduceAdd, Int.reduceSub, Int.reduceNeg, Int.reduceToNat, Int.reduceEq, reduceCtorEq, *])
      | refine And.intro trivial ?_
      | refine And.intro (by omega) ?_
      | refine AW_cond rfl (fun _ => ?_) (fun _ => ?_)
      | refine And.intro ?_ ?_
    all_goals (refine Fin_same ?_; simpa using h.out)
end Go.Proofs.YtkmfnbhdjijlnaaGreatDoor.Av
