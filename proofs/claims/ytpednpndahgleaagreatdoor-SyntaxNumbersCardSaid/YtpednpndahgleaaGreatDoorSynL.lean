/- Every number's digits are one, and stand in order: the law's walk. -/
import Derived.Test.YtpednpndahgleaaGreatDoorSynW
import Derived.Test.YtpednpndahgleaaGreatDoorSynA
set_option linter.unusedSimpArgs false
set_option linter.unusedVariables false
namespace Go.Proofs.YtpednpndahgleaaGreatDoor.Av
open Go
set_option maxHeartbeats 8000000
set_option maxRecDepth 100000

theorem norm4_zero {m : Int} (hm : I64 m) {L : List Blk} {K : AV → List Blk → Prop} (h : K (.tup [.str [], .bool false]) L) : ACall Tryz.prog 8 [.int .i64 4, .str ([48] ++ Lib.itoa m)] L K :=
  norm4_no (by have := itoa_short hm; simp only [List.length_append, List.length_cons, List.length_nil]; omega) (num_zero m) h
theorem norm4_plus {m : Int} (hm : I64 m) {L : List Blk} {K : AV → List Blk → Prop} (h : K (.tup [.str [], .bool false]) L) : ACall Tryz.prog 8 [.int .i64 4, .str ([43] ++ Lib.itoa m)] L K :=
  norm4_no (by have := itoa_short hm; simp only [List.length_append, List.length_cons, List.length_nil]; omega) (num_plus m) h
theorem norm4_itoa {m : Int} (hm : I64 m) {L : List Blk} {K : AV → List Blk → Prop} (h : K (.tup [.str (Lib.itoa m), .bool true]) L) : ACall Tryz.prog 8 [.int .i64 4, .str (Lib.itoa m)] L K :=
  norm4_ok (by have := itoa_short hm; omega) (num_itoa hm).1 h
theorem order4_itoa {m n : Int} (hm : I64 m) (hn : I64 n) {L : List Blk} {K : AV → List Blk → Prop} (h : K (.tup [.int .i64 (cmpI m n), .bool true]) L) : ACall Tryz.prog 9 [.int .i64 4, .str (Lib.itoa m), .str (Lib.itoa n)] L K :=
  order4_k (by have := itoa_short hm; omega) (by have := itoa_short hn; omega) (num_itoa hm).1 (num_itoa hn).1 (num_itoa hm).2 (num_itoa hn).2 h

theorem i64_of {m : Int} (h : IntKind.i64.min ≤ m ∧ m ≤ IntKind.i64.max) : I64 m := h

theorem numbers_k {m n : Int} (hm : I64 m) (hn : I64 n) {L : List Blk} {K : AV → List Blk → Prop} (h : K (.bool true) L) : ACall Tryz.prog 3 [.int .i64 m, .int .i64 n] L K := by
  replace h := hid h
  have s1 := itoa_short hm
  have s2 := itoa_short hn
  replace hm := hid hm
  replace hn := hid hn
  refine ACall_fn c_law12_SyntaxNumbers_eq (by simp [c_law12_SyntaxNumbers]) ?_
  simp only [c_law12_SyntaxNumbers, initT]
  have key : ∀ o : Int, cmpI m n = o → (decide (o < 0) = decide (m < n)) → (decide (o = 0) = decide (m = n)) → True := fun _ _ _ _ => trivial
  rcases Int.lt_trichotomy m n with h1 | h1 | h1
  · have e : cmpI m n = -1 := by simp [cmpI, h1]
    have h2 : ¬ m = n := by omega
    clear key
    repeat' first
      | refine AW_seq ?_
      | (first | refine AW_sreg (by kernel_rfl) ?_ | refine AW_sdreg (by kernel_rfl) ?_ | refine AW_dregM ?_ | refine Nx_in ?_ | refine NxI_in (fun _ => ?_) | refine AW_region ?_ | refine AW_dreg ?_ | refine fmt_k hm.out ?_ | refine fmt_k hn.out ?_ | refine norm4_itoa hm.out ?_ | refine order4_itoa hm.out hn.out ?_ | refine norm4_zero hm.out ?_ | refine norm4_plus hm.out ?_ | refine awake12_k ?_ | refine CalK2_mk (fmt_k hm.out ⟨rfl, rfl⟩) (fmt_k hm.out ⟨rfl, rfl⟩) ?_ | refine CalK2_mk (fmt_k hn.out ⟨rfl, rfl⟩) (fmt_k hn.out ⟨rfl, rfl⟩) ?_ | refine CalK2_mk (norm4_itoa hm.out ⟨rfl, rfl⟩) (norm4_itoa hm.out ⟨rfl, rfl⟩) ?_ | refine CalK2_mk (order4_itoa hm.out hn.out ⟨rfl, rfl⟩) (order4_itoa hm.out hn.out ⟨rfl, rfl⟩) ?_ | refine CalK2_mk (norm4_zero hm.out ⟨rfl, rfl⟩) (norm4_zero hm.out ⟨rfl, rfl⟩) ?_ | refine CalK2_mk (norm4_plus hm.out ⟨rfl, rfl⟩) (norm4_plus hm.out ⟨rfl, rfl⟩) ?_ | refine CalK2_mk (awake12_k ⟨rfl, rfl⟩) (awake12_k ⟨rfl, rfl⟩) ?_ | refine CalK_mk (fmt_k hm.out ⟨rfl, rfl⟩) ?_ | refine CalK_mk (fmt_k hn.out ⟨rfl, rfl⟩) ?_ | refine CalK_mk (norm4_itoa hm.out ⟨rfl, rfl⟩) ?_ | refine CalK_mk (order4_itoa hm.out hn.out ⟨rfl, rfl⟩) ?_ | refine CalK_mk (norm4_zero hm.out ⟨rfl, rfl⟩) ?_ | refine CalK_mk (norm4_plus hm.out ⟨rfl, rfl⟩) ?_ | refine CalK_mk (awake12_k ⟨rfl, rfl⟩) ?_)
        simp (config := { maxSteps := 2000000 }) only [Kon, push_cast, reduceIte, Nat.reduceEqDiff, Nat.reduceAdd, Nat.reduceMul, Nat.reduceSub, Nat.reduceLT, Nat.reduceLeDiff, Int.reduceLT, Int.reduceLE, Int.reduceAdd, Int.reduceSub, Int.reduceNeg, Int.reduceToNat, Int.reduceEq, reduceCtorEq, *]
      | (first | refine SelK_mk (by kernel_rfl) ?_ | refine AW_skip ?_ | refine AW_exit ?_ | refine AW_ret (Back_retR ?_))
        simp only [push_cast, reduceIte, Nat.reduceEqDiff, Nat.reduceAdd, Nat.reduceMul, Nat.reduceSub, Nat.reduceLT, Nat.reduceLeDiff, Int.reduceLT, Int.reduceLE, Int.reduceAdd, Int.reduceSub, Int.reduceNeg, Int.reduceToNat, Int.reduceEq, reduceCtorEq, *]
      | exact IsB_mk
      | first | apply GQ_mkT | apply GQ_mkTN | apply GQ_mkF | apply GQ_mkFN | apply GQ_mkB | apply GQ_mkBF
      | refine AW_block ?_
      | first | refine AW_condT rfl ?_ | refine AW_condF rfl ?_ | refine AW_condAny rfl ?_ ?_ | refine AW_condB rfl (fun _ => ?_) (fun _ => ?_) | refine AW_condN rfl (fun _ => ?_) (fun _ => ?_)
      | ((first | refine ite_introN (fun _ => ?_) (fun _ => ?_) | refine ite_intro (fun _ => ?_) (fun _ => ?_)) <;> try simp (config := { maxSteps := 2000000 }) only [Kon, push_cast, reduceIte, Nat.reduceEqDiff, Nat.reduceAdd, Nat.reduceMul, Nat.reduceSub, Nat.reduceLT, Nat.reduceLeDiff, Int.reduceLT, Int.reduceLE, Int.reduceAdd, Int.reduceSub, Int.reduceNeg, Int.reduceToNat, Int.reduceEq, reduceCtorEq, *])
      | refine And.intro trivial ?_
      | refine And.intro (by omega) ?_
      | refine AW_cond rfl (fun _ => ?_) (fun _ => ?_)
      | refine And.intro ?_ ?_
    refine Fin_same ?_
    exact h.out
  · subst h1
    have e : cmpI m m = 0 := by simp [cmpI]
    have h2 : ¬ m < m := by omega
    clear key
    repeat' first
      | refine AW_seq ?_
      | (first | refine AW_sreg (by kernel_rfl) ?_ | refine AW_sdreg (by kernel_rfl) ?_ | refine AW_dregM ?_ | refine Nx_in ?_ | refine NxI_in (fun _ => ?_) | refine AW_region ?_ | refine AW_dreg ?_ | refine fmt_k hm.out ?_ | refine fmt_k hn.out ?_ | refine norm4_itoa hm.out ?_ | refine order4_itoa hm.out hn.out ?_ | refine norm4_zero hm.out ?_ | refine norm4_plus hm.out ?_ | refine awake12_k ?_ | refine CalK2_mk (fmt_k hm.out ⟨rfl, rfl⟩) (fmt_k hm.out ⟨rfl, rfl⟩) ?_ | refine CalK2_mk (fmt_k hn.out ⟨rfl, rfl⟩) (fmt_k hn.out ⟨rfl, rfl⟩) ?_ | refine CalK2_mk (norm4_itoa hm.out ⟨rfl, rfl⟩) (norm4_itoa hm.out ⟨rfl, rfl⟩) ?_ | refine CalK2_mk (order4_itoa hm.out hn.out ⟨rfl, rfl⟩) (order4_itoa hm.out hn.out ⟨rfl, rfl⟩) ?_ | refine CalK2_mk (norm4_zero hm.out ⟨rfl, rfl⟩) (norm4_zero hm.out ⟨rfl, rfl⟩) ?_ | refine CalK2_mk (norm4_plus hm.out ⟨rfl, rfl⟩) (norm4_plus hm.out ⟨rfl, rfl⟩) ?_ | refine CalK2_mk (awake12_k ⟨rfl, rfl⟩) (awake12_k ⟨rfl, rfl⟩) ?_ | refine CalK_mk (fmt_k hm.out ⟨rfl, rfl⟩) ?_ | refine CalK_mk (fmt_k hn.out ⟨rfl, rfl⟩) ?_ | refine CalK_mk (norm4_itoa hm.out ⟨rfl, rfl⟩) ?_ | refine CalK_mk (order4_itoa hm.out hn.out ⟨rfl, rfl⟩) ?_ | refine CalK_mk (norm4_zero hm.out ⟨rfl, rfl⟩) ?_ | refine CalK_mk (norm4_plus hm.out ⟨rfl, rfl⟩) ?_ | refine CalK_mk (awake12_k ⟨rfl, rfl⟩) ?_)
        simp (config := { maxSteps := 2000000 }) only [Kon, push_cast, reduceIte, Nat.reduceEqDiff, Nat.reduceAdd, Nat.reduceMul, Nat.reduceSub, Nat.reduceLT, Nat.reduceLeDiff, Int.reduceLT, Int.reduceLE, Int.reduceAdd, Int.reduceSub, Int.reduceNeg, Int.reduceToNat, Int.reduceEq, reduceCtorEq, *]
      | (first | refine SelK_mk (by kernel_rfl) ?_ | refine AW_skip ?_ | refine AW_exit ?_ | refine AW_ret (Back_retR ?_))
        simp only [push_cast, reduceIte, Nat.reduceEqDiff, Nat.reduceAdd, Nat.reduceMul, Nat.reduceSub, Nat.reduceLT, Nat.reduceLeDiff, Int.reduceLT, Int.reduceLE, Int.reduceAdd, Int.reduceSub, Int.reduceNeg, Int.reduceToNat, Int.reduceEq, reduceCtorEq, *]
      | exact IsB_mk
      | first | apply GQ_mkT | apply GQ_mkTN | apply GQ_mkF | apply GQ_mkFN | apply GQ_mkB | apply GQ_mkBF
      | refine AW_block ?_
      | first | refine AW_condT rfl ?_ | refine AW_condF rfl ?_ | refine AW_condAny rfl ?_ ?_ | refine AW_condB rfl (fun _ => ?_) (fun _ => ?_) | refine AW_condN rfl (fun _ => ?_) (fun _ => ?_)
      | ((first | refine ite_introN (fun _ => ?_) (fun _ => ?_) | refine ite_intro (fun _ => ?_) (fun _ => ?_)) <;> try simp (config := { maxSteps := 2000000 }) only [Kon, push_cast, reduceIte, Nat.reduceEqDiff, Nat.reduceAdd, Nat.reduceMul, Nat.reduceSub, Nat.reduceLT, Nat.reduceLeDiff, Int.reduceLT, Int.reduceLE, Int.reduceAdd, Int.reduceSub, Int.reduceNeg, Int.reduceToNat, Int.reduceEq, reduceCtorEq, *])
      | refine And.intro trivial ?_
      | refine And.intro (by omega) ?_
      | refine AW_cond rfl (fun _ => ?_) (fun _ => ?_)
      | refine And.intro ?_ ?_
    refine Fin_same ?_
    exact h.out
  · have e : cmpI m n = 1 := by simp [cmpI, h1]; omega
    have h2 : ¬ m = n := by omega
    have h3 : ¬ m < n := by omega
    clear key
    repeat' first
      | refine AW_seq ?_
      | (first | refine AW_sreg (by kernel_rfl) ?_ | refine AW_sdreg (by kernel_rfl) ?_ | refine AW_dregM ?_ | refine Nx_in ?_ | refine NxI_in (fun _ => ?_) | refine AW_region ?_ | refine AW_dreg ?_ | refine fmt_k hm.out ?_ | refine fmt_k hn.out ?_ | refine norm4_itoa hm.out ?_ | refine order4_itoa hm.out hn.out ?_ | refine norm4_zero hm.out ?_ | refine norm4_plus hm.out ?_ | refine awake12_k ?_ | refine CalK2_mk (fmt_k hm.out ⟨rfl, rfl⟩) (fmt_k hm.out ⟨rfl, rfl⟩) ?_ | refine CalK2_mk (fmt_k hn.out ⟨rfl, rfl⟩) (fmt_k hn.out ⟨rfl, rfl⟩) ?_ | refine CalK2_mk (norm4_itoa hm.out ⟨rfl, rfl⟩) (norm4_itoa hm.out ⟨rfl, rfl⟩) ?_ | refine CalK2_mk (order4_itoa hm.out hn.out ⟨rfl, rfl⟩) (order4_itoa hm.out hn.out ⟨rfl, rfl⟩) ?_ | refine CalK2_mk (norm4_zero hm.out ⟨rfl, rfl⟩) (norm4_zero hm.out ⟨rfl, rfl⟩) ?_ | refine CalK2_mk (norm4_plus hm.out ⟨rfl, rfl⟩) (norm4_plus hm.out ⟨rfl, rfl⟩) ?_ | refine CalK2_mk (awake12_k ⟨rfl, rfl⟩) (awake12_k ⟨rfl, rfl⟩) ?_ | refine CalK_mk (fmt_k hm.out ⟨rfl, rfl⟩) ?_ | refine CalK_mk (fmt_k hn.out ⟨rfl, rfl⟩) ?_ | refine CalK_mk (norm4_itoa hm.out ⟨rfl, rfl⟩) ?_ | refine CalK_mk (order4_itoa hm.out hn.out ⟨rfl, rfl⟩) ?_ | refine CalK_mk (norm4_zero hm.out ⟨rfl, rfl⟩) ?_ | refine CalK_mk (norm4_plus hm.out ⟨rfl, rfl⟩) ?_ | refine CalK_mk (awake12_k ⟨rfl, rfl⟩) ?_)
        simp (config := { maxSteps := 2000000 }) only [Kon, push_cast, reduceIte, Nat.reduceEqDiff, Nat.reduceAdd, Nat.reduceMul, Nat.reduceSub, Nat.reduceLT, Nat.reduceLeDiff, Int.reduceLT, Int.reduceLE, Int.reduceAdd, Int.reduceSub, Int.reduceNeg, Int.reduceToNat, Int.reduceEq, reduceCtorEq, *]
      | (first | refine SelK_mk (by kernel_rfl) ?_ | refine AW_skip ?_ | refine AW_exit ?_ | refine AW_ret (Back_retR ?_))
        simp only [push_cast, reduceIte, Nat.reduceEqDiff, Nat.reduceAdd, Nat.reduceMul, Nat.reduceSub, Nat.reduceLT, Nat.reduceLeDiff, Int.reduceLT, Int.reduceLE, Int.reduceAdd, Int.reduceSub, Int.reduceNeg, Int.reduceToNat, Int.reduceEq, reduceCtorEq, *]
      | exact IsB_mk
      | first | apply GQ_mkT | apply GQ_mkTN | apply GQ_mkF | apply GQ_mkFN | apply GQ_mkB | apply GQ_mkBF
      | refine AW_block ?_
      | first | refine AW_condT rfl ?_ | refine AW_condF rfl ?_ | refine AW_condAny rfl ?_ ?_ | refine AW_condB rfl (fun _ => ?_) (fun _ => ?_) | refine AW_condN rfl (fun _ => ?_) (fun _ => ?_)
      | ((first | refine ite_introN (fun _ => ?_) (fun _ => ?_) | refine ite_intro (fun _ => ?_) (fun _ => ?_)) <;> try simp (config := { maxSteps := 2000000 }) only [Kon, push_cast, reduceIte, Nat.reduceEqDiff, Nat.reduceAdd, Nat.reduceMul, Nat.reduceSub, Nat.reduceLT, Nat.reduceLeDiff, Int.reduceLT, Int.reduceLE, Int.reduceAdd, Int.reduceSub, Int.reduceNeg, Int.reduceToNat, Int.reduceEq, reduceCtorEq, *])
      | refine And.intro trivial ?_
      | refine And.intro (by omega) ?_
      | refine AW_cond rfl (fun _ => ?_) (fun _ => ?_)
      | refine And.intro ?_ ?_
    refine Fin_same ?_
    exact h.out
end Go.Proofs.YtpednpndahgleaaGreatDoor.Av
