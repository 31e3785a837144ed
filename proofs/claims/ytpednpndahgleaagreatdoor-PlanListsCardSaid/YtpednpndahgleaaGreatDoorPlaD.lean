/- Rows of numbers cloned, looked through, thinned out: the walks of the library's bodies. -/
import Derived.Test.YtpednpndahgleaaGreatDoorCodeP
import Derived.Test.YtpednpndahgleaaGreatDoorPlaG
import Derived.Test.YtpednpndahgleaaGreatDoorAvV
set_option linter.unusedSimpArgs false
set_option linter.unusedVariables false
namespace Go.Proofs.YtpednpndahgleaaGreatDoor.Av
open Go
set_option maxHeartbeats 8000000
set_option maxRecDepth 100000

theorem clone0_k {cap : Option Nat} {L : List Blk} {K : AV → List Blk → Prop} (h : K (.sl [] 0 (some 0)) L) : ACall Tryz.prog 87 [.sl [] 0 cap] L K := by
  refine ACall_fn c_slices_Clone_int_int_eq (by simp [c_slices_Clone_int_int]) ?_
  simp only [c_slices_Clone_int_int, initT]
  repeat' first
    | refine AW_seq ?_
    | (first | refine AW_sreg (by kernel_rfl) ?_ | refine AW_sdreg (by kernel_rfl) ?_ | refine AW_dregM ?_ | refine Nx_in ?_ | refine NxI_in (fun _ => ?_) | refine AW_region ?_ | refine AW_dreg ?_)
      simp (config := { maxSteps := 2000000 }) only [Kon, push_cast, reduceIte, Nat.reduceEqDiff, Nat.reduceAdd, Nat.reduceMul, Nat.reduceSub, Nat.reduceLT, Nat.reduceLeDiff, Int.reduceLT, Int.reduceLE, Int.reduceAdd, Int.reduceSub, Int.reduceNeg, Int.reduceToNat, Int.reduceEq, reduceCtorEq, *]
    | (first | refine SelK_mk (by kernel_rfl) ?_ | refine AW_skip ?_ | refine AW_exit ?_ | refine AW_ret (Back_retR ?_))
      simp only [push_cast, reduceIte, Nat.reduceEqDiff, Nat.reduceAdd, Nat.reduceMul, Nat.reduceSub, Nat.reduceLT, Nat.reduceLeDiff, Int.reduceLT, Int.reduceLE, Int.reduceAdd, Int.reduceSub, Int.reduceNeg, Int.reduceToNat, Int.reduceEq, reduceCtorEq, *]
    | exact IsB_mk
    | first | apply GQ_mkT | apply GQ_mkTN | apply GQ_mkF | apply GQ_mkFN | apply GQ_mkB | apply GQ_mkBF
    | refine AW_block ?_
    | first | refine AW_condT rfl ?_ | refine AW_condF rfl ?_ | refine AW_condAny rfl ?_ ?_ | refine AW_condB rfl (fun _ => ?_) (fun _ => ?_) | refine AW_condN rfl (fun _ => ?_) (fun _ => ?_)
    | ((first | refine ite_introN (fun _ => ?_) (fun _ => ?_) | refine ite_intro (fun _ => ?_) (fun _ => ?_)) <;> try simp (config := { maxSteps := 2000000 }) only [Kon, push_cast, reduceIte, Nat.reduceEqDiff, Nat.reduceAdd, Nat.reduceMul, Nat.reduceSub, Nat.reduceLT, Nat.reduceLeDiff, Int.reduceLT, Int.reduceLE, Int.reduceAdd, Int.reduceSub, Int.reduceNeg, Int.reduceToNat, Int.reduceEq, reduceCtorEq, *])
    | refine And.intro trivial ?_
    | refine And.intro (by omega) ?_
    | refine AW_cond rfl (fun _ => ?_) (fun _ => ?_)
    | refine And.intro ?_ ?_
  all_goals (first | refine Fin_pure rfl (Kto h ?_) | refine Fin_same (Kto h ?_) | refine Fin_pure (by simp only [AV.refs, AV.refsL, *]; rfl) (Kto h ?_) | refine Fin_frz (Fin_pure rfl (Kto h ?_)) | (trace_state; fail))
  all_goals (first | (simp [*]; done) | (simp [*]; omega) | (simp [*]; intros; omega) | (simp_all [Hid, Hid]; done) | (simp_all [Hid, Hid]; omega))
theorem clone_k {xs : List Int} {cap : Option Nat} {L : List Blk} {K : AV → List Blk → Prop} (h0 : xs.length ≠ 0) (hn : xs.length ≤ 1000000) (h : K (.lsl L.length 0 xs.length none 1) (L ++ [.cells (ints xs)])) :
    ACall Tryz.prog 87 [.sl (ints xs) xs.length cap] L K := by
  refine ACall_fn c_slices_Clone_int_int_eq (by simp [c_slices_Clone_int_int]) ?_
  simp only [c_slices_Clone_int_int, initT]
  repeat' first
    | refine AW_seq ?_
    | (first | refine AW_sreg (by kernel_rfl) ?_ | refine AW_sdreg (by kernel_rfl) ?_ | refine AW_dregM ?_ | refine Nx_in ?_ | refine NxI_in (fun _ => ?_) | refine AW_region ?_ | refine AW_dreg ?_)
      simp (config := { maxSteps := 2000000 }) only [Kon, push_cast, reduceIte, Nat.reduceEqDiff, Nat.reduceAdd, Nat.reduceMul, Nat.reduceSub, Nat.reduceLT, Nat.reduceLeDiff, Int.reduceLT, Int.reduceLE, Int.reduceAdd, Int.reduceSub, Int.reduceNeg, Int.reduceToNat, Int.reduceEq, reduceCtorEq, *]
    | (first | refine SelK_mk (by kernel_rfl) ?_ | refine AW_skip ?_ | refine AW_exit ?_ | refine AW_ret (Back_retR ?_))
      simp only [push_cast, reduceIte, Nat.reduceEqDiff, Nat.reduceAdd, Nat.reduceMul, Nat.reduceSub, Nat.reduceLT, Nat.reduceLeDiff, Int.reduceLT, Int.reduceLE, Int.reduceAdd, Int.reduceSub, Int.reduceNeg, Int.reduceToNat, Int.reduceEq, reduceCtorEq, *]
    | exact IsB_mk
    | first | apply GQ_mkT | apply GQ_mkTN | apply GQ_mkF | apply GQ_mkFN | apply GQ_mkB | apply GQ_mkBF
    | refine AW_block ?_
    | first | refine AW_condT rfl ?_ | refine AW_condF rfl ?_ | refine AW_condAny rfl ?_ ?_ | refine AW_condB rfl (fun _ => ?_) (fun _ => ?_) | refine AW_condN rfl (fun _ => ?_) (fun _ => ?_)
    | ((first | refine ite_introN (fun _ => ?_) (fun _ => ?_) | refine ite_intro (fun _ => ?_) (fun _ => ?_)) <;> try simp (config := { maxSteps := 2000000 }) only [Kon, push_cast, reduceIte, Nat.reduceEqDiff, Nat.reduceAdd, Nat.reduceMul, Nat.reduceSub, Nat.reduceLT, Nat.reduceLeDiff, Int.reduceLT, Int.reduceLE, Int.reduceAdd, Int.reduceSub, Int.reduceNeg, Int.reduceToNat, Int.reduceEq, reduceCtorEq, *])
    | refine And.intro trivial ?_
    | refine And.intro (by omega) ?_
    | refine AW_cond rfl (fun _ => ?_) (fun _ => ?_)
    | refine And.intro ?_ ?_
  refine Fin_own L.length (.cells (ints xs)) rfl (Nat.le_refl _) (by simp) (by simp [AV.refs]) (refs_ints xs) ?_
  simpa [AV.ren] using h

/-- A test of numbers, as a function value: whatever the blocks are that it may look at. -/
def Test (f : FuncId) (caps : List AV) (ok : List Blk → Prop) (q : Int → Bool) : Prop := ∀ (L : List Blk) (x : Int) (K : AV → List Blk → Prop), ok L → K (.bool (q x)) L → ACall Tryz.prog f ([.int .i64 x] ++ caps) L K

theorem idx_k {f : FuncId} {caps : List AV} {ok : List Blk → Prop} {q : Int → Bool} {xs : List Int} {i : Nat} {cp : Option Nat} {rest : List AV} {L : List Blk} {K : AV → List Blk → Prop} (hq : Test f caps ok q) (hok : ok L) (hn : xs.length ≤ 1000000) (hL : L[i]? = some (.cells (ints xs ++ rest)))
    (h1 : (∀ j, j < xs.length → q (xs.getD j 0) = false) → K (.int .i64 (-1)) L) (h2 : ∀ k : Nat, k < xs.length → (∀ j, j < k → q (xs.getD j 0) = false) → q (xs.getD k 0) = true → K (.int .i64 k) L) : ACall Tryz.prog 89 [.lsl i 0 xs.length cp 1, .func f caps] L K := by
  refine ACall_fn c_slices_IndexFunc_int_int_eq (by simp [c_slices_IndexFunc_int_int]) ?_
  simp only [c_slices_IndexFunc_int_int, initT]
  replace hq := hid hq
  replace h1 := hid h1
  replace h2 := hid h2
  repeat' first
    | refine AW_seq ?_
    | (first | refine AW_sreg (by kernel_rfl) ?_ | refine AW_sdreg (by kernel_rfl) ?_ | refine AW_dregM ?_ | refine Nx_in ?_ | refine NxI_in (fun _ => ?_) | refine AW_region ?_ | refine AW_dreg ?_)
      simp (config := { maxSteps := 2000000 }) only [Kon, push_cast, reduceIte, Nat.reduceEqDiff, Nat.reduceAdd, Nat.reduceMul, Nat.reduceSub, Nat.reduceLT, Nat.reduceLeDiff, Int.reduceLT, Int.reduceLE, Int.reduceAdd, Int.reduceSub, Int.reduceNeg, Int.reduceToNat, Int.reduceEq, reduceCtorEq, *]
    | (first | refine SelK_mk (by kernel_rfl) ?_ | refine AW_skip ?_ | refine AW_exit ?_ | refine AW_ret (Back_retR ?_))
      simp only [push_cast, reduceIte, Nat.reduceEqDiff, Nat.reduceAdd, Nat.reduceMul, Nat.reduceSub, Nat.reduceLT, Nat.reduceLeDiff, Int.reduceLT, Int.reduceLE, Int.reduceAdd, Int.reduceSub, Int.reduceNeg, Int.reduceToNat, Int.reduceEq, reduceCtorEq, *]
    | exact IsB_mk
    | first | apply GQ_mkT | apply GQ_mkTN | apply GQ_mkF | apply GQ_mkFN | apply GQ_mkB | apply GQ_mkBF
    | refine AW_block ?_
    | first | refine AW_condT rfl ?_ | refine AW_condF rfl ?_ | refine AW_condAny rfl ?_ ?_ | refine AW_condB rfl (fun _ => ?_) (fun _ => ?_) | refine AW_condN rfl (fun _ => ?_) (fun _ => ?_)
    | ((first | refine ite_introN (fun _ => ?_) (fun _ => ?_) | refine ite_intro (fun _ => ?_) (fun _ => ?_)) <;> try simp (config := { maxSteps := 2000000 }) only [Kon, push_cast, reduceIte, Nat.reduceEqDiff, Nat.reduceAdd, Nat.reduceMul, Nat.reduceSub, Nat.reduceLT, Nat.reduceLeDiff, Int.reduceLT, Int.reduceLE, Int.reduceAdd, Int.reduceSub, Int.reduceNeg, Int.reduceToNat, Int.reduceEq, reduceCtorEq, *])
    | refine And.intro trivial ?_
    | refine And.intro (by omega) ?_
    | refine AW_cond rfl (fun _ => ?_) (fun _ => ?_)
    | refine And.intro ?_ ?_
  refine AW_loopT (fun n T' L' => ∃ k : Nat, n = xs.length - k ∧ k ≤ xs.length ∧ T' = [(8, .int .i64 (k : Int)), (7, .int .i64 xs.length), (0, .lsl i 0 xs.length cp 1), (1, .func f caps)] ∧ L' = L ∧
    ∀ j, j < k → q (xs.getD j 0) = false) (Cut_same (by repeat' first | exact SubT_nil | refine SubT_cons rfl rfl ?_ | refine SubT_consF rfl rfl ?_) (Nat.le_refl _)) ⟨0, rfl, Nat.zero_le _, rfl, rfl, by simp⟩ ?_
  rintro _ _ _ ⟨k, rfl, hk, rfl, rfl, hr⟩
  replace hr := hid hr
  by_cases hlt : k < xs.length
  · have g1 : (k : Int) < (xs.length : Int) := by omega
    have g2 : IntKind.i64.wrap ((k : Int) + 1) = (k : Int) + 1 := wrap64_in (by omega) (by omega)
    have g7 : (xs.map (AV.int .i64) ++ rest).getD k .undef = .int .i64 (xs.getD k 0) := by
      rw [List.getD_eq_getElem?_getD, List.getElem?_append_left (by simp; omega)]; simp [hlt]
    repeat' first
      | refine AW_seq ?_
      | (first | refine AW_sreg (by kernel_rfl) ?_ | refine AW_sdreg (by kernel_rfl) ?_ | refine AW_dregM ?_ | refine Nx_in ?_ | refine NxI_in (fun _ => ?_) | refine AW_region ?_ | refine AW_dreg ?_)
        simp (config := { maxSteps := 2000000 }) only [Kon, push_cast, reduceIte, Nat.reduceEqDiff, Nat.reduceAdd, Nat.reduceMul, Nat.reduceSub, Nat.reduceLT, Nat.reduceLeDiff, Int.reduceLT, Int.reduceLE, Int.reduceAdd, Int.reduceSub, Int.reduceNeg, Int.reduceToNat, Int.reduceEq, reduceCtorEq, *]
      | (first | refine SelK_mk (by kernel_rfl) ?_ | refine AW_skip ?_ | refine AW_exit ?_ | refine AW_ret (Back_retR ?_))
        simp only [push_cast, reduceIte, Nat.reduceEqDiff, Nat.reduceAdd, Nat.reduceMul, Nat.reduceSub, Nat.reduceLT, Nat.reduceLeDiff, Int.reduceLT, Int.reduceLE, Int.reduceAdd, Int.reduceSub, Int.reduceNeg, Int.reduceToNat, Int.reduceEq, reduceCtorEq, *]
      | exact IsB_mk
      | first | apply GQ_mkT | apply GQ_mkTN | apply GQ_mkF | apply GQ_mkFN | apply GQ_mkB | apply GQ_mkBF
      | refine AW_block ?_
      | first | refine AW_condT rfl ?_ | refine AW_condF rfl ?_ | refine AW_condAny rfl ?_ ?_ | refine AW_condB rfl (fun _ => ?_) (fun _ => ?_) | refine AW_condN rfl (fun _ => ?_) (fun _ => ?_)
      | ((first | refine ite_introN (fun _ => ?_) (fun _ => ?_) | refine ite_intro (fun _ => ?_) (fun _ => ?_)) <;> try simp (config := { maxSteps := 2000000 }) only [Kon, push_cast, reduceIte, Nat.reduceEqDiff, Nat.reduceAdd, Nat.reduceMul, Nat.reduceSub, Nat.reduceLT, Nat.reduceLeDiff, Int.reduceLT, Int.reduceLE, Int.reduceAdd, Int.reduceSub, Int.reduceNeg, Int.reduceToNat, Int.reduceEq, reduceCtorEq, *])
      | refine And.intro trivial ?_
      | refine And.intro (by omega) ?_
      | refine AW_cond rfl (fun _ => ?_) (fun _ => ?_)
      | refine And.intro ?_ ?_
    refine hq.out _ _ _ hok ?_
    simp only [Kon, push_cast, reduceIte, Nat.reduceEqDiff, Nat.reduceAdd, Nat.reduceMul, Nat.reduceSub, Nat.reduceLT, Nat.reduceLeDiff, Int.reduceLT, Int.reduceLE, Int.reduceAdd, Int.reduceSub, Int.reduceNeg, Int.reduceToNat, Int.reduceEq, reduceCtorEq, *]
    rcases hqk : q (xs.getD k 0) with _ | _
    · repeat' first
        | refine AW_seq ?_
        | (first | refine AW_sreg (by kernel_rfl) ?_ | refine AW_sdreg (by kernel_rfl) ?_ | refine AW_dregM ?_ | refine Nx_in ?_ | refine NxI_in (fun _ => ?_) | refine AW_region ?_ | refine AW_dreg ?_)
          simp (config := { maxSteps := 2000000 }) only [Kon, push_cast, reduceIte, Nat.reduceEqDiff, Nat.reduceAdd, Nat.reduceMul, Nat.reduceSub, Nat.reduceLT, Nat.reduceLeDiff, Int.reduceLT, Int.reduceLE, Int.reduceAdd, Int.reduceSub, Int.reduceNeg, Int.reduceToNat, Int.reduceEq, reduceCtorEq, *]
        | (first | refine SelK_mk (by kernel_rfl) ?_ | refine AW_skip ?_ | refine AW_exit ?_ | refine AW_ret (Back_retR ?_))
          simp only [push_cast, reduceIte, Nat.reduceEqDiff, Nat.reduceAdd, Nat.reduceMul, Nat.reduceSub, Nat.reduceLT, Nat.reduceLeDiff, Int.reduceLT, Int.reduceLE, Int.reduceAdd, Int.reduceSub, Int.reduceNeg, Int.reduceToNat, Int.reduceEq, reduceCtorEq, *]
        | exact IsB_mk
        | first | apply GQ_mkT | apply GQ_mkTN | apply GQ_mkF | apply GQ_mkFN | apply GQ_mkB | apply GQ_mkBF
        | refine AW_block ?_
        | first | refine AW_condT rfl ?_ | refine AW_condF rfl ?_ | refine AW_condAny rfl ?_ ?_ | refine AW_condB rfl (fun _ => ?_) (fun _ => ?_) | refine AW_condN rfl (fun _ => ?_) (fun _ => ?_)
        | ((first | refine ite_introN (fun _ => ?_) (fun _ => ?_) | refine ite_intro (fun _ => ?_) (fun _ => ?_)) <;> try simp (config := { maxSteps := 2000000 }) only [Kon, push_cast, reduceIte, Nat.reduceEqDiff, Nat.reduceAdd, Nat.reduceMul, Nat.reduceSub, Nat.reduceLT, Nat.reduceLeDiff, Int.reduceLT, Int.reduceLE, Int.reduceAdd, Int.reduceSub, Int.reduceNeg, Int.reduceToNat, Int.reduceEq, reduceCtorEq, *])
        | refine And.intro trivial ?_
        | refine And.intro (by omega) ?_
        | refine AW_cond rfl (fun _ => ?_) (fun _ => ?_)
        | refine And.intro ?_ ?_
      refine Nxt_mk _ _ _ ?_ (Cut_same (by repeat' first | exact SubT_nil | refine SubT_cons rfl rfl ?_ | refine SubT_consF rfl rfl ?_ | refine SubT_cons rfl (congrArg (AV.int _) (by omega)) ?_ | refine SubT_cons rfl (by first | (simp_all; done) | (simp_all; omega) | (simp_all; intros; omega)) ?_) (Nat.le_refl _)) ⟨k + 1, rfl, hlt, rfl, rfl, fun j hj => ?_⟩
      · omega
      · rcases Nat.lt_or_ge j k with h | h
        · exact hr.out j h
        · have : j = k := by omega
          subst this; exact hqk
    · repeat' first
        | refine AW_seq ?_
        | (first | refine AW_sreg (by kernel_rfl) ?_ | refine AW_sdreg (by kernel_rfl) ?_ | refine AW_dregM ?_ | refine Nx_in ?_ | refine NxI_in (fun _ => ?_) | refine AW_region ?_ | refine AW_dreg ?_)
          simp (config := { maxSteps := 2000000 }) only [Kon, push_cast, reduceIte, Nat.reduceEqDiff, Nat.reduceAdd, Nat.reduceMul, Nat.reduceSub, Nat.reduceLT, Nat.reduceLeDiff, Int.reduceLT, Int.reduceLE, Int.reduceAdd, Int.reduceSub, Int.reduceNeg, Int.reduceToNat, Int.reduceEq, reduceCtorEq, *]
        | (first | refine SelK_mk (by kernel_rfl) ?_ | refine AW_skip ?_ | refine AW_exit ?_ | refine AW_ret (Back_retR ?_))
          simp only [push_cast, reduceIte, Nat.reduceEqDiff, Nat.reduceAdd, Nat.reduceMul, Nat.reduceSub, Nat.reduceLT, Nat.reduceLeDiff, Int.reduceLT, Int.reduceLE, Int.reduceAdd, Int.reduceSub, Int.reduceNeg, Int.reduceToNat, Int.reduceEq, reduceCtorEq, *]
        | exact IsB_mk
        | first | apply GQ_mkT | apply GQ_mkTN | apply GQ_mkF | apply GQ_mkFN | apply GQ_mkB | apply GQ_mkBF
        | refine AW_block ?_
        | first | refine AW_condT rfl ?_ | refine AW_condF rfl ?_ | refine AW_condAny rfl ?_ ?_ | refine AW_condB rfl (fun _ => ?_) (fun _ => ?_) | refine AW_condN rfl (fun _ => ?_) (fun _ => ?_)
        | ((first | refine ite_introN (fun _ => ?_) (fun _ => ?_) | refine ite_intro (fun _ => ?_) (fun _ => ?_)) <;> try simp (config := { maxSteps := 2000000 }) only [Kon, push_cast, reduceIte, Nat.reduceEqDiff, Nat.reduceAdd, Nat.reduceMul, Nat.reduceSub, Nat.reduceLT, Nat.reduceLeDiff, Int.reduceLT, Int.reduceLE, Int.reduceAdd, Int.reduceSub, Int.reduceNeg, Int.reduceToNat, Int.reduceEq, reduceCtorEq, *])
        | refine And.intro trivial ?_
        | refine And.intro (by omega) ?_
        | refine AW_cond rfl (fun _ => ?_) (fun _ => ?_)
        | refine And.intro ?_ ?_
      exact Fin_same (h2.out k hlt hr.out hqk)
  · have g1 : ¬ (k : Int) < (xs.length : Int) := by omega
    repeat' first
      | refine AW_seq ?_
      | (first | refine AW_sreg (by kernel_rfl) ?_ | refine AW_sdreg (by kernel_rfl) ?_ | refine AW_dregM ?_ | refine Nx_in ?_ | refine NxI_in (fun _ => ?_) | refine AW_region ?_ | refine AW_dreg ?_)
        simp (config := { maxSteps := 2000000 }) only [Kon, push_cast, reduceIte, Nat.reduceEqDiff, Nat.reduceAdd, Nat.reduceMul, Nat.reduceSub, Nat.reduceLT, Nat.reduceLeDiff, Int.reduceLT, Int.reduceLE, Int.reduceAdd, Int.reduceSub, Int.reduceNeg, Int.reduceToNat, Int.reduceEq, reduceCtorEq, *]
      | (first | refine SelK_mk (by kernel_rfl) ?_ | refine AW_skip ?_ | refine AW_exit ?_ | refine AW_ret (Back_retR ?_))
        simp only [push_cast, reduceIte, Nat.reduceEqDiff, Nat.reduceAdd, Nat.reduceMul, Nat.reduceSub, Nat.reduceLT, Nat.reduceLeDiff, Int.reduceLT, Int.reduceLE, Int.reduceAdd, Int.reduceSub, Int.reduceNeg, Int.reduceToNat, Int.reduceEq, reduceCtorEq, *]
      | exact IsB_mk
      | first | apply GQ_mkT | apply GQ_mkTN | apply GQ_mkF | apply GQ_mkFN | apply GQ_mkB | apply GQ_mkBF
      | refine AW_block ?_
      | first | refine AW_condT rfl ?_ | refine AW_condF rfl ?_ | refine AW_condAny rfl ?_ ?_ | refine AW_condB rfl (fun _ => ?_) (fun _ => ?_) | refine AW_condN rfl (fun _ => ?_) (fun _ => ?_)
      | ((first | refine ite_introN (fun _ => ?_) (fun _ => ?_) | refine ite_intro (fun _ => ?_) (fun _ => ?_)) <;> try simp (config := { maxSteps := 2000000 }) only [Kon, push_cast, reduceIte, Nat.reduceEqDiff, Nat.reduceAdd, Nat.reduceMul, Nat.reduceSub, Nat.reduceLT, Nat.reduceLeDiff, Int.reduceLT, Int.reduceLE, Int.reduceAdd, Int.reduceSub, Int.reduceNeg, Int.reduceToNat, Int.reduceEq, reduceCtorEq, *])
      | refine And.intro trivial ?_
      | refine And.intro (by omega) ?_
      | refine AW_cond rfl (fun _ => ?_) (fun _ => ?_)
      | refine And.intro ?_ ?_
    exact Fin_same (h1.out fun j hj => hr.out j (by omega))

theorem set_set_lem {L : List Blk} {i : Nat} {a b : Blk} : (L.set i a).set i b = L.set i b := List.set_set ..

theorem del_k {f : FuncId} {caps : List AV} {ok : List Blk → Prop} {q : Int → Bool} {xs : List Int} {i : Nat} {L : List Blk} {K : AV → List Blk → Prop} (hq : Test f caps ok q) (hok : ∀ l, ok (L.set i (.cells l))) (hn : xs.length ≤ 1000000) (hL : L[i]? = some (.cells (ints xs)))
    (h : ∀ z, K (.lsl i 0 (xs.filter fun x => !q x).length none 1) (L.set i (.cells (ints (xs.filter fun x => !q x) ++ ints (List.replicate z 0))))) :
    ACall Tryz.prog 55 [.lsl i 0 xs.length none 1, .func f caps] L K := by
  have hi : i < L.length := (List.getElem?_eq_some_iff.1 hL).1
  have hset : ∀ c, (L.set i c)[i]? = some c := fun c => by simp [hi]
  have hok0 : ok L := by have := hok (ints xs); rwa [set_same' hL] at this
  replace hq := hid hq
  replace hok := hid hok
  refine ACall_fn c_slices_DeleteFunc_int_int_eq (by simp [c_slices_DeleteFunc_int_int]) ?_
  simp only [c_slices_DeleteFunc_int_int, initT]
  repeat' first
    | refine AW_seq ?_
    | (first | refine AW_sreg (by kernel_rfl) ?_ | refine AW_sdreg (by kernel_rfl) ?_ | refine AW_dregM ?_ | refine Nx_in ?_ | refine NxI_in (fun _ => ?_) | refine AW_region ?_ | refine AW_dreg ?_)
      simp (config := { maxSteps := 2000000 }) only [Kon, push_cast, reduceIte, Nat.reduceEqDiff, Nat.reduceAdd, Nat.reduceMul, Nat.reduceSub, Nat.reduceLT, Nat.reduceLeDiff, Int.reduceLT, Int.reduceLE, Int.reduceAdd, Int.reduceSub, Int.reduceNeg, Int.reduceToNat, Int.reduceEq, reduceCtorEq, *]
    | (first | refine SelK_mk (by kernel_rfl) ?_ | refine AW_skip ?_ | refine AW_exit ?_ | refine AW_ret (Back_retR ?_))
      simp only [push_cast, reduceIte, Nat.reduceEqDiff, Nat.reduceAdd, Nat.reduceMul, Nat.reduceSub, Nat.reduceLT, Nat.reduceLeDiff, Int.reduceLT, Int.reduceLE, Int.reduceAdd, Int.reduceSub, Int.reduceNeg, Int.reduceToNat, Int.reduceEq, reduceCtorEq, *]
    | exact IsB_mk
    | first | apply GQ_mkT | apply GQ_mkTN | apply GQ_mkF | apply GQ_mkFN | apply GQ_mkB | apply GQ_mkBF
    | refine AW_block ?_
    | first | refine AW_condT rfl ?_ | refine AW_condF rfl ?_ | refine AW_condAny rfl ?_ ?_ | refine AW_condB rfl (fun _ => ?_) (fun _ => ?_) | refine AW_condN rfl (fun _ => ?_) (fun _ => ?_)
    | ((first | refine ite_introN (fun _ => ?_) (fun _ => ?_) | refine ite_intro (fun _ => ?_) (fun _ => ?_)) <;> try simp (config := { maxSteps := 2000000 }) only [Kon, push_cast, reduceIte, Nat.reduceEqDiff, Nat.reduceAdd, Nat.reduceMul, Nat.reduceSub, Nat.reduceLT, Nat.reduceLeDiff, Int.reduceLT, Int.reduceLE, Int.reduceAdd, Int.reduceSub, Int.reduceNeg, Int.reduceToNat, Int.reduceEq, reduceCtorEq, *])
    | refine And.intro trivial ?_
    | refine And.intro (by omega) ?_
    | refine AW_cond rfl (fun _ => ?_) (fun _ => ?_)
    | refine And.intro ?_ ?_
  refine idx_k (rest := []) hq.out hok0 hn (by simpa using hL) (fun hno => ?_) (fun a ha hpre hqa => ?_)
  · have hf : xs.filter (fun x => !q x) = xs := List.filter_eq_self.2 fun x hx => by
      obtain ⟨j, hj, rfl⟩ := List.mem_iff_getElem.1 hx
      have := hno j hj
      simp [hj] at this; simp [this]
    have h0 := h 0
    rw [hf] at h0
    simp only [List.replicate_zero, List.map_nil, List.append_nil, set_same' hL] at h0
    replace h0 := hid h0
    clear h hf hno
    simp only [Kon, push_cast, reduceIte, Nat.reduceEqDiff, Nat.reduceAdd, Nat.reduceMul, Nat.reduceSub, Nat.reduceLT, Nat.reduceLeDiff, Int.reduceLT, Int.reduceLE, Int.reduceAdd, Int.reduceSub, Int.reduceNeg, Int.reduceToNat, Int.reduceEq, reduceCtorEq, *]
    repeat' first
      | refine AW_seq ?_
      | (first | refine AW_sreg (by kernel_rfl) ?_ | refine AW_sdreg (by kernel_rfl) ?_ | refine AW_dregM ?_ | refine Nx_in ?_ | refine NxI_in (fun _ => ?_) | refine AW_region ?_ | refine AW_dreg ?_)
        simp (config := { maxSteps := 2000000 }) only [Kon, push_cast, reduceIte, Nat.reduceEqDiff, Nat.reduceAdd, Nat.reduceMul, Nat.reduceSub, Nat.reduceLT, Nat.reduceLeDiff, Int.reduceLT, Int.reduceLE, Int.reduceAdd, Int.reduceSub, Int.reduceNeg, Int.reduceToNat, Int.reduceEq, reduceCtorEq, *]
      | (first | refine SelK_mk (by kernel_rfl) ?_ | refine AW_skip ?_ | refine AW_exit ?_ | refine AW_ret (Back_retR ?_))
        simp only [push_cast, reduceIte, Nat.reduceEqDiff, Nat.reduceAdd, Nat.reduceMul, Nat.reduceSub, Nat.reduceLT, Nat.reduceLeDiff, Int.reduceLT, Int.reduceLE, Int.reduceAdd, Int.reduceSub, Int.reduceNeg, Int.reduceToNat, Int.reduceEq, reduceCtorEq, *]
      | exact IsB_mk
      | first | apply GQ_mkT | apply GQ_mkTN | apply GQ_mkF | apply GQ_mkFN | apply GQ_mkB | apply GQ_mkBF
      | refine AW_block ?_
      | first | refine AW_condT rfl ?_ | refine AW_condF rfl ?_ | refine AW_condAny rfl ?_ ?_ | refine AW_condB rfl (fun _ => ?_) (fun _ => ?_) | refine AW_condN rfl (fun _ => ?_) (fun _ => ?_)
      | ((first | refine ite_introN (fun _ => ?_) (fun _ => ?_) | refine ite_intro (fun _ => ?_) (fun _ => ?_)) <;> try simp (config := { maxSteps := 2000000 }) only [Kon, push_cast, reduceIte, Nat.reduceEqDiff, Nat.reduceAdd, Nat.reduceMul, Nat.reduceSub, Nat.reduceLT, Nat.reduceLeDiff, Int.reduceLT, Int.reduceLE, Int.reduceAdd, Int.reduceSub, Int.reduceNeg, Int.reduceToNat, Int.reduceEq, reduceCtorEq, *])
      | refine And.intro trivial ?_
      | refine And.intro (by omega) ?_
      | refine AW_cond rfl (fun _ => ?_) (fun _ => ?_)
      | refine And.intro ?_ ?_
    exact Fin_same h0.out
  · replace h := hid h
    replace hpre := hid hpre
    replace hqa := hid hqa
    have g1 : (a : Int) ≠ -1 := by omega
    have g2 : IntKind.i64.wrap ((a : Int) + 1) = (a : Int) + 1 := wrap64_in (by omega) (by omega)
    simp only [Kon, push_cast, reduceIte, Nat.reduceEqDiff, Nat.reduceAdd, Nat.reduceMul, Nat.reduceSub, Nat.reduceLT, Nat.reduceLeDiff, Int.reduceLT, Int.reduceLE, Int.reduceAdd, Int.reduceSub, Int.reduceNeg, Int.reduceToNat, Int.reduceEq, reduceCtorEq, *]
    repeat' first
      | refine AW_seq ?_
      | (first | refine AW_sreg (by kernel_rfl) ?_ | refine AW_sdreg (by kernel_rfl) ?_ | refine AW_dregM ?_ | refine Nx_in ?_ | refine NxI_in (fun _ => ?_) | refine AW_region ?_ | refine AW_dreg ?_)
        simp (config := { maxSteps := 2000000 }) only [Kon, push_cast, reduceIte, Nat.reduceEqDiff, Nat.reduceAdd, Nat.reduceMul, Nat.reduceSub, Nat.reduceLT, Nat.reduceLeDiff, Int.reduceLT, Int.reduceLE, Int.reduceAdd, Int.reduceSub, Int.reduceNeg, Int.reduceToNat, Int.reduceEq, reduceCtorEq, *]
      | (first | refine SelK_mk (by kernel_rfl) ?_ | refine AW_skip ?_ | refine AW_exit ?_ | refine AW_ret (Back_retR ?_))
        simp only [push_cast, reduceIte, Nat.reduceEqDiff, Nat.reduceAdd, Nat.reduceMul, Nat.reduceSub, Nat.reduceLT, Nat.reduceLeDiff, Int.reduceLT, Int.reduceLE, Int.reduceAdd, Int.reduceSub, Int.reduceNeg, Int.reduceToNat, Int.reduceEq, reduceCtorEq, *]
      | exact IsB_mk
      | first | apply GQ_mkT | apply GQ_mkTN | apply GQ_mkF | apply GQ_mkFN | apply GQ_mkB | apply GQ_mkBF
      | refine AW_block ?_
      | first | refine AW_condT rfl ?_ | refine AW_condF rfl ?_ | refine AW_condAny rfl ?_ ?_ | refine AW_condB rfl (fun _ => ?_) (fun _ => ?_) | refine AW_condN rfl (fun _ => ?_) (fun _ => ?_)
      | ((first | refine ite_introN (fun _ => ?_) (fun _ => ?_) | refine ite_intro (fun _ => ?_) (fun _ => ?_)) <;> try simp (config := { maxSteps := 2000000 }) only [Kon, push_cast, reduceIte, Nat.reduceEqDiff, Nat.reduceAdd, Nat.reduceMul, Nat.reduceSub, Nat.reduceLT, Nat.reduceLeDiff, Int.reduceLT, Int.reduceLE, Int.reduceAdd, Int.reduceSub, Int.reduceNeg, Int.reduceToNat, Int.reduceEq, reduceCtorEq, *])
      | refine And.intro trivial ?_
      | refine And.intro (by omega) ?_
      | refine AW_cond rfl (fun _ => ?_) (fun _ => ?_)
      | refine And.intro ?_ ?_
    have hfx : ∀ j, j < xs.length → xs.take (j + 1) = xs.take j ++ [xs.getD j 0] := fun j hj => by
      rw [List.take_succ_eq_append_getElem hj]; simp [hj]
    replace hfx := hid hfx
    refine AW_loopT (fun n T' L' => ∃ (a j : Nat) (cs : List Int), n = xs.length - j ∧ a < j ∧ j ≤ xs.length ∧ cs.length = xs.length ∧ T' = [(6, .int .i64 (j : Int)), (5, .int .i64 (a : Int)), (0, .lsl i 0 xs.length none 1), (1, .func f caps)] ∧ L' = L.set i (.cells (ints cs)) ∧
      cs.take a = (xs.take j).filter (fun x => !q x) ∧ cs.drop j = xs.drop j) (n0 := xs.length - (a + 1)) (T0 := [(6, .int .i64 ((a + 1 : Nat) : Int)), (5, .int .i64 (a : Int)), (0, .lsl i 0 xs.length none 1), (1, .func f caps)]) (L0 := L.set i (.cells (ints xs))) (by rw [set_same' hL]; exact Cut_same (by repeat' first | exact SubT_nil | refine SubT_cons rfl rfl ?_ | refine SubT_consF rfl rfl ?_) (Nat.le_refl _))
      ⟨a, a + 1, xs, rfl, by omega, ha, rfl, rfl, rfl, ?_, rfl⟩ ?_
    · rw [hfx.out a ha, List.filter_append]
      have h1 : (xs.take a).filter (fun x => !q x) = xs.take a := List.filter_eq_self.2 fun x hx => by
        obtain ⟨j, hj, rfl⟩ := List.mem_iff_getElem.1 hx
        rw [List.length_take] at hj
        have hj2 : j < xs.length := by omega
        have := hpre.out j (by omega)
        simp [hj2] at this; simp [this]
      have h2 : q (xs[a]?.getD 0) = true := by have := hqa.out; simpa using this
      simp [h1, h2]
    clear ha hpre hqa g1 g2
    clear a
    rintro _ _ _ ⟨a, j, cs, rfl, haj, hj, hcs, rfl, rfl, hta, hdr⟩
    replace hta := hid hta
    replace hdr := hid hdr
    replace hcs := hid hcs
    by_cases hlt : j < xs.length
    · have g1 : (j : Int) < (xs.length : Int) := by omega
      have g2 : IntKind.i64.wrap ((j : Int) + 1) = (j : Int) + 1 := wrap64_in (by omega) (by omega)
      have g3 : IntKind.i64.wrap ((a : Int) + 1) = (a : Int) + 1 := wrap64_in (by omega) (by omega)
      have hcj : cs.getD j 0 = xs.getD j 0 := by
        have := congrArg (fun l => l[0]?) hdr.out
        simp only [List.getElem?_drop, Nat.add_zero] at this
        rw [List.getD_eq_getElem?_getD, List.getD_eq_getElem?_getD, this]
      have g4 : (cs.map (AV.int .i64)).getD j .undef = .int .i64 (xs.getD j 0) := by
        rw [← hcj]; simp [show j < cs.length by rw [hcs.out]; exact hlt]
      have g5 : List.take a (cs.map (AV.int .i64)) ++ AV.int .i64 (xs.getD j 0) :: List.drop (a + 1) (cs.map (AV.int .i64)) = (cs.set a (xs.getD j 0)).map (AV.int .i64) := by
        rw [List.set_eq_take_append_cons_drop, if_pos (by rw [hcs.out]; omega)]
        simp
      have g6 : cs.length = xs.length := hcs.out
      replace hcj := hid hcj
      repeat' first
        | refine AW_seq ?_
        | (first | refine AW_sreg (by kernel_rfl) ?_ | refine AW_sdreg (by kernel_rfl) ?_ | refine AW_dregM ?_ | refine Nx_in ?_ | refine NxI_in (fun _ => ?_) | refine AW_region ?_ | refine AW_dreg ?_)
          simp (config := { maxSteps := 2000000 }) only [Kon, push_cast, reduceIte, Nat.reduceEqDiff, Nat.reduceAdd, Nat.reduceMul, Nat.reduceSub, Nat.reduceLT, Nat.reduceLeDiff, Int.reduceLT, Int.reduceLE, Int.reduceAdd, Int.reduceSub, Int.reduceNeg, Int.reduceToNat, Int.reduceEq, reduceCtorEq, *]
        | (first | refine SelK_mk (by kernel_rfl) ?_ | refine AW_skip ?_ | refine AW_exit ?_ | refine AW_ret (Back_retR ?_))
          simp only [push_cast, reduceIte, Nat.reduceEqDiff, Nat.reduceAdd, Nat.reduceMul, Nat.reduceSub, Nat.reduceLT, Nat.reduceLeDiff, Int.reduceLT, Int.reduceLE, Int.reduceAdd, Int.reduceSub, Int.reduceNeg, Int.reduceToNat, Int.reduceEq, reduceCtorEq, *]
        | exact IsB_mk
        | first | apply GQ_mkT | apply GQ_mkTN | apply GQ_mkF | apply GQ_mkFN | apply GQ_mkB | apply GQ_mkBF
        | refine AW_block ?_
        | first | refine AW_condT rfl ?_ | refine AW_condF rfl ?_ | refine AW_condAny rfl ?_ ?_ | refine AW_condB rfl (fun _ => ?_) (fun _ => ?_) | refine AW_condN rfl (fun _ => ?_) (fun _ => ?_)
        | ((first | refine ite_introN (fun _ => ?_) (fun _ => ?_) | refine ite_intro (fun _ => ?_) (fun _ => ?_)) <;> try simp (config := { maxSteps := 2000000 }) only [Kon, push_cast, reduceIte, Nat.reduceEqDiff, Nat.reduceAdd, Nat.reduceMul, Nat.reduceSub, Nat.reduceLT, Nat.reduceLeDiff, Int.reduceLT, Int.reduceLE, Int.reduceAdd, Int.reduceSub, Int.reduceNeg, Int.reduceToNat, Int.reduceEq, reduceCtorEq, *])
        | refine And.intro trivial ?_
        | refine And.intro (by omega) ?_
        | refine AW_cond rfl (fun _ => ?_) (fun _ => ?_)
        | refine And.intro ?_ ?_
      refine hq.out _ _ _ (hok.out _) ?_
      simp only [Kon, push_cast, reduceIte, Nat.reduceEqDiff, Nat.reduceAdd, Nat.reduceMul, Nat.reduceSub, Nat.reduceLT, Nat.reduceLeDiff, Int.reduceLT, Int.reduceLE, Int.reduceAdd, Int.reduceSub, Int.reduceNeg, Int.reduceToNat, Int.reduceEq, reduceCtorEq, *]
      rcases hqk : q (xs.getD j 0) with _ | _
      · repeat' first
          | refine AW_seq ?_
          | (first | refine AW_sreg (by kernel_rfl) ?_ | refine AW_sdreg (by kernel_rfl) ?_ | refine AW_dregM ?_ | refine Nx_in ?_ | refine NxI_in (fun _ => ?_) | refine AW_region ?_ | refine AW_dreg ?_)
            simp (config := { maxSteps := 2000000 }) only [List.set_set, Kon, push_cast, reduceIte, Nat.reduceEqDiff, Nat.reduceAdd, Nat.reduceMul, Nat.reduceSub, Nat.reduceLT, Nat.reduceLeDiff, Int.reduceLT, Int.reduceLE, Int.reduceAdd, Int.reduceSub, Int.reduceNeg, Int.reduceToNat, Int.reduceEq, reduceCtorEq, *]
          | (first | refine SelK_mk (by kernel_rfl) ?_ | refine AW_skip ?_ | refine AW_exit ?_ | refine AW_ret (Back_retR ?_))
            simp only [push_cast, reduceIte, Nat.reduceEqDiff, Nat.reduceAdd, Nat.reduceMul, Nat.reduceSub, Nat.reduceLT, Nat.reduceLeDiff, Int.reduceLT, Int.reduceLE, Int.reduceAdd, Int.reduceSub, Int.reduceNeg, Int.reduceToNat, Int.reduceEq, reduceCtorEq, *]
          | exact IsB_mk
          | first | apply GQ_mkT | apply GQ_mkTN | apply GQ_mkF | apply GQ_mkFN | apply GQ_mkB | apply GQ_mkBF
          | refine AW_block ?_
          | first | refine AW_condT rfl ?_ | refine AW_condF rfl ?_ | refine AW_condAny rfl ?_ ?_ | refine AW_condB rfl (fun _ => ?_) (fun _ => ?_) | refine AW_condN rfl (fun _ => ?_) (fun _ => ?_)
          | ((first | refine ite_introN (fun _ => ?_) (fun _ => ?_) | refine ite_intro (fun _ => ?_) (fun _ => ?_)) <;> try simp (config := { maxSteps := 2000000 }) only [List.set_set, Kon, push_cast, reduceIte, Nat.reduceEqDiff, Nat.reduceAdd, Nat.reduceMul, Nat.reduceSub, Nat.reduceLT, Nat.reduceLeDiff, Int.reduceLT, Int.reduceLE, Int.reduceAdd, Int.reduceSub, Int.reduceNeg, Int.reduceToNat, Int.reduceEq, reduceCtorEq, *])
          | refine And.intro trivial ?_
          | refine And.intro (by omega) ?_
          | refine AW_cond rfl (fun _ => ?_) (fun _ => ?_)
          | refine And.intro ?_ ?_
        refine Nxt_mk _ _ _ ?_ (Cut_same (by repeat' first | exact SubT_nil | refine SubT_cons rfl rfl ?_ | refine SubT_consF rfl rfl ?_ | refine SubT_cons rfl (congrArg (AV.int _) (by omega)) ?_ | refine SubT_cons rfl (by first | (simp_all; done) | (simp_all; omega) | (simp_all; intros; omega)) ?_) (by simp)) ⟨a + 1, j + 1, cs.set a (xs.getD j 0), rfl, by omega, hlt, by simp [g6], rfl, rfl, ?_, ?_⟩
        · omega
        · have hk := hqk
          rw [hfx.out j hlt, List.filter_append, ← hta.out, List.set_eq_take_append_cons_drop, if_pos (by omega)]
          simp only [List.filter_cons, hk, Bool.not_false, if_true, List.filter_nil]
          rw [List.take_append]
          have : (cs.take a).length = a := by simp; omega
          rw [List.take_of_length_le (l := cs.take a) (by omega)]
          simp [this]
        · rw [List.drop_set_of_lt (by omega)]
          have := congrArg (List.drop 1) hdr.out
          simpa [List.drop_drop, Nat.add_comm] using this
      · repeat' first
          | refine AW_seq ?_
          | (first | refine AW_sreg (by kernel_rfl) ?_ | refine AW_sdreg (by kernel_rfl) ?_ | refine AW_dregM ?_ | refine Nx_in ?_ | refine NxI_in (fun _ => ?_) | refine AW_region ?_ | refine AW_dreg ?_)
            simp (config := { maxSteps := 2000000 }) only [Kon, push_cast, reduceIte, Nat.reduceEqDiff, Nat.reduceAdd, Nat.reduceMul, Nat.reduceSub, Nat.reduceLT, Nat.reduceLeDiff, Int.reduceLT, Int.reduceLE, Int.reduceAdd, Int.reduceSub, Int.reduceNeg, Int.reduceToNat, Int.reduceEq, reduceCtorEq, *]
          | (first | refine SelK_mk (by kernel_rfl) ?_ | refine AW_skip ?_ | refine AW_exit ?_ | refine AW_ret (Back_retR ?_))
            simp only [push_cast, reduceIte, Nat.reduceEqDiff, Nat.reduceAdd, Nat.reduceMul, Nat.reduceSub, Nat.reduceLT, Nat.reduceLeDiff, Int.reduceLT, Int.reduceLE, Int.reduceAdd, Int.reduceSub, Int.reduceNeg, Int.reduceToNat, Int.reduceEq, reduceCtorEq, *]
          | exact IsB_mk
          | first | apply GQ_mkT | apply GQ_mkTN | apply GQ_mkF | apply GQ_mkFN | apply GQ_mkB | apply GQ_mkBF
          | refine AW_block ?_
          | first | refine AW_condT rfl ?_ | refine AW_condF rfl ?_ | refine AW_condAny rfl ?_ ?_ | refine AW_condB rfl (fun _ => ?_) (fun _ => ?_) | refine AW_condN rfl (fun _ => ?_) (fun _ => ?_)
          | ((first | refine ite_introN (fun _ => ?_) (fun _ => ?_) | refine ite_intro (fun _ => ?_) (fun _ => ?_)) <;> try simp (config := { maxSteps := 2000000 }) only [Kon, push_cast, reduceIte, Nat.reduceEqDiff, Nat.reduceAdd, Nat.reduceMul, Nat.reduceSub, Nat.reduceLT, Nat.reduceLeDiff, Int.reduceLT, Int.reduceLE, Int.reduceAdd, Int.reduceSub, Int.reduceNeg, Int.reduceToNat, Int.reduceEq, reduceCtorEq, *])
          | refine And.intro trivial ?_
          | refine And.intro (by omega) ?_
          | refine AW_cond rfl (fun _ => ?_) (fun _ => ?_)
          | refine And.intro ?_ ?_
        refine Nxt_mk _ _ _ ?_ (Cut_same (by repeat' first | exact SubT_nil | refine SubT_cons rfl rfl ?_ | refine SubT_consF rfl rfl ?_ | refine SubT_cons rfl (congrArg (AV.int _) (by omega)) ?_ | refine SubT_cons rfl (by first | (simp_all; done) | (simp_all; omega) | (simp_all; intros; omega)) ?_) (by simp)) ⟨a, j + 1, cs, rfl, by omega, hlt, by simp [g6], rfl, rfl, ?_, ?_⟩
        · omega
        · have hk := hqk
          rw [hfx.out j hlt, List.filter_append, ← hta.out]
          simp only [List.filter_cons, hk, Bool.not_true, Bool.false_eq_true, if_false, List.filter_nil, List.append_nil]
        · have := congrArg (List.drop 1) hdr.out
          simpa [List.drop_drop, Nat.add_comm] using this
    · have g1 : ¬ (j : Int) < (xs.length : Int) := by omega
      have g6 : cs.length = xs.length := hcs.out
      have hrep : ∀ k, replC [AV.int .i64 0] k = (List.replicate k (0 : Int)).map (AV.int .i64) := by
        intro k
        induction k with
        | zero => rfl
        | succ k ih => simp [replC, ih, List.replicate_succ]
      have hjx : j = xs.length := by omega
      have ht2 : cs.take a = xs.filter (fun x => !q x) := by rw [hta.out, hjx, List.take_length]
      have hla : (xs.filter fun x => !q x).length = a := by rw [← ht2]; simp; omega
      have ht3 : List.take a (cs.map (AV.int .i64)) = (xs.filter fun x => !q x).map (AV.int .i64) := by rw [← List.map_take, ht2]
      have hd : List.drop (a + (xs.length - a)) (cs.map (AV.int .i64)) = [] := List.drop_eq_nil_of_le (by simp; omega)
      have hfin := h.out (xs.length - a)
      rw [hla] at hfin
      replace hfin := hid hfin
      clear hjx ht2 hla
      repeat' first
        | refine AW_seq ?_
        | (first | refine AW_sreg (by kernel_rfl) ?_ | refine AW_sdreg (by kernel_rfl) ?_ | refine AW_dregM ?_ | refine Nx_in ?_ | refine NxI_in (fun _ => ?_) | refine AW_region ?_ | refine AW_dreg ?_)
          simp (config := { maxSteps := 2000000 }) only [List.set_set, hrep, List.length_replicate, Kon, push_cast, reduceIte, Nat.reduceEqDiff, Nat.reduceAdd, Nat.reduceMul, Nat.reduceSub, Nat.reduceLT, Nat.reduceLeDiff, Int.reduceLT, Int.reduceLE, Int.reduceAdd, Int.reduceSub, Int.reduceNeg, Int.reduceToNat, Int.reduceEq, reduceCtorEq, *]
        | (first | refine SelK_mk (by kernel_rfl) ?_ | refine AW_skip ?_ | refine AW_exit ?_ | refine AW_ret (Back_retR ?_))
          simp only [push_cast, reduceIte, Nat.reduceEqDiff, Nat.reduceAdd, Nat.reduceMul, Nat.reduceSub, Nat.reduceLT, Nat.reduceLeDiff, Int.reduceLT, Int.reduceLE, Int.reduceAdd, Int.reduceSub, Int.reduceNeg, Int.reduceToNat, Int.reduceEq, reduceCtorEq, *]
        | exact IsB_mk
        | first | apply GQ_mkT | apply GQ_mkTN | apply GQ_mkF | apply GQ_mkFN | apply GQ_mkB | apply GQ_mkBF
        | refine AW_block ?_
        | first | refine AW_condT rfl ?_ | refine AW_condF rfl ?_ | refine AW_condAny rfl ?_ ?_ | refine AW_condB rfl (fun _ => ?_) (fun _ => ?_) | refine AW_condN rfl (fun _ => ?_) (fun _ => ?_)
        | ((first | refine ite_introN (fun _ => ?_) (fun _ => ?_) | refine ite_intro (fun _ => ?_) (fun _ => ?_)) <;> try simp (config := { maxSteps := 2000000 }) only [List.set_set, hrep, List.length_replicate, Kon, push_cast, reduceIte, Nat.reduceEqDiff, Nat.reduceAdd, Nat.reduceMul, Nat.reduceSub, Nat.reduceLT, Nat.reduceLeDiff, Int.reduceLT, Int.reduceLE, Int.reduceAdd, Int.reduceSub, Int.reduceNeg, Int.reduceToNat, Int.reduceEq, reduceCtorEq, *])
        | refine And.intro trivial ?_
        | refine And.intro (by omega) ?_
        | refine AW_cond rfl (fun _ => ?_) (fun _ => ?_)
        | refine And.intro ?_ ?_
      exact Fin_same hfin.out



theorem idx0_k {f : FuncId} {caps : List AV} {cap : Option Nat} {L : List Blk} {K : AV → List Blk → Prop} (h : K (.int .i64 (-1)) L) : ACall Tryz.prog 89 [.sl [] 0 cap, .func f caps] L K := by
  refine ACall_fn c_slices_IndexFunc_int_int_eq (by simp [c_slices_IndexFunc_int_int]) ?_
  simp only [c_slices_IndexFunc_int_int, initT]
  repeat' first
    | refine AW_seq ?_
    | (first | refine AW_sreg (by kernel_rfl) ?_ | refine AW_sdreg (by kernel_rfl) ?_ | refine AW_dregM ?_ | refine Nx_in ?_ | refine NxI_in (fun _ => ?_) | refine AW_region ?_ | refine AW_dreg ?_)
      simp (config := { maxSteps := 2000000 }) only [Kon, push_cast, reduceIte, Nat.reduceEqDiff, Nat.reduceAdd, Nat.reduceMul, Nat.reduceSub, Nat.reduceLT, Nat.reduceLeDiff, Int.reduceLT, Int.reduceLE, Int.reduceAdd, Int.reduceSub, Int.reduceNeg, Int.reduceToNat, Int.reduceEq, reduceCtorEq, *]
    | (first | refine SelK_mk (by kernel_rfl) ?_ | refine AW_skip ?_ | refine AW_exit ?_ | refine AW_ret (Back_retR ?_))
      simp only [push_cast, reduceIte, Nat.reduceEqDiff, Nat.reduceAdd, Nat.reduceMul, Nat.reduceSub, Nat.reduceLT, Nat.reduceLeDiff, Int.reduceLT, Int.reduceLE, Int.reduceAdd, Int.reduceSub, Int.reduceNeg, Int.reduceToNat, Int.reduceEq, reduceCtorEq, *]
    | exact IsB_mk
    | first | apply GQ_mkT | apply GQ_mkTN | apply GQ_mkF | apply GQ_mkFN | apply GQ_mkB | apply GQ_mkBF
    | refine AW_block ?_
    | first | refine AW_condT rfl ?_ | refine AW_condF rfl ?_ | refine AW_condAny rfl ?_ ?_ | refine AW_condB rfl (fun _ => ?_) (fun _ => ?_) | refine AW_condN rfl (fun _ => ?_) (fun _ => ?_)
    | ((first | refine ite_introN (fun _ => ?_) (fun _ => ?_) | refine ite_intro (fun _ => ?_) (fun _ => ?_)) <;> try simp (config := { maxSteps := 2000000 }) only [Kon, push_cast, reduceIte, Nat.reduceEqDiff, Nat.reduceAdd, Nat.reduceMul, Nat.reduceSub, Nat.reduceLT, Nat.reduceLeDiff, Int.reduceLT, Int.reduceLE, Int.reduceAdd, Int.reduceSub, Int.reduceNeg, Int.reduceToNat, Int.reduceEq, reduceCtorEq, *])
    | refine And.intro trivial ?_
    | refine And.intro (by omega) ?_
    | refine AW_cond rfl (fun _ => ?_) (fun _ => ?_)
    | refine And.intro ?_ ?_
  refine AW_loopT (fun n T' L' => n = 0 ∧ T' = [(8, .int .i64 0), (7, .int .i64 0)] ∧ L' = L) (Cut_same (by repeat' first | exact SubT_nil | refine SubT_cons rfl rfl ?_ | refine SubT_consF rfl rfl ?_) (Nat.le_refl _)) ⟨rfl, rfl, rfl⟩ ?_
  rintro _ _ _ ⟨rfl, rfl, rfl⟩
  repeat' first
    | refine AW_seq ?_
    | (first | refine AW_sreg (by kernel_rfl) ?_ | refine AW_sdreg (by kernel_rfl) ?_ | refine AW_dregM ?_ | refine Nx_in ?_ | refine NxI_in (fun _ => ?_) | refine AW_region ?_ | refine AW_dreg ?_)
      simp (config := { maxSteps := 2000000 }) only [Kon, push_cast, reduceIte, Nat.reduceEqDiff, Nat.reduceAdd, Nat.reduceMul, Nat.reduceSub, Nat.reduceLT, Nat.reduceLeDiff, Int.reduceLT, Int.reduceLE, Int.reduceAdd, Int.reduceSub, Int.reduceNeg, Int.reduceToNat, Int.reduceEq, reduceCtorEq, *]
    | (first | refine SelK_mk (by kernel_rfl) ?_ | refine AW_skip ?_ | refine AW_exit ?_ | refine AW_ret (Back_retR ?_))
      simp only [push_cast, reduceIte, Nat.reduceEqDiff, Nat.reduceAdd, Nat.reduceMul, Nat.reduceSub, Nat.reduceLT, Nat.reduceLeDiff, Int.reduceLT, Int.reduceLE, Int.reduceAdd, Int.reduceSub, Int.reduceNeg, Int.reduceToNat, Int.reduceEq, reduceCtorEq, *]
    | exact IsB_mk
    | first | apply GQ_mkT | apply GQ_mkTN | apply GQ_mkF | apply GQ_mkFN | apply GQ_mkB | apply GQ_mkBF
    | refine AW_block ?_
    | first | refine AW_condT rfl ?_ | refine AW_condF rfl ?_ | refine AW_condAny rfl ?_ ?_ | refine AW_condB rfl (fun _ => ?_) (fun _ => ?_) | refine AW_condN rfl (fun _ => ?_) (fun _ => ?_)
    | ((first | refine ite_introN (fun _ => ?_) (fun _ => ?_) | refine ite_intro (fun _ => ?_) (fun _ => ?_)) <;> try simp (config := { maxSteps := 2000000 }) only [Kon, push_cast, reduceIte, Nat.reduceEqDiff, Nat.reduceAdd, Nat.reduceMul, Nat.reduceSub, Nat.reduceLT, Nat.reduceLeDiff, Int.reduceLT, Int.reduceLE, Int.reduceAdd, Int.reduceSub, Int.reduceNeg, Int.reduceToNat, Int.reduceEq, reduceCtorEq, *])
    | refine And.intro trivial ?_
    | refine And.intro (by omega) ?_
    | refine AW_cond rfl (fun _ => ?_) (fun _ => ?_)
    | refine And.intro ?_ ?_
  all_goals (first | refine Fin_pure rfl (Kto h ?_) | refine Fin_same (Kto h ?_) | refine Fin_pure (by simp only [AV.refs, AV.refsL, *]; rfl) (Kto h ?_) | refine Fin_frz (Fin_pure rfl (Kto h ?_)) | (trace_state; fail))
  all_goals (first | (simp [*]; done) | (simp [*]; omega) | (simp [*]; intros; omega) | (simp_all [Hid, Hid]; done) | (simp_all [Hid, Hid]; omega))
theorem del0_k {f : FuncId} {caps : List AV} {cap : Option Nat} {L : List Blk} {K : AV → List Blk → Prop} (h : K (.sl [] 0 cap) L) : ACall Tryz.prog 55 [.sl [] 0 cap, .func f caps] L K := by
  refine ACall_fn c_slices_DeleteFunc_int_int_eq (by simp [c_slices_DeleteFunc_int_int]) ?_
  simp only [c_slices_DeleteFunc_int_int, initT]
  repeat' first
    | refine AW_seq ?_
    | (first | refine AW_sreg (by kernel_rfl) ?_ | refine AW_sdreg (by kernel_rfl) ?_ | refine AW_dregM ?_ | refine Nx_in ?_ | refine NxI_in (fun _ => ?_) | refine AW_region ?_ | refine AW_dreg ?_ | refine idx0_k ?_ | refine CalK2_mk (idx0_k ⟨rfl, rfl⟩) (idx0_k ⟨rfl, rfl⟩) ?_ | refine CalK_mk (idx0_k ⟨rfl, rfl⟩) ?_)
      simp (config := { maxSteps := 2000000 }) only [Kon, push_cast, reduceIte, Nat.reduceEqDiff, Nat.reduceAdd, Nat.reduceMul, Nat.reduceSub, Nat.reduceLT, Nat.reduceLeDiff, Int.reduceLT, Int.reduceLE, Int.reduceAdd, Int.reduceSub, Int.reduceNeg, Int.reduceToNat, Int.reduceEq, reduceCtorEq, *]
    | (first | refine SelK_mk (by kernel_rfl) ?_ | refine AW_skip ?_ | refine AW_exit ?_ | refine AW_ret (Back_retR ?_))
      simp only [push_cast, reduceIte, Nat.reduceEqDiff, Nat.reduceAdd, Nat.reduceMul, Nat.reduceSub, Nat.reduceLT, Nat.reduceLeDiff, Int.reduceLT, Int.reduceLE, Int.reduceAdd, Int.reduceSub, Int.reduceNeg, Int.reduceToNat, Int.reduceEq, reduceCtorEq, *]
    | exact IsB_mk
    | first | apply GQ_mkT | apply GQ_mkTN | apply GQ_mkF | apply GQ_mkFN | apply GQ_mkB | apply GQ_mkBF
    | refine AW_block ?_
    | first | refine AW_condT rfl ?_ | refine AW_condF rfl ?_ | refine AW_condAny rfl ?_ ?_ | refine AW_condB rfl (fun _ => ?_) (fun _ => ?_) | refine AW_condN rfl (fun _ => ?_) (fun _ => ?_)
    | ((first | refine ite_introN (fun _ => ?_) (fun _ => ?_) | refine ite_intro (fun _ => ?_) (fun _ => ?_)) <;> try simp (config := { maxSteps := 2000000 }) only [Kon, push_cast, reduceIte, Nat.reduceEqDiff, Nat.reduceAdd, Nat.reduceMul, Nat.reduceSub, Nat.reduceLT, Nat.reduceLeDiff, Int.reduceLT, Int.reduceLE, Int.reduceAdd, Int.reduceSub, Int.reduceNeg, Int.reduceToNat, Int.reduceEq, reduceCtorEq, *])
    | refine And.intro trivial ?_
    | refine And.intro (by omega) ?_
    | refine AW_cond rfl (fun _ => ?_) (fun _ => ?_)
    | refine And.intro ?_ ?_
  all_goals (first | refine Fin_pure rfl (Kto h ?_) | refine Fin_same (Kto h ?_) | refine Fin_pure (by simp only [AV.refs, AV.refsL, *]; rfl) (Kto h ?_) | refine Fin_frz (Fin_pure rfl (Kto h ?_)) | (trace_state; fail))
  all_goals (first | (simp [*]; done) | (simp [*]; omega) | (simp [*]; intros; omega) | (simp_all [Hid, Hid]; done) | (simp_all [Hid, Hid]; omega))
/-- A block's cells, told otherwise, or fewer of them. -/
theorem Rel.reblkLe {w0 : World} {S0 : Nat → Prop} {E : Env} {L : List Blk} {w : World} (h : Rel w0 S0 E L w) {i : Nat} {c c' : List AV} (hL : L[i]? = some (.cells c)) (hlen : c'.length ≤ c.length)
    (hv : ∀ (j : Nat) (a' : AV), c'[j]? = some a' → ∃ a, c[j]? = some a ∧ ∀ v, VR E a v → VR E a' v) : Rel w0 S0 E (L.set i (.cells c')) w := by
  have hi : i < L.length := (List.getElem?_eq_some_iff.1 hL).1
  have fix : ∀ (j : Nat) (k : Blk), (L.set i (.cells c'))[j]? = some k → k.live = true → ∃ k', L[j]? = some k' ∧ k'.live = true := fun j k hk hl => by
    rw [List.getElem?_set] at hk
    split at hk
    · rename_i e; subst e; exact ⟨_, hL, rfl⟩
    · exact ⟨k, hk, hl⟩
  have fixs : ∀ (j n sz : Nat), (L.set i (.cells c'))[j]? = some (.spare n sz) → L[j]? = some (.spare n sz) := fun j n sz hk => by
    rw [List.getElem?_set] at hk
    split at hk
    · cases hk
    · exact hk
  refine ⟨h.mem, fun j k hk => ?_, fun i hi => h.fresh i (by simpa using hi), fun i k c hk hl hc => ?_, fun i j k k' c c' hi li hj lj => ?_,
    fun i hi => h.tkfresh i (by simpa using hi), fun i n sz t d hi => h.tkown i n sz t d (fixs i n sz hi), fun i n sz t d j k' c' hi ht hd hj hl => ?_,
    fun i n sz t d i' n' sz' t' d' hi ht hd hi' => h.tkinj i n sz t d i' n' sz' t' d' (fixs i n sz hi) ht hd (fixs i' n' sz' hi'), h.frame, h.size, h.os, h.tape, h.output, h.glob, h.gsz⟩
  · rw [List.getElem?_set] at hk
    split at hk
    · rename_i e; subst e
      cases hk
      obtain ⟨cl, cs, ty, fr, g1, g2, g3, g4, g5, g6⟩ := h.blk _ _ hL
      refine ⟨cl, cs, ty, fr, g1, g2, g3, by omega, fun j a ha => ?_, g6⟩
      obtain ⟨b, hb, hbv⟩ := hv j a ha
      obtain ⟨v, h1, h2⟩ := g5 j b hb
      exact ⟨v, h1, hbv v h2⟩
    · exact h.blk j k hk
  · obtain ⟨k', h1, h2⟩ := fix i k hk hl
    exact h.own i k' c h1 h2 hc
  · obtain ⟨k1, h1, h2⟩ := fix i k hi li
    obtain ⟨k2, h3, h4⟩ := fix j k' hj lj
    exact h.inj i j k1 k2 c c' h1 h2 h3 h4
  · obtain ⟨k1, h1, h2⟩ := fix j k' hj hl
    exact h.tkloc i n sz t d j k1 c' (fixs i n sz hi) ht hd h1 h2


/-- Fewer of a row's cells are told of. -/
theorem ACall_trim {P : Program} {f : FuncId} {args : List AV} {L : List Blk} {K : AV → List Blk → Prop} {i : Nat} {l l' : List AV} (hi : L[i]? = some (.cells (l ++ l'))) (h : ACall P f args (L.set i (.cells l)) K) : ACall P f args L K := fun w0 S0 E w vs hR hv =>
  h w0 S0 E w vs (hR.reblkLe hi (by simp) fun j a ha => ⟨a, by rw [List.getElem?_append_left (List.getElem?_eq_some_iff.1 ha).1]; exact ha, fun _ h => h⟩) hv

/-- Thinned out, where the row has more cells. -/
theorem delr_k {f : FuncId} {caps : List AV} {ok : List Blk → Prop} {q : Int → Bool} {xs : List Int} {i : Nat} {rest : List AV} {L : List Blk} {K : AV → List Blk → Prop} (hq : Test f caps ok q) (hok : ∀ l, ok (L.set i (.cells l))) (hn : xs.length ≤ 1000000) (hL : L[i]? = some (.cells (ints xs ++ rest)))
    (h : ∀ z, K (.lsl i 0 (xs.filter fun x => !q x).length none 1) (L.set i (.cells (ints (xs.filter fun x => !q x) ++ zerosI z)))) :
    ACall Tryz.prog 55 [.lsl i 0 xs.length none 1, .func f caps] L K := by
  have hi : i < L.length := (List.getElem?_eq_some_iff.1 hL).1
  refine ACall_trim hL (del_k hq (fun l => ?_) hn (by simp [hi]) fun z => ?_)
  · rw [List.set_set]; exact hok l
  · rw [List.set_set]; exact h z
end Go.Proofs.YtpednpndahgleaaGreatDoor.Av
