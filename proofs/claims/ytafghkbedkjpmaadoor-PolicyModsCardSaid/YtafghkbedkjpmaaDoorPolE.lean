import Derived.Test.YtafghkbedkjpmaaDoorPolD
set_option linter.unusedSimpArgs false
set_option linter.unusedVariables false
namespace Go.Proofs.YtafghkbedkjpmaaDoor.Av
open Go
set_option maxHeartbeats 8000000

theorem set_set_lem {L : List Blk} {i : Nat} {a b : Blk} : (L.set i a).set i b = L.set i b := List.set_set ..

theorem del_k {f : FuncId} {caps : List AV} {ok : List Blk → Prop} {q : Int → Bool} {xs : List Int} {i : Nat} {L : List Blk} {K : AV → List Blk → Prop} (hq : Test f caps ok q) (hok : ∀ l, ok (L.set i (.cells l))) (hn : xs.length ≤ 1000000) (hL : L[i]? = some (.cells (ints xs)))
    (h : ∀ z, K (.lsl i 0 (xs.filter fun x => !q x).length none 1) (L.set i (.cells (ints (xs.filter fun x => !q x) ++ ints (List.replicate z 0))))) :
    ACall Tryd.prog 19 [.lsl i 0 xs.length none 1, .func f caps] L K := by
  have hi : i < L.length := (List.getElem?_eq_some_iff.1 hL).1
  have hset : ∀ c, (L.set i c)[i]? = some c := fun c => by simp [hi]
  have hok0 : ok L := by have := hok (ints xs); rwa [set_same hL] at this
  replace hq := hid hq
  replace hok := hid hok
  refine ACall_fn c_slices_DeleteFunc_int64_int64_eq (by simp [c_slices_DeleteFunc_int64_int64]) ?_
  simp only [c_slices_DeleteFunc_int64_int64, initT]
  repeat' first
    | refine AW_seq ?_
    | (refine AW_sreg (by kernel_rfl) ?_; simp (config := { maxSteps := 2000000 }) only [Kon, push_cast, reduceIte, Nat.reduceEqDiff, Nat.reduceAdd, Nat.reduceMul, Nat.reduceSub, Nat.reduceLT, Nat.reduceLeDiff, Int.reduceLT, Int.reduceLE, Int.reduceAdd, Int.reduceSub, Int.reduceNeg, Int.reduceToNat, Int.reduceEq, reduceCtorEq, *])
    | (refine AW_sdreg (by kernel_rfl) ?_; simp (config := { maxSteps := 2000000 }) only [Kon, push_cast, reduceIte, Nat.reduceEqDiff, Nat.reduceAdd, Nat.reduceMul, Nat.reduceSub, Nat.reduceLT, Nat.reduceLeDiff, Int.reduceLT, Int.reduceLE, Int.reduceAdd, Int.reduceSub, Int.reduceNeg, Int.reduceToNat, Int.reduceEq, reduceCtorEq, *])
    | (refine AW_dregM ?_; simp (config := { maxSteps := 2000000 }) only [Kon, push_cast, reduceIte, Nat.reduceEqDiff, Nat.reduceAdd, Nat.reduceMul, Nat.reduceSub, Nat.reduceLT, Nat.reduceLeDiff, Int.reduceLT, Int.reduceLE, Int.reduceAdd, Int.reduceSub, Int.reduceNeg, Int.reduceToNat, Int.reduceEq, reduceCtorEq, *])
    | (refine SelK_mk (by kernel_rfl) ?_; simp only [push_cast, reduceIte, Nat.reduceEqDiff, Nat.reduceAdd, Nat.reduceMul, Nat.reduceSub, Nat.reduceLT, Nat.reduceLeDiff, Int.reduceLT, Int.reduceLE, Int.reduceAdd, Int.reduceSub, Int.reduceNeg, Int.reduceToNat, Int.reduceEq, reduceCtorEq])
    | exact IsB_mk
    | (refine Nx_in ?_; simp (config := { maxSteps := 2000000 }) only [Kon, push_cast, reduceIte, Nat.reduceEqDiff, Nat.reduceAdd, Nat.reduceMul, Nat.reduceSub, Nat.reduceLT, Nat.reduceLeDiff, Int.reduceLT, Int.reduceLE, Int.reduceAdd, Int.reduceSub, Int.reduceNeg, Int.reduceToNat, Int.reduceEq, reduceCtorEq, *])
    | (refine NxI_in (fun _ => ?_); simp (config := { maxSteps := 2000000 }) only [Kon, push_cast, reduceIte, Nat.reduceEqDiff, Nat.reduceAdd, Nat.reduceMul, Nat.reduceSub, Nat.reduceLT, Nat.reduceLeDiff, Int.reduceLT, Int.reduceLE, Int.reduceAdd, Int.reduceSub, Int.reduceNeg, Int.reduceToNat, Int.reduceEq, reduceCtorEq, *])
    | apply GQ_mkT
    | apply GQ_mkTN
    | apply GQ_mkF
    | apply GQ_mkFN
    | apply GQ_mkB
    | apply GQ_mkBF
    | (refine AW_region ?_; simp (config := { maxSteps := 2000000 }) only [Kon, push_cast, reduceIte, Nat.reduceEqDiff, Nat.reduceAdd, Nat.reduceMul, Nat.reduceSub, Nat.reduceLT, Nat.reduceLeDiff, Int.reduceLT, Int.reduceLE, Int.reduceAdd, Int.reduceSub, Int.reduceNeg, Int.reduceToNat, Int.reduceEq, reduceCtorEq, *])
    | (refine AW_dreg ?_; simp (config := { maxSteps := 2000000 }) only [Kon, push_cast, reduceIte, Nat.reduceEqDiff, Nat.reduceAdd, Nat.reduceMul, Nat.reduceSub, Nat.reduceLT, Nat.reduceLeDiff, Int.reduceLT, Int.reduceLE, Int.reduceAdd, Int.reduceSub, Int.reduceNeg, Int.reduceToNat, Int.reduceEq, reduceCtorEq, *])
    | (refine AW_block ?_)
    | refine AW_condT rfl ?_
    | refine AW_condF rfl ?_
    | refine AW_condAny rfl ?_ ?_
    | refine AW_condB rfl (fun _ => ?_) (fun _ => ?_)
    | refine AW_condN rfl (fun _ => ?_) (fun _ => ?_)
    | (refine ite_introN (fun _ => ?_) (fun _ => ?_) <;> try simp (config := { maxSteps := 2000000 }) only [Kon, push_cast, reduceIte, Nat.reduceEqDiff, Nat.reduceAdd, Nat.reduceMul, Nat.reduceSub, Nat.reduceLT, Nat.reduceLeDiff, Int.reduceLT, Int.reduceLE, Int.reduceAdd, Int.reduceSub, Int.reduceNeg, Int.reduceToNat, Int.reduceEq, reduceCtorEq, *])
    | (refine ite_intro (fun _ => ?_) (fun _ => ?_) <;> try simp (config := { maxSteps := 2000000 }) only [Kon, push_cast, reduceIte, Nat.reduceEqDiff, Nat.reduceAdd, Nat.reduceMul, Nat.reduceSub, Nat.reduceLT, Nat.reduceLeDiff, Int.reduceLT, Int.reduceLE, Int.reduceAdd, Int.reduceSub, Int.reduceNeg, Int.reduceToNat, Int.reduceEq, reduceCtorEq, *])
    | refine And.intro trivial ?_
    | refine And.intro (by omega) ?_
    | refine AW_block ?_
    | (refine AW_skip ?_; simp only [push_cast, reduceIte, Nat.reduceEqDiff, Nat.reduceAdd, Nat.reduceMul, Nat.reduceSub, Nat.reduceLT, Nat.reduceLeDiff, Int.reduceLT, Int.reduceLE, Int.reduceAdd, Int.reduceSub, Int.reduceNeg, Int.reduceToNat, Int.reduceEq, reduceCtorEq])
    | (refine AW_exit ?_; simp only [push_cast, reduceIte, Nat.reduceEqDiff, Nat.reduceAdd, Nat.reduceMul, Nat.reduceSub, Nat.reduceLT, Nat.reduceLeDiff, Int.reduceLT, Int.reduceLE, Int.reduceAdd, Int.reduceSub, Int.reduceNeg, Int.reduceToNat, Int.reduceEq, reduceCtorEq])
    | (refine AW_ret (Back_retR ?_); simp only [push_cast, reduceIte, Nat.reduceEqDiff, Nat.reduceAdd, Nat.reduceMul, Nat.reduceSub, Nat.reduceLT, Nat.reduceLeDiff, Int.reduceLT, Int.reduceLE, Int.reduceAdd, Int.reduceSub, Int.reduceNeg, Int.reduceToNat, Int.reduceEq, reduceCtorEq, *])
    | refine AW_cond rfl (fun _ => ?_) (fun _ => ?_)
    | refine And.intro ?_ ?_
  refine idx_k (rest := []) hq.out hok0 hn (by simpa using hL) (fun hno => ?_) (fun a ha hpre hqa => ?_)
  · have hf : xs.filter (fun x => !q x) = xs := List.filter_eq_self.2 fun x hx => by
      obtain ⟨j, hj, rfl⟩ := List.mem_iff_getElem.1 hx
      have := hno j hj
      simp [hj] at this; simp [this]
    have h0 := h 0
    rw [hf] at h0
    simp only [List.replicate_zero, List.map_nil, List.append_nil, set_same hL] at h0
    replace h0 := hid h0
    clear h hf hno
    simp only [Kon, push_cast, reduceIte, Nat.reduceEqDiff, Nat.reduceAdd, Nat.reduceMul, Nat.reduceSub, Nat.reduceLT, Nat.reduceLeDiff, Int.reduceLT, Int.reduceLE, Int.reduceAdd, Int.reduceSub, Int.reduceNeg, Int.reduceToNat, Int.reduceEq, reduceCtorEq, *]
    repeat' first
      | refine AW_seq ?_
      | (refine AW_sreg (by kernel_rfl) ?_; simp (config := { maxSteps := 2000000 }) only [Kon, push_cast, reduceIte, Nat.reduceEqDiff, Nat.reduceAdd, Nat.reduceMul, Nat.reduceSub, Nat.reduceLT, Nat.reduceLeDiff, Int.reduceLT, Int.reduceLE, Int.reduceAdd, Int.reduceSub, Int.reduceNeg, Int.reduceToNat, Int.reduceEq, reduceCtorEq, *])
      | (refine AW_sdreg (by kernel_rfl) ?_; simp (config := { maxSteps := 2000000 }) only [Kon, push_cast, reduceIte, Nat.reduceEqDiff, Nat.reduceAdd, Nat.reduceMul, Nat.reduceSub, Nat.reduceLT, Nat.reduceLeDiff, Int.reduceLT, Int.reduceLE, Int.reduceAdd, Int.reduceSub, Int.reduceNeg, Int.reduceToNat, Int.reduceEq, reduceCtorEq, *])
      | (refine AW_dregM ?_; simp (config := { maxSteps := 2000000 }) only [Kon, push_cast, reduceIte, Nat.reduceEqDiff, Nat.reduceAdd, Nat.reduceMul, Nat.reduceSub, Nat.reduceLT, Nat.reduceLeDiff, Int.reduceLT, Int.reduceLE, Int.reduceAdd, Int.reduceSub, Int.reduceNeg, Int.reduceToNat, Int.reduceEq, reduceCtorEq, *])
      | (refine SelK_mk (by kernel_rfl) ?_; simp only [push_cast, reduceIte, Nat.reduceEqDiff, Nat.reduceAdd, Nat.reduceMul, Nat.reduceSub, Nat.reduceLT, Nat.reduceLeDiff, Int.reduceLT, Int.reduceLE, Int.reduceAdd, Int.reduceSub, Int.reduceNeg, Int.reduceToNat, Int.reduceEq, reduceCtorEq])
      | exact IsB_mk
      | (refine Nx_in ?_; simp (config := { maxSteps := 2000000 }) only [Kon, push_cast, reduceIte, Nat.reduceEqDiff, Nat.reduceAdd, Nat.reduceMul, Nat.reduceSub, Nat.reduceLT, Nat.reduceLeDiff, Int.reduceLT, Int.reduceLE, Int.reduceAdd, Int.reduceSub, Int.reduceNeg, Int.reduceToNat, Int.reduceEq, reduceCtorEq, *])
      | (refine NxI_in (fun _ => ?_); simp (config := { maxSteps := 2000000 }) only [Kon, push_cast, reduceIte, Nat.reduceEqDiff, Nat.reduceAdd, Nat.reduceMul, Nat.reduceSub, Nat.reduceLT, Nat.reduceLeDiff, Int.reduceLT, Int.reduceLE, Int.reduceAdd, Int.reduceSub, Int.reduceNeg, Int.reduceToNat, Int.reduceEq, reduceCtorEq, *])
      | apply GQ_mkT
      | apply GQ_mkTN
      | apply GQ_mkF
      | apply GQ_mkFN
      | apply GQ_mkB
      | apply GQ_mkBF
      | (refine AW_region ?_; simp (config := { maxSteps := 2000000 }) only [Kon, push_cast, reduceIte, Nat.reduceEqDiff, Nat.reduceAdd, Nat.reduceMul, Nat.reduceSub, Nat.reduceLT, Nat.reduceLeDiff, Int.reduceLT, Int.reduceLE, Int.reduceAdd, Int.reduceSub, Int.reduceNeg, Int.reduceToNat, Int.reduceEq, reduceCtorEq, *])
      | (refine AW_dreg ?_; simp (config := { maxSteps := 2000000 }) only [Kon, push_cast, reduceIte, Nat.reduceEqDiff, Nat.reduceAdd, Nat.reduceMul, Nat.reduceSub, Nat.reduceLT, Nat.reduceLeDiff, Int.reduceLT, Int.reduceLE, Int.reduceAdd, Int.reduceSub, Int.reduceNeg, Int.reduceToNat, Int.reduceEq, reduceCtorEq, *])
      | (refine AW_block ?_)
      | refine AW_condT rfl ?_
      | refine AW_condF rfl ?_
      | refine AW_condAny rfl ?_ ?_
      | refine AW_condB rfl (fun _ => ?_) (fun _ => ?_)
      | refine AW_condN rfl (fun _ => ?_) (fun _ => ?_)
      | (refine ite_introN (fun _ => ?_) (fun _ => ?_) <;> try simp (config := { maxSteps := 2000000 }) only [Kon, push_cast, reduceIte, Nat.reduceEqDiff, Nat.reduceAdd, Nat.reduceMul, Nat.reduceSub, Nat.reduceLT, Nat.reduceLeDiff, Int.reduceLT, Int.reduceLE, Int.reduceAdd, Int.reduceSub, Int.reduceNeg, Int.reduceToNat, Int.reduceEq, reduceCtorEq, *])
      | (refine ite_intro (fun _ => ?_) (fun _ => ?_) <;> try simp (config := { maxSteps := 2000000 }) only [Kon, push_cast, reduceIte, Nat.reduceEqDiff, Nat.reduceAdd, Nat.reduceMul, Nat.reduceSub, Nat.reduceLT, Nat.reduceLeDiff, Int.reduceLT, Int.reduceLE, Int.reduceAdd, Int.reduceSub, Int.reduceNeg, Int.reduceToNat, Int.reduceEq, reduceCtorEq, *])
      | refine And.intro trivial ?_
      | refine And.intro (by omega) ?_
      | refine AW_block ?_
      | (refine AW_skip ?_; simp only [push_cast, reduceIte, Nat.reduceEqDiff, Nat.reduceAdd, Nat.reduceMul, Nat.reduceSub, Nat.reduceLT, Nat.reduceLeDiff, Int.reduceLT, Int.reduceLE, Int.reduceAdd, Int.reduceSub, Int.reduceNeg, Int.reduceToNat, Int.reduceEq, reduceCtorEq])
      | (refine AW_exit ?_; simp only [push_cast, reduceIte, Nat.reduceEqDiff, Nat.reduceAdd, Nat.reduceMul, Nat.reduceSub, Nat.reduceLT, Nat.reduceLeDiff, Int.reduceLT, Int.reduceLE, Int.reduceAdd, Int.reduceSub, Int.reduceNeg, Int.reduceToNat, Int.reduceEq, reduceCtorEq])
      | (refine AW_ret (Back_retR ?_); simp only [push_cast, reduceIte, Nat.reduceEqDiff, Nat.reduceAdd, Nat.reduceMul, Nat.reduceSub, Nat.reduceLT, Nat.reduceLeDiff, Int.reduceLT, Int.reduceLE, Int.reduceAdd, Int.reduceSub, Int.reduceNeg, Int.reduceToNat, Int.reduceEq, reduceCtorEq, *])
      | refine AW_cond rfl (fun _ => ?_) (fun _ => ?_)
      | refine And.intro ?_ ?_
    exact Fin_same h0.out
  · replace h := hid h
    replace hpre := hid hpre
    replace hqa := hid hqa
    have g1 : (a : Int) ≠ -1 := by omega
    have g2 : IntKind.i64.wrap ((a : Int) + 1) = (a : Int) + 1 := wrap64_in (by omega) (by omega)
    simp only [Kon, push_cast, reduceIte, Nat.reduceEqDiff, Nat.reduceAdd, Nat.reduceMul, Nat.reduceSub, Nat.reduceLT, Nat.reduceLeDiff, Int.reduceLT, Int.reduceLE, Int.reduceAdd, Int.reduceSub, Int.reduceNeg, Int.reduceToNat, Int.reduceEq, reduceCtorEq, *]
    repeat' first
      | refine AW_seq ?_
      | (refine AW_sreg (by kernel_rfl) ?_; simp (config := { maxSteps := 2000000 }) only [Kon, push_cast, reduceIte, Nat.reduceEqDiff, Nat.reduceAdd, Nat.reduceMul, Nat.reduceSub, Nat.reduceLT, Nat.reduceLeDiff, Int.reduceLT, Int.reduceLE, Int.reduceAdd, Int.reduceSub, Int.reduceNeg, Int.reduceToNat, Int.reduceEq, reduceCtorEq, *])
      | (refine AW_sdreg (by kernel_rfl) ?_; simp (config := { maxSteps := 2000000 }) only [Kon, push_cast, reduceIte, Nat.reduceEqDiff, Nat.reduceAdd, Nat.reduceMul, Nat.reduceSub, Nat.reduceLT, Nat.reduceLeDiff, Int.reduceLT, Int.reduceLE, Int.reduceAdd, Int.reduceSub, Int.reduceNeg, Int.reduceToNat, Int.reduceEq, reduceCtorEq, *])
      | (refine AW_dregM ?_; simp (config := { maxSteps := 2000000 }) only [Kon, push_cast, reduceIte, Nat.reduceEqDiff, Nat.reduceAdd, Nat.reduceMul, Nat.reduceSub, Nat.reduceLT, Nat.reduceLeDiff, Int.reduceLT, Int.reduceLE, Int.reduceAdd, Int.reduceSub, Int.reduceNeg, Int.reduceToNat, Int.reduceEq, reduceCtorEq, *])
      | (refine SelK_mk (by kernel_rfl) ?_; simp only [push_cast, reduceIte, Nat.reduceEqDiff, Nat.reduceAdd, Nat.reduceMul, Nat.reduceSub, Nat.reduceLT, Nat.reduceLeDiff, Int.reduceLT, Int.reduceLE, Int.reduceAdd, Int.reduceSub, Int.reduceNeg, Int.reduceToNat, Int.reduceEq, reduceCtorEq])
      | exact IsB_mk
      | (refine Nx_in ?_; simp (config := { maxSteps := 2000000 }) only [Kon, push_cast, reduceIte, Nat.reduceEqDiff, Nat.reduceAdd, Nat.reduceMul, Nat.reduceSub, Nat.reduceLT, Nat.reduceLeDiff, Int.reduceLT, Int.reduceLE, Int.reduceAdd, Int.reduceSub, Int.reduceNeg, Int.reduceToNat, Int.reduceEq, reduceCtorEq, *])
      | (refine NxI_in (fun _ => ?_); simp (config := { maxSteps := 2000000 }) only [Kon, push_cast, reduceIte, Nat.reduceEqDiff, Nat.reduceAdd, Nat.reduceMul, Nat.reduceSub, Nat.reduceLT, Nat.reduceLeDiff, Int.reduceLT, Int.reduceLE, Int.reduceAdd, Int.reduceSub, Int.reduceNeg, Int.reduceToNat, Int.reduceEq, reduceCtorEq, *])
      | apply GQ_mkT
      | apply GQ_mkTN
      | apply GQ_mkF
      | apply GQ_mkFN
      | apply GQ_mkB
      | apply GQ_mkBF
      | (refine AW_region ?_; simp (config := { maxSteps := 2000000 }) only [Kon, push_cast, reduceIte, Nat.reduceEqDiff, Nat.reduceAdd, Nat.reduceMul, Nat.reduceSub, Nat.reduceLT, Nat.reduceLeDiff, Int.reduceLT, Int.reduceLE, Int.reduceAdd, Int.reduceSub, Int.reduceNeg, Int.reduceToNat, Int.reduceEq, reduceCtorEq, *])
      | (refine AW_dreg ?_; simp (config := { maxSteps := 2000000 }) only [Kon, push_cast, reduceIte, Nat.reduceEqDiff, Nat.reduceAdd, Nat.reduceMul, Nat.reduceSub, Nat.reduceLT, Nat.reduceLeDiff, Int.reduceLT, Int.reduceLE, Int.reduceAdd, Int.reduceSub, Int.reduceNeg, Int.reduceToNat, Int.reduceEq, reduceCtorEq, *])
      | (refine AW_block ?_)
      | refine AW_condT rfl ?_
      | refine AW_condF rfl ?_
      | refine AW_condAny rfl ?_ ?_
      | refine AW_condB rfl (fun _ => ?_) (fun _ => ?_)
      | refine AW_condN rfl (fun _ => ?_) (fun _ => ?_)
      | (refine ite_introN (fun _ => ?_) (fun _ => ?_) <;> try simp (config := { maxSteps := 2000000 }) only [Kon, push_cast, reduceIte, Nat.reduceEqDiff, Nat.reduceAdd, Nat.reduceMul, Nat.reduceSub, Nat.reduceLT, Nat.reduceLeDiff, Int.reduceLT, Int.reduceLE, Int.reduceAdd, Int.reduceSub, Int.reduceNeg, Int.reduceToNat, Int.reduceEq, reduceCtorEq, *])
      | (refine ite_intro (fun _ => ?_) (fun _ => ?_) <;> try simp (config := { maxSteps := 2000000 }) only [Kon, push_cast, reduceIte, Nat.reduceEqDiff, Nat.reduceAdd, Nat.reduceMul, Nat.reduceSub, Nat.reduceLT, Nat.reduceLeDiff, Int.reduceLT, Int.reduceLE, Int.reduceAdd, Int.reduceSub, Int.reduceNeg, Int.reduceToNat, Int.reduceEq, reduceCtorEq, *])
      | refine And.intro trivial ?_
      | refine And.intro (by omega) ?_
      | refine AW_block ?_
      | (refine AW_skip ?_; simp only [push_cast, reduceIte, Nat.reduceEqDiff, Nat.reduceAdd, Nat.reduceMul, Nat.reduceSub, Nat.reduceLT, Nat.reduceLeDiff, Int.reduceLT, Int.reduceLE, Int.reduceAdd, Int.reduceSub, Int.reduceNeg, Int.reduceToNat, Int.reduceEq, reduceCtorEq])
      | (refine AW_exit ?_; simp only [push_cast, reduceIte, Nat.reduceEqDiff, Nat.reduceAdd, Nat.reduceMul, Nat.reduceSub, Nat.reduceLT, Nat.reduceLeDiff, Int.reduceLT, Int.reduceLE, Int.reduceAdd, Int.reduceSub, Int.reduceNeg, Int.reduceToNat, Int.reduceEq, reduceCtorEq])
      | (refine AW_ret (Back_retR ?_); simp only [push_cast, reduceIte, Nat.reduceEqDiff, Nat.reduceAdd, Nat.reduceMul, Nat.reduceSub, Nat.reduceLT, Nat.reduceLeDiff, Int.reduceLT, Int.reduceLE, Int.reduceAdd, Int.reduceSub, Int.reduceNeg, Int.reduceToNat, Int.reduceEq, reduceCtorEq, *])
      | refine AW_cond rfl (fun _ => ?_) (fun _ => ?_)
      | refine And.intro ?_ ?_
    have hfx : ∀ j, j < xs.length → xs.take (j + 1) = xs.take j ++ [xs.getD j 0] := fun j hj => by
      rw [List.take_succ_eq_append_getElem hj]; simp [hj]
    replace hfx := hid hfx
    refine AW_loopT (fun n T' L' => ∃ (a j : Nat) (cs : List Int), n = xs.length - j ∧ a < j ∧ j ≤ xs.length ∧ cs.length = xs.length ∧ T' = [(6, .int .i64 (j : Int)), (5, .int .i64 (a : Int)), (0, .lsl i 0 xs.length none 1), (1, .func f caps)] ∧ L' = L.set i (.cells (ints cs)) ∧
      cs.take a = (xs.take j).filter (fun x => !q x) ∧ cs.drop j = xs.drop j) (n0 := xs.length - (a + 1)) (T0 := [(6, .int .i64 ((a + 1 : Nat) : Int)), (5, .int .i64 (a : Int)), (0, .lsl i 0 xs.length none 1), (1, .func f caps)]) (L0 := L.set i (.cells (ints xs))) (by rw [set_same hL]; exact Cut_same (by repeat' first | exact SubT_nil | refine SubT_cons rfl rfl ?_ | refine SubT_consF rfl rfl ?_) (Nat.le_refl _))
      ⟨a, a + 1, xs, rfl, by omega, ha, rfl, rfl, rfl, ?_, rfl⟩ ?_
    · rw [hfx.out a ha, List.filter_append]
      have h1 : (xs.take a).filter (fun x => !q x) = xs.take a := List.filter_eq_self.2 fun x hx => by
        obtain ⟨j, hj, rfl⟩ := List.mem_iff_getElem.1 hx
        rw [List.length_take] at hj
        have hj2 : j < xs.length := by omega
        have := hpre.out j (by omega)
        simp [hj2] at this; simp [this]
      have h2 : q (xs[a]?.getD 0) = true := by have := hqa.out; simpa using this
      simp [h1, h2]
    clear ha hpre hqa g1 g2
    clear a
    rintro _ _ _ ⟨a, j, cs, rfl, haj, hj, hcs, rfl, rfl, hta, hdr⟩
    replace hta := hid hta
    replace hdr := hid hdr
    replace hcs := hid hcs
    by_cases hlt : j < xs.length
    · have g1 : (j : Int) < (xs.length : Int) := by omega
      have g2 : IntKind.i64.wrap ((j : Int) + 1) = (j : Int) + 1 := wrap64_in (by omega) (by omega)
      have g3 : IntKind.i64.wrap ((a : Int) + 1) = (a : Int) + 1 := wrap64_in (by omega) (by omega)
      have hcj : cs.getD j 0 = xs.getD j 0 := by
        have := congrArg (fun l => l[0]?) hdr.out
        simp only [List.getElem?_drop, Nat.add_zero] at this
        rw [List.getD_eq_getElem?_getD, List.getD_eq_getElem?_getD, this]
      have g4 : (cs.map (AV.int .i64)).getD j .undef = .int .i64 (xs.getD j 0) := by
        rw [← hcj]; simp [show j < cs.length by rw [hcs.out]; exact hlt]
      have g5 : List.take a (cs.map (AV.int .i64)) ++ AV.int .i64 (xs.getD j 0) :: List.drop (a + 1) (cs.map (AV.int .i64)) = (cs.set a (xs.getD j 0)).map (AV.int .i64) := by
        rw [List.set_eq_take_append_cons_drop, if_pos (by rw [hcs.out]; omega)]
        simp
      have g6 : cs.length = xs.length := hcs.out
      replace hcj := hid hcj
      repeat' first
        | refine AW_seq ?_
        | (refine AW_sreg (by kernel_rfl) ?_; simp (config := { maxSteps := 2000000 }) only [Kon, push_cast, reduceIte, Nat.reduceEqDiff, Nat.reduceAdd, Nat.reduceMul, Nat.reduceSub, Nat.reduceLT, Nat.reduceLeDiff, Int.reduceLT, Int.reduceLE, Int.reduceAdd, Int.reduceSub, Int.reduceNeg, Int.reduceToNat, Int.reduceEq, reduceCtorEq, *])
        | (refine AW_sdreg (by kernel_rfl) ?_; simp (config := { maxSteps := 2000000 }) only [Kon, push_cast, reduceIte, Nat.reduceEqDiff, Nat.reduceAdd, Nat.reduceMul, Nat.reduceSub, Nat.reduceLT, Nat.reduceLeDiff, Int.reduceLT, Int.reduceLE, Int.reduceAdd, Int.reduceSub, Int.reduceNeg, Int.reduceToNat, Int.reduceEq, reduceCtorEq, *])
        | (refine AW_dregM ?_; simp (config := { maxSteps := 2000000 }) only [Kon, push_cast, reduceIte, Nat.reduceEqDiff, Nat.reduceAdd, Nat.reduceMul, Nat.reduceSub, Nat.reduceLT, Nat.reduceLeDiff, Int.reduceLT, Int.reduceLE, Int.reduceAdd, Int.reduceSub, Int.reduceNeg, Int.reduceToNat, Int.reduceEq, reduceCtorEq, *])
        | (refine SelK_mk (by kernel_rfl) ?_; simp only [push_cast, reduceIte, Nat.reduceEqDiff, Nat.reduceAdd, Nat.reduceMul, Nat.reduceSub, Nat.reduceLT, Nat.reduceLeDiff, Int.reduceLT, Int.reduceLE, Int.reduceAdd, Int.reduceSub, Int.reduceNeg, Int.reduceToNat, Int.reduceEq, reduceCtorEq])
        | exact IsB_mk
        | (refine Nx_in ?_; simp (config := { maxSteps := 2000000 }) only [Kon, push_cast, reduceIte, Nat.reduceEqDiff, Nat.reduceAdd, Nat.reduceMul, Nat.reduceSub, Nat.reduceLT, Nat.reduceLeDiff, Int.reduceLT, Int.reduceLE, Int.reduceAdd, Int.reduceSub, Int.reduceNeg, Int.reduceToNat, Int.reduceEq, reduceCtorEq, *])
        | (refine NxI_in (fun _ => ?_); simp (config := { maxSteps := 2000000 }) only [Kon, push_cast, reduceIte, Nat.reduceEqDiff, Nat.reduceAdd, Nat.reduceMul, Nat.reduceSub, Nat.reduceLT, Nat.reduceLeDiff, Int.reduceLT, Int.reduceLE, Int.reduceAdd, Int.reduceSub, Int.reduceNeg, Int.reduceToNat, Int.reduceEq, reduceCtorEq, *])
        | apply GQ_mkT
        | apply GQ_mkTN
        | apply GQ_mkF
        | apply GQ_mkFN
        | apply GQ_mkB
        | apply GQ_mkBF
        | (refine AW_region ?_; simp (config := { maxSteps := 2000000 }) only [Kon, push_cast, reduceIte, Nat.reduceEqDiff, Nat.reduceAdd, Nat.reduceMul, Nat.reduceSub, Nat.reduceLT, Nat.reduceLeDiff, Int.reduceLT, Int.reduceLE, Int.reduceAdd, Int.reduceSub, Int.reduceNeg, Int.reduceToNat, Int.reduceEq, reduceCtorEq, *])
        | (refine AW_dreg ?_; simp (config := { maxSteps := 2000000 }) only [Kon, push_cast, reduceIte, Nat.reduceEqDiff, Nat.reduceAdd, Nat.reduceMul, Nat.reduceSub, Nat.reduceLT, Nat.reduceLeDiff, Int.reduceLT, Int.reduceLE, Int.reduceAdd, Int.reduceSub, Int.reduceNeg, Int.reduceToNat, Int.reduceEq, reduceCtorEq, *])
        | (refine AW_block ?_)
        | refine AW_condT rfl ?_
        | refine AW_condF rfl ?_
        | refine AW_condAny rfl ?_ ?_
        | refine AW_condB rfl (fun _ => ?_) (fun _ => ?_)
        | refine AW_condN rfl (fun _ => ?_) (fun _ => ?_)
        | (refine ite_introN (fun _ => ?_) (fun _ => ?_) <;> try simp (config := { maxSteps := 2000000 }) only [Kon, push_cast, reduceIte, Nat.reduceEqDiff, Nat.reduceAdd, Nat.reduceMul, Nat.reduceSub, Nat.reduceLT, Nat.reduceLeDiff, Int.reduceLT, Int.reduceLE, Int.reduceAdd, Int.reduceSub, Int.reduceNeg, Int.reduceToNat, Int.reduceEq, reduceCtorEq, *])
        | (refine ite_intro (fun _ => ?_) (fun _ => ?_) <;> try simp (config := { maxSteps := 2000000 }) only [Kon, push_cast, reduceIte, Nat.reduceEqDiff, Nat.reduceAdd, Nat.reduceMul, Nat.reduceSub, Nat.reduceLT, Nat.reduceLeDiff, Int.reduceLT, Int.reduceLE, Int.reduceAdd, Int.reduceSub, Int.reduceNeg, Int.reduceToNat, Int.reduceEq, reduceCtorEq, *])
        | refine And.intro trivial ?_
        | refine And.intro (by omega) ?_
        | refine AW_block ?_
        | (refine AW_skip ?_; simp only [push_cast, reduceIte, Nat.reduceEqDiff, Nat.reduceAdd, Nat.reduceMul, Nat.reduceSub, Nat.reduceLT, Nat.reduceLeDiff, Int.reduceLT, Int.reduceLE, Int.reduceAdd, Int.reduceSub, Int.reduceNeg, Int.reduceToNat, Int.reduceEq, reduceCtorEq])
        | (refine AW_exit ?_; simp only [push_cast, reduceIte, Nat.reduceEqDiff, Nat.reduceAdd, Nat.reduceMul, Nat.reduceSub, Nat.reduceLT, Nat.reduceLeDiff, Int.reduceLT, Int.reduceLE, Int.reduceAdd, Int.reduceSub, Int.reduceNeg, Int.reduceToNat, Int.reduceEq, reduceCtorEq])
        | (refine AW_ret (Back_retR ?_); simp only [push_cast, reduceIte, Nat.reduceEqDiff, Nat.reduceAdd, Nat.reduceMul, Nat.reduceSub, Nat.reduceLT, Nat.reduceLeDiff, Int.reduceLT, Int.reduceLE, Int.reduceAdd, Int.reduceSub, Int.reduceNeg, Int.reduceToNat, Int.reduceEq, reduceCtorEq, *])
        | refine AW_cond rfl (fun _ => ?_) (fun _ => ?_)
        | refine And.intro ?_ ?_
      refine hq.out _ _ _ (hok.out _) ?_
      simp only [Kon, push_cast, reduceIte, Nat.reduceEqDiff, Nat.reduceAdd, Nat.reduceMul, Nat.reduceSub, Nat.reduceLT, Nat.reduceLeDiff, Int.reduceLT, Int.reduceLE, Int.reduceAdd, Int.reduceSub, Int.reduceNeg, Int.reduceToNat, Int.reduceEq, reduceCtorEq, *]
      rcases hqk : q (xs.getD j 0) with _ | _
      · repeat' first
          | refine AW_seq ?_
          | (refine AW_sreg (by kernel_rfl) ?_; simp (config := { maxSteps := 2000000 }) only [List.set_set, Kon, push_cast, reduceIte, Nat.reduceEqDiff, Nat.reduceAdd, Nat.reduceMul, Nat.reduceSub, Nat.reduceLT, Nat.reduceLeDiff, Int.reduceLT, Int.reduceLE, Int.reduceAdd, Int.reduceSub, Int.reduceNeg, Int.reduceToNat, Int.reduceEq, reduceCtorEq, *])
          | (refine AW_sdreg (by kernel_rfl) ?_; simp (config := { maxSteps := 2000000 }) only [List.set_set, Kon, push_cast, reduceIte, Nat.reduceEqDiff, Nat.reduceAdd, Nat.reduceMul, Nat.reduceSub, Nat.reduceLT, Nat.reduceLeDiff, Int.reduceLT, Int.reduceLE, Int.reduceAdd, Int.reduceSub, Int.reduceNeg, Int.reduceToNat, Int.reduceEq, reduceCtorEq, *])
          | (refine AW_dregM ?_; simp (config := { maxSteps := 2000000 }) only [List.set_set, Kon, push_cast, reduceIte, Nat.reduceEqDiff, Nat.reduceAdd, Nat.reduceMul, Nat.reduceSub, Nat.reduceLT, Nat.reduceLeDiff, Int.reduceLT, Int.reduceLE, Int.reduceAdd, Int.reduceSub, Int.reduceNeg, Int.reduceToNat, Int.reduceEq, reduceCtorEq, *])
          | (refine SelK_mk (by kernel_rfl) ?_; simp only [push_cast, reduceIte, Nat.reduceEqDiff, Nat.reduceAdd, Nat.reduceMul, Nat.reduceSub, Nat.reduceLT, Nat.reduceLeDiff, Int.reduceLT, Int.reduceLE, Int.reduceAdd, Int.reduceSub, Int.reduceNeg, Int.reduceToNat, Int.reduceEq, reduceCtorEq])
          | exact IsB_mk
          | (refine Nx_in ?_; simp (config := { maxSteps := 2000000 }) only [List.set_set, Kon, push_cast, reduceIte, Nat.reduceEqDiff, Nat.reduceAdd, Nat.reduceMul, Nat.reduceSub, Nat.reduceLT, Nat.reduceLeDiff, Int.reduceLT, Int.reduceLE, Int.reduceAdd, Int.reduceSub, Int.reduceNeg, Int.reduceToNat, Int.reduceEq, reduceCtorEq, *])
          | (refine NxI_in (fun _ => ?_); simp (config := { maxSteps := 2000000 }) only [List.set_set, Kon, push_cast, reduceIte, Nat.reduceEqDiff, Nat.reduceAdd, Nat.reduceMul, Nat.reduceSub, Nat.reduceLT, Nat.reduceLeDiff, Int.reduceLT, Int.reduceLE, Int.reduceAdd, Int.reduceSub, Int.reduceNeg, Int.reduceToNat, Int.reduceEq, reduceCtorEq, *])
          | apply GQ_mkT
          | apply GQ_mkTN
          | apply GQ_mkF
          | apply GQ_mkFN
          | apply GQ_mkB
          | apply GQ_mkBF
          | (refine AW_region ?_; simp (config := { maxSteps := 2000000 }) only [List.set_set, Kon, push_cast, reduceIte, Nat.reduceEqDiff, Nat.reduceAdd, Nat.reduceMul, Nat.reduceSub, Nat.reduceLT, Nat.reduceLeDiff, Int.reduceLT, Int.reduceLE, Int.reduceAdd, Int.reduceSub, Int.reduceNeg, Int.reduceToNat, Int.reduceEq, reduceCtorEq, *])
          | (refine AW_dreg ?_; simp (config := { maxSteps := 2000000 }) only [List.set_set, Kon, push_cast, reduceIte, Nat.reduceEqDiff, Nat.reduceAdd, Nat.reduceMul, Nat.reduceSub, Nat.reduceLT, Nat.reduceLeDiff, Int.reduceLT, Int.reduceLE, Int.reduceAdd, Int.reduceSub, Int.reduceNeg, Int.reduceToNat, Int.reduceEq, reduceCtorEq, *])
          | (refine AW_block ?_)
          | refine AW_condT rfl ?_
          | refine AW_condF rfl ?_
          | refine AW_condAny rfl ?_ ?_
          | refine AW_condB rfl (fun _ => ?_) (fun _ => ?_)
          | refine AW_condN rfl (fun _ => ?_) (fun _ => ?_)
          | (refine ite_introN (fun _ => ?_) (fun _ => ?_) <;> try simp (config := { maxSteps := 2000000 }) only [List.set_set, Kon, push_cast, reduceIte, Nat.reduceEqDiff, Nat.reduceAdd, Nat.reduceMul, Nat.reduceSub, Nat.reduceLT, Nat.reduceLeDiff, Int.reduceLT, Int.reduceLE, Int.reduceAdd, Int.reduceSub, Int.reduceNeg, Int.reduceToNat, Int.reduceEq, reduceCtorEq, *])
          | (refine ite_intro (fun _ => ?_) (fun _ => ?_) <;> try simp (config := { maxSteps := 2000000 }) only [List.set_set, Kon, push_cast, reduceIte, Nat.reduceEqDiff, Nat.reduceAdd, Nat.reduceMul, Nat.reduceSub, Nat.reduceLT, Nat.reduceLeDiff, Int.reduceLT, Int.reduceLE, Int.reduceAdd, Int.reduceSub, Int.reduceNeg, Int.reduceToNat, Int.reduceEq, reduceCtorEq, *])
          | refine And.intro trivial ?_
          | refine And.intro (by omega) ?_
          | refine AW_block ?_
          | (refine AW_skip ?_; simp only [push_cast, reduceIte, Nat.reduceEqDiff, Nat.reduceAdd, Nat.reduceMul, Nat.reduceSub, Nat.reduceLT, Nat.reduceLeDiff, Int.reduceLT, Int.reduceLE, Int.reduceAdd, Int.reduceSub, Int.reduceNeg, Int.reduceToNat, Int.reduceEq, reduceCtorEq])
          | (refine AW_exit ?_; simp only [push_cast, reduceIte, Nat.reduceEqDiff, Nat.reduceAdd, Nat.reduceMul, Nat.reduceSub, Nat.reduceLT, Nat.reduceLeDiff, Int.reduceLT, Int.reduceLE, Int.reduceAdd, Int.reduceSub, Int.reduceNeg, Int.reduceToNat, Int.reduceEq, reduceCtorEq])
          | (refine AW_ret (Back_retR ?_); simp only [push_cast, reduceIte, Nat.reduceEqDiff, Nat.reduceAdd, Nat.reduceMul, Nat.reduceSub, Nat.reduceLT, Nat.reduceLeDiff, Int.reduceLT, Int.reduceLE, Int.reduceAdd, Int.reduceSub, Int.reduceNeg, Int.reduceToNat, Int.reduceEq, reduceCtorEq, *])
          | refine AW_cond rfl (fun _ => ?_) (fun _ => ?_)
          | refine And.intro ?_ ?_
        refine Nxt_mk _ _ _ ?_ (Cut_same (by repeat' first | exact SubT_nil | refine SubT_cons rfl rfl ?_ | refine SubT_consF rfl rfl ?_ | refine SubT_cons rfl (congrArg (AV.int _) (by omega)) ?_ | refine SubT_cons rfl (by first | (simp_all; done) | (simp_all; omega) | (simp_all; intros; omega)) ?_) (by simp)) ⟨a + 1, j + 1, cs.set a (xs.getD j 0), rfl, by omega, hlt, by simp [g6], rfl, rfl, ?_, ?_⟩
        · omega
        · have hk := hqk
          rw [hfx.out j hlt, List.filter_append, ← hta.out, List.set_eq_take_append_cons_drop, if_pos (by omega)]
          simp only [List.filter_cons, hk, Bool.not_false, if_true, List.filter_nil]
          rw [List.take_append]
          have : (cs.take a).length = a := by simp; omega
          rw [List.take_of_length_le (l := cs.take a) (by omega)]
          simp [this]
        · rw [List.drop_set_of_lt (by omega)]
          have := congrArg (List.drop 1) hdr.out
          simpa [List.drop_drop, Nat.add_comm] using this
      · repeat' first
          | refine AW_seq ?_
          | (refine AW_sreg (by kernel_rfl) ?_; simp (config := { maxSteps := 2000000 }) only [Kon, push_cast, reduceIte, Nat.reduceEqDiff, Nat.reduceAdd, Nat.reduceMul, Nat.reduceSub, Nat.reduceLT, Nat.reduceLeDiff, Int.reduceLT, Int.reduceLE, Int.reduceAdd, Int.reduceSub, Int.reduceNeg, Int.reduceToNat, Int.reduceEq, reduceCtorEq, *])
          | (refine AW_sdreg (by kernel_rfl) ?_; simp (config := { maxSteps := 2000000 }) only [Kon, push_cast, reduceIte, Nat.reduceEqDiff, Nat.reduceAdd, Nat.reduceMul, Nat.reduceSub, Nat.reduceLT, Nat.reduceLeDiff, Int.reduceLT, Int.reduceLE, Int.reduceAdd, Int.reduceSub, Int.reduceNeg, Int.reduceToNat, Int.reduceEq, reduceCtorEq, *])
          | (refine AW_dregM ?_; simp (config := { maxSteps := 2000000 }) only [Kon, push_cast, reduceIte, Nat.reduceEqDiff, Nat.reduceAdd, Nat.reduceMul, Nat.reduceSub, Nat.reduceLT, Nat.reduceLeDiff, Int.reduceLT, Int.reduceLE, Int.reduceAdd, Int.reduceSub, Int.reduceNeg, Int.reduceToNat, Int.reduceEq, reduceCtorEq, *])
          | (refine SelK_mk (by kernel_rfl) ?_; simp only [push_cast, reduceIte, Nat.reduceEqDiff, Nat.reduceAdd, Nat.reduceMul, Nat.reduceSub, Nat.reduceLT, Nat.reduceLeDiff, Int.reduceLT, Int.reduceLE, Int.reduceAdd, Int.reduceSub, Int.reduceNeg, Int.reduceToNat, Int.reduceEq, reduceCtorEq])
          | exact IsB_mk
          | (refine Nx_in ?_; simp (config := { maxSteps := 2000000 }) only [Kon, push_cast, reduceIte, Nat.reduceEqDiff, Nat.reduceAdd, Nat.reduceMul, Nat.reduceSub, Nat.reduceLT, Nat.reduceLeDiff, Int.reduceLT, Int.reduceLE, Int.reduceAdd, Int.reduceSub, Int.reduceNeg, Int.reduceToNat, Int.reduceEq, reduceCtorEq, *])
          | (refine NxI_in (fun _ => ?_); simp (config := { maxSteps := 2000000 }) only [Kon, push_cast, reduceIte, Nat.reduceEqDiff, Nat.reduceAdd, Nat.reduceMul, Nat.reduceSub, Nat.reduceLT, Nat.reduceLeDiff, Int.reduceLT, Int.reduceLE, Int.reduceAdd, Int.reduceSub, Int.reduceNeg, Int.reduceToNat, Int.reduceEq, reduceCtorEq, *])
          | apply GQ_mkT
          | apply GQ_mkTN
          | apply GQ_mkF
          | apply GQ_mkFN
          | apply GQ_mkB
          | apply GQ_mkBF
          | (refine AW_region ?_; simp (config := { maxSteps := 2000000 }) only [Kon, push_cast, reduceIte, Nat.reduceEqDiff, Nat.reduceAdd, Nat.reduceMul, Nat.reduceSub, Nat.reduceLT, Nat.reduceLeDiff, Int.reduceLT, Int.reduceLE, Int.reduceAdd, Int.reduceSub, Int.reduceNeg, Int.reduceToNat, Int.reduceEq, reduceCtorEq, *])
          | (refine AW_dreg ?_; simp (config := { maxSteps := 2000000 }) only [Kon, push_cast, reduceIte, Nat.reduceEqDiff, Nat.reduceAdd, Nat.reduceMul, Nat.reduceSub, Nat.reduceLT, Nat.reduceLeDiff, Int.reduceLT, Int.reduceLE, Int.reduceAdd, Int.reduceSub, Int.reduceNeg, Int.reduceToNat, Int.reduceEq, reduceCtorEq, *])
          | (refine AW_block ?_)
          | refine AW_condT rfl ?_
          | refine AW_condF rfl ?_
          | refine AW_condAny rfl ?_ ?_
          | refine AW_condB rfl (fun _ => ?_) (fun _ => ?_)
          | refine AW_condN rfl (fun _ => ?_) (fun _ => ?_)
          | (refine ite_introN (fun _ => ?_) (fun _ => ?_) <;> try simp (config := { maxSteps := 2000000 }) only [Kon, push_cast, reduceIte, Nat.reduceEqDiff, Nat.reduceAdd, Nat.reduceMul, Nat.reduceSub, Nat.reduceLT, Nat.reduceLeDiff, Int.reduceLT, Int.reduceLE, Int.reduceAdd, Int.reduceSub, Int.reduceNeg, Int.reduceToNat, Int.reduceEq, reduceCtorEq, *])
          | (refine ite_intro (fun _ => ?_) (fun _ => ?_) <;> try simp (config := { maxSteps := 2000000 }) only [Kon, push_cast, reduceIte, Nat.reduceEqDiff, Nat.reduceAdd, Nat.reduceMul, Nat.reduceSub, Nat.reduceLT, Nat.reduceLeDiff, Int.reduceLT, Int.reduceLE, Int.reduceAdd, Int.reduceSub, Int.reduceNeg, Int.reduceToNat, Int.reduceEq, reduceCtorEq, *])
          | refine And.intro trivial ?_
          | refine And.intro (by omega) ?_
          | refine AW_block ?_
          | (refine AW_skip ?_; simp only [push_cast, reduceIte, Nat.reduceEqDiff, Nat.reduceAdd, Nat.reduceMul, Nat.reduceSub, Nat.reduceLT, Nat.reduceLeDiff, Int.reduceLT, Int.reduceLE, Int.reduceAdd, Int.reduceSub, Int.reduceNeg, Int.reduceToNat, Int.reduceEq, reduceCtorEq])
          | (refine AW_exit ?_; simp only [push_cast, reduceIte, Nat.reduceEqDiff, Nat.reduceAdd, Nat.reduceMul, Nat.reduceSub, Nat.reduceLT, Nat.reduceLeDiff, Int.reduceLT, Int.reduceLE, Int.reduceAdd, Int.reduceSub, Int.reduceNeg, Int.reduceToNat, Int.reduceEq, reduceCtorEq])
          | (refine AW_ret (Back_retR ?_); simp only [push_cast, reduceIte, Nat.reduceEqDiff, Nat.reduceAdd, Nat.reduceMul, Nat.reduceSub, Nat.reduceLT, Nat.reduceLeDiff, Int.reduceLT, Int.reduceLE, Int.reduceAdd, Int.reduceSub, Int.reduceNeg, Int.reduceToNat, Int.reduceEq, reduceCtorEq, *])
          | refine AW_cond rfl (fun _ => ?_) (fun _ => ?_)
          | refine And.intro ?_ ?_
        refine Nxt_mk _ _ _ ?_ (Cut_same (by repeat' first | exact SubT_nil | refine SubT_cons rfl rfl ?_ | refine SubT_consF rfl rfl ?_ | refine SubT_cons rfl (congrArg (AV.int _) (by omega)) ?_ | refine SubT_cons rfl (by first | (simp_all; done) | (simp_all; omega) | (simp_all; intros; omega)) ?_) (by simp)) ⟨a, j + 1, cs, rfl, by omega, hlt, by simp [g6], rfl, rfl, ?_, ?_⟩
        · omega
        · have hk := hqk
          rw [hfx.out j hlt, List.filter_append, ← hta.out]
          simp only [List.filter_cons, hk, Bool.not_true, Bool.false_eq_true, if_false, List.filter_nil, List.append_nil]
        · have := congrArg (List.drop 1) hdr.out
          simpa [List.drop_drop, Nat.add_comm] using this
    · have g1 : ¬ (j : Int) < (xs.length : Int) := by omega
      have g6 : cs.length = xs.length := hcs.out
      have hrep : ∀ k, replC [AV.int .i64 0] k = (List.replicate k (0 : Int)).map (AV.int .i64) := by
        intro k
        induction k with
        | zero => rfl
        | succ k ih => simp [replC, ih, List.replicate_succ]
      have hjx : j = xs.length := by omega
      have ht2 : cs.take a = xs.filter (fun x => !q x) := by rw [hta.out, hjx, List.take_length]
      have hla : (xs.filter fun x => !q x).length = a := by rw [← ht2]; simp; omega
      have ht3 : List.take a (cs.map (AV.int .i64)) = (xs.filter fun x => !q x).map (AV.int .i64) := by rw [← List.map_take, ht2]
      have hd : List.drop (a + (xs.length - a)) (cs.map (AV.int .i64)) = [] := List.drop_eq_nil_of_le (by simp; omega)
      have hfin := h.out (xs.length - a)
      rw [hla] at hfin
      replace hfin := hid hfin
      clear hjx ht2 hla
      repeat' first
        | refine AW_seq ?_
        | (refine AW_sreg (by kernel_rfl) ?_; simp (config := { maxSteps := 2000000 }) only [List.set_set, hrep, List.length_replicate, Kon, push_cast, reduceIte, Nat.reduceEqDiff, Nat.reduceAdd, Nat.reduceMul, Nat.reduceSub, Nat.reduceLT, Nat.reduceLeDiff, Int.reduceLT, Int.reduceLE, Int.reduceAdd, Int.reduceSub, Int.reduceNeg, Int.reduceToNat, Int.reduceEq, reduceCtorEq, *])
        | (refine AW_sdreg (by kernel_rfl) ?_; simp (config := { maxSteps := 2000000 }) only [List.set_set, hrep, List.length_replicate, Kon, push_cast, reduceIte, Nat.reduceEqDiff, Nat.reduceAdd, Nat.reduceMul, Nat.reduceSub, Nat.reduceLT, Nat.reduceLeDiff, Int.reduceLT, Int.reduceLE, Int.reduceAdd, Int.reduceSub, Int.reduceNeg, Int.reduceToNat, Int.reduceEq, reduceCtorEq, *])
        | (refine AW_dregM ?_; simp (config := { maxSteps := 2000000 }) only [List.set_set, hrep, List.length_replicate, Kon, push_cast, reduceIte, Nat.reduceEqDiff, Nat.reduceAdd, Nat.reduceMul, Nat.reduceSub, Nat.reduceLT, Nat.reduceLeDiff, Int.reduceLT, Int.reduceLE, Int.reduceAdd, Int.reduceSub, Int.reduceNeg, Int.reduceToNat, Int.reduceEq, reduceCtorEq, *])
        | (refine SelK_mk (by kernel_rfl) ?_; simp only [push_cast, reduceIte, Nat.reduceEqDiff, Nat.reduceAdd, Nat.reduceMul, Nat.reduceSub, Nat.reduceLT, Nat.reduceLeDiff, Int.reduceLT, Int.reduceLE, Int.reduceAdd, Int.reduceSub, Int.reduceNeg, Int.reduceToNat, Int.reduceEq, reduceCtorEq])
        | exact IsB_mk
        | (refine Nx_in ?_; simp (config := { maxSteps := 2000000 }) only [List.set_set, hrep, List.length_replicate, Kon, push_cast, reduceIte, Nat.reduceEqDiff, Nat.reduceAdd, Nat.reduceMul, Nat.reduceSub, Nat.reduceLT, Nat.reduceLeDiff, Int.reduceLT, Int.reduceLE, Int.reduceAdd, Int.reduceSub, Int.reduceNeg, Int.reduceToNat, Int.reduceEq, reduceCtorEq, *])
        | (refine NxI_in (fun _ => ?_); simp (config := { maxSteps := 2000000 }) only [List.set_set, hrep, List.length_replicate, Kon, push_cast, reduceIte, Nat.reduceEqDiff, Nat.reduceAdd, Nat.reduceMul, Nat.reduceSub, Nat.reduceLT, Nat.reduceLeDiff, Int.reduceLT, Int.reduceLE, Int.reduceAdd, Int.reduceSub, Int.reduceNeg, Int.reduceToNat, Int.reduceEq, reduceCtorEq, *])
        | apply GQ_mkT
        | apply GQ_mkTN
        | apply GQ_mkF
        | apply GQ_mkFN
        | apply GQ_mkB
        | apply GQ_mkBF
        | (refine AW_region ?_; simp (config := { maxSteps := 2000000 }) only [List.set_set, hrep, List.length_replicate, Kon, push_cast, reduceIte, Nat.reduceEqDiff, Nat.reduceAdd, Nat.reduceMul, Nat.reduceSub, Nat.reduceLT, Nat.reduceLeDiff, Int.reduceLT, Int.reduceLE, Int.reduceAdd, Int.reduceSub, Int.reduceNeg, Int.reduceToNat, Int.reduceEq, reduceCtorEq, *])
        | (refine AW_dreg ?_; simp (config := { maxSteps := 2000000 }) only [List.set_set, hrep, List.length_replicate, Kon, push_cast, reduceIte, Nat.reduceEqDiff, Nat.reduceAdd, Nat.reduceMul, Nat.reduceSub, Nat.reduceLT, Nat.reduceLeDiff, Int.reduceLT, Int.reduceLE, Int.reduceAdd, Int.reduceSub, Int.reduceNeg, Int.reduceToNat, Int.reduceEq, reduceCtorEq, *])
        | (refine AW_block ?_)
        | refine AW_condT rfl ?_
        | refine AW_condF rfl ?_
        | refine AW_condAny rfl ?_ ?_
        | refine AW_condB rfl (fun _ => ?_) (fun _ => ?_)
        | refine AW_condN rfl (fun _ => ?_) (fun _ => ?_)
        | (refine ite_introN (fun _ => ?_) (fun _ => ?_) <;> try simp (config := { maxSteps := 2000000 }) only [List.set_set, hrep, List.length_replicate, Kon, push_cast, reduceIte, Nat.reduceEqDiff, Nat.reduceAdd, Nat.reduceMul, Nat.reduceSub, Nat.reduceLT, Nat.reduceLeDiff, Int.reduceLT, Int.reduceLE, Int.reduceAdd, Int.reduceSub, Int.reduceNeg, Int.reduceToNat, Int.reduceEq, reduceCtorEq, *])
        | (refine ite_intro (fun _ => ?_) (fun _ => ?_) <;> try simp (config := { maxSteps := 2000000 }) only [List.set_set, hrep, List.length_replicate, Kon, push_cast, reduceIte, Nat.reduceEqDiff, Nat.reduceAdd, Nat.reduceMul, Nat.reduceSub, Nat.reduceLT, Nat.reduceLeDiff, Int.reduceLT, Int.reduceLE, Int.reduceAdd, Int.reduceSub, Int.reduceNeg, Int.reduceToNat, Int.reduceEq, reduceCtorEq, *])
        | refine And.intro trivial ?_
        | refine And.intro (by omega) ?_
        | refine AW_block ?_
        | (refine AW_skip ?_; simp only [push_cast, reduceIte, Nat.reduceEqDiff, Nat.reduceAdd, Nat.reduceMul, Nat.reduceSub, Nat.reduceLT, Nat.reduceLeDiff, Int.reduceLT, Int.reduceLE, Int.reduceAdd, Int.reduceSub, Int.reduceNeg, Int.reduceToNat, Int.reduceEq, reduceCtorEq])
        | (refine AW_exit ?_; simp only [push_cast, reduceIte, Nat.reduceEqDiff, Nat.reduceAdd, Nat.reduceMul, Nat.reduceSub, Nat.reduceLT, Nat.reduceLeDiff, Int.reduceLT, Int.reduceLE, Int.reduceAdd, Int.reduceSub, Int.reduceNeg, Int.reduceToNat, Int.reduceEq, reduceCtorEq])
        | (refine AW_ret (Back_retR ?_); simp only [push_cast, reduceIte, Nat.reduceEqDiff, Nat.reduceAdd, Nat.reduceMul, Nat.reduceSub, Nat.reduceLT, Nat.reduceLeDiff, Int.reduceLT, Int.reduceLE, Int.reduceAdd, Int.reduceSub, Int.reduceNeg, Int.reduceToNat, Int.reduceEq, reduceCtorEq, *])
        | refine AW_cond rfl (fun _ => ?_) (fun _ => ?_)
        | refine And.intro ?_ ?_
      exact Fin_same hfin.out


/-- A number more, at place k. -/
def ins (xs : List Int) (k : Nat) (x : Int) : List Int := xs.take k ++ x :: xs.drop k

theorem olap_k {l : List AV} {n : Nat} {cap : Option Nat} {i off m s : Nat} {cp : Option Nat} {l2 : List AV} {L : List Blk} {K : AV → List Blk → Prop} (hl : n = 0 ∨ l ≠ []) (hL : L[i]? = some (.cells l2)) (hpos : 0 < s) (h : K (.bool false) L) :
    ACall Tryd.prog 28 [.sl l n cap, .lsl i off m cp s] L K :=
  overlaps_k (fn := Tryd.f28) (tS := 22) (tR := 4) (e := 2) (sz := 1) (by kernel_rfl) (by kernel_rfl) (by kernel_rfl) (by kernel_rfl) (by kernel_rfl) (by kernel_rfl) (by kernel_rfl) hl hL hpos h

theorem ins0_k {x : Int} {cap : Option Nat} {L : List Blk} {K : AV → List Blk → Prop} (h : ∀ rest, K (.lsl L.length 0 1 none 1) (L ++ [.cells (.int .i64 x :: rest)])) :
    ACall Tryd.prog 22 [.sl [] 0 (some 0), .int .i64 0, .sl [.int .i64 x] 1 cap] L K := by
  replace h := hid (h [])
  refine ACall_fn c_slices_Insert_int64_int64_eq (by simp [c_slices_Insert_int64_int64]) ?_
  simp only [c_slices_Insert_int64_int64, initT]
  repeat' first
    | refine AW_seq ?_
    | (refine AW_sreg (by kernel_rfl) ?_; simp (config := { maxSteps := 2000000 }) only [Kon, push_cast, reduceIte, Nat.reduceEqDiff, Nat.reduceAdd, Nat.reduceMul, Nat.reduceSub, Nat.reduceLT, Nat.reduceLeDiff, Int.reduceLT, Int.reduceLE, Int.reduceAdd, Int.reduceSub, Int.reduceNeg, Int.reduceToNat, Int.reduceEq, reduceCtorEq, *])
    | (refine AW_sdreg (by kernel_rfl) ?_; simp (config := { maxSteps := 2000000 }) only [Kon, push_cast, reduceIte, Nat.reduceEqDiff, Nat.reduceAdd, Nat.reduceMul, Nat.reduceSub, Nat.reduceLT, Nat.reduceLeDiff, Int.reduceLT, Int.reduceLE, Int.reduceAdd, Int.reduceSub, Int.reduceNeg, Int.reduceToNat, Int.reduceEq, reduceCtorEq, *])
    | (refine AW_dregM ?_; simp (config := { maxSteps := 2000000 }) only [Kon, push_cast, reduceIte, Nat.reduceEqDiff, Nat.reduceAdd, Nat.reduceMul, Nat.reduceSub, Nat.reduceLT, Nat.reduceLeDiff, Int.reduceLT, Int.reduceLE, Int.reduceAdd, Int.reduceSub, Int.reduceNeg, Int.reduceToNat, Int.reduceEq, reduceCtorEq, *])
    | (refine SelK_mk (by kernel_rfl) ?_; simp only [push_cast, reduceIte, Nat.reduceEqDiff, Nat.reduceAdd, Nat.reduceMul, Nat.reduceSub, Nat.reduceLT, Nat.reduceLeDiff, Int.reduceLT, Int.reduceLE, Int.reduceAdd, Int.reduceSub, Int.reduceNeg, Int.reduceToNat, Int.reduceEq, reduceCtorEq])
    | exact IsB_mk
    | (refine Nx_in ?_; simp (config := { maxSteps := 2000000 }) only [Kon, push_cast, reduceIte, Nat.reduceEqDiff, Nat.reduceAdd, Nat.reduceMul, Nat.reduceSub, Nat.reduceLT, Nat.reduceLeDiff, Int.reduceLT, Int.reduceLE, Int.reduceAdd, Int.reduceSub, Int.reduceNeg, Int.reduceToNat, Int.reduceEq, reduceCtorEq, *])
    | (refine NxI_in (fun _ => ?_); simp (config := { maxSteps := 2000000 }) only [Kon, push_cast, reduceIte, Nat.reduceEqDiff, Nat.reduceAdd, Nat.reduceMul, Nat.reduceSub, Nat.reduceLT, Nat.reduceLeDiff, Int.reduceLT, Int.reduceLE, Int.reduceAdd, Int.reduceSub, Int.reduceNeg, Int.reduceToNat, Int.reduceEq, reduceCtorEq, *])
    | apply GQ_mkT
    | apply GQ_mkTN
    | apply GQ_mkF
    | apply GQ_mkFN
    | apply GQ_mkB
    | apply GQ_mkBF
    | (refine AW_region ?_; simp (config := { maxSteps := 2000000 }) only [Kon, push_cast, reduceIte, Nat.reduceEqDiff, Nat.reduceAdd, Nat.reduceMul, Nat.reduceSub, Nat.reduceLT, Nat.reduceLeDiff, Int.reduceLT, Int.reduceLE, Int.reduceAdd, Int.reduceSub, Int.reduceNeg, Int.reduceToNat, Int.reduceEq, reduceCtorEq, *])
    | (refine AW_dreg ?_; simp (config := { maxSteps := 2000000 }) only [Kon, push_cast, reduceIte, Nat.reduceEqDiff, Nat.reduceAdd, Nat.reduceMul, Nat.reduceSub, Nat.reduceLT, Nat.reduceLeDiff, Int.reduceLT, Int.reduceLE, Int.reduceAdd, Int.reduceSub, Int.reduceNeg, Int.reduceToNat, Int.reduceEq, reduceCtorEq, *])
    | (refine AW_block ?_)
    | refine AW_condT rfl ?_
    | refine AW_condF rfl ?_
    | refine AW_condAny rfl ?_ ?_
    | refine AW_condB rfl (fun _ => ?_) (fun _ => ?_)
    | refine AW_condN rfl (fun _ => ?_) (fun _ => ?_)
    | (refine ite_introN (fun _ => ?_) (fun _ => ?_) <;> try simp (config := { maxSteps := 2000000 }) only [Kon, push_cast, reduceIte, Nat.reduceEqDiff, Nat.reduceAdd, Nat.reduceMul, Nat.reduceSub, Nat.reduceLT, Nat.reduceLeDiff, Int.reduceLT, Int.reduceLE, Int.reduceAdd, Int.reduceSub, Int.reduceNeg, Int.reduceToNat, Int.reduceEq, reduceCtorEq, *])
    | (refine ite_intro (fun _ => ?_) (fun _ => ?_) <;> try simp (config := { maxSteps := 2000000 }) only [Kon, push_cast, reduceIte, Nat.reduceEqDiff, Nat.reduceAdd, Nat.reduceMul, Nat.reduceSub, Nat.reduceLT, Nat.reduceLeDiff, Int.reduceLT, Int.reduceLE, Int.reduceAdd, Int.reduceSub, Int.reduceNeg, Int.reduceToNat, Int.reduceEq, reduceCtorEq, *])
    | refine And.intro trivial ?_
    | refine And.intro (by omega) ?_
    | refine AW_block ?_
    | (refine AW_skip ?_; simp only [push_cast, reduceIte, Nat.reduceEqDiff, Nat.reduceAdd, Nat.reduceMul, Nat.reduceSub, Nat.reduceLT, Nat.reduceLeDiff, Int.reduceLT, Int.reduceLE, Int.reduceAdd, Int.reduceSub, Int.reduceNeg, Int.reduceToNat, Int.reduceEq, reduceCtorEq])
    | (refine AW_exit ?_; simp only [push_cast, reduceIte, Nat.reduceEqDiff, Nat.reduceAdd, Nat.reduceMul, Nat.reduceSub, Nat.reduceLT, Nat.reduceLeDiff, Int.reduceLT, Int.reduceLE, Int.reduceAdd, Int.reduceSub, Int.reduceNeg, Int.reduceToNat, Int.reduceEq, reduceCtorEq])
    | (refine AW_ret (Back_retR ?_); simp only [push_cast, reduceIte, Nat.reduceEqDiff, Nat.reduceAdd, Nat.reduceMul, Nat.reduceSub, Nat.reduceLT, Nat.reduceLeDiff, Int.reduceLT, Int.reduceLE, Int.reduceAdd, Int.reduceSub, Int.reduceNeg, Int.reduceToNat, Int.reduceEq, reduceCtorEq, *])
    | refine AW_cond rfl (fun _ => ?_) (fun _ => ?_)
    | refine And.intro ?_ ?_
  exact Fin_own L.length (.cells [.int .i64 x]) rfl (Nat.le_refl _) (by simp) (by simp [AV.refs]) (by simp [Blk.refs, AV.refsL, AV.refs]) (by simpa [AV.ren] using h.out)

theorem refs_dead {L : List Blk} {i n : Nat} (h : ∀ k ∈ L, k.refs (fun i => decide (i < n)) = true) : ∀ k ∈ L.set i .dead, k.refs (fun i => decide (i < n)) = true := fun k hk => by
  rcases List.mem_or_eq_of_mem_set hk with h1 | h1
  · exact h k h1
  · subst h1; rfl

theorem Fin_capn {L0 L : List Blk} {i off n s : Nat} {cp : Option Nat} {Q : AV → List Blk → Prop} (h : Fin L0 (.lsl i off n none s) L Q) : Fin L0 (.lsl i off n cp s) L Q := fun w0 S0 E0 E w v h0 hn hw hR hv => by
  refine h w0 S0 E0 E w v h0 hn hw hR ?_
  simp only [VR] at hv ⊢
  obtain ⟨c, rc, d, h1, h2, h3, h4, _, h6⟩ := hv
  exact ⟨c, rc, d, h1, h2, h3, h4, by simp, h6⟩

theorem insl_k {xs : List Int} {k : Nat} {x : Int} {i : Nat} {rest : List AV} {cap : Option Nat} {L : List Blk} {K : AV → List Blk → Prop} (hn : xs.length ≤ 1000000) (hk : k ≤ xs.length) (hrest : ∀ a ∈ rest, a.refs (fun i => decide (i < L.length)) = true) (hL : L[i]? = some (.cells (ints xs ++ rest)))
    (h : ∀ rest, (∀ a ∈ rest, a.refs (fun i => decide (i < L.length)) = true) → K (.lsl L.length 0 (xs.length + 1) none 1) (L.set i .dead ++ [.cells (ints (ins xs k x) ++ rest)])) :
    ACall Tryd.prog 22 [.lsl i 0 xs.length none 1, .int .i64 k, .sl [.int .i64 x] 1 cap] L K := by
  have hi : i < L.length := (List.getElem?_eq_some_iff.1 hL).1
  have hset : ∀ c, (L.set i c)[i]? = some c := fun c => by simp [hi]
  replace h := hid h
  refine ACall_fn c_slices_Insert_int64_int64_eq (by simp [c_slices_Insert_int64_int64]) ?_
  simp only [c_slices_Insert_int64_int64, initT]
  refine AW_cap 0 rfl fun cp hcp => ?_
  by_cases hke : k = xs.length
  · subst hke
    have g2 : List.take xs.length (xs.map (AV.int .i64) ++ rest) = xs.map (AV.int .i64) := by rw [List.take_append]; simp [List.take_of_length_le]
    have hfin := h.out [] (by simp)
    rw [show ints (ins xs xs.length x) ++ [] = xs.map (AV.int .i64) ++ [.int .i64 x] by simp [ins]] at hfin
    replace hfin := hid hfin
    repeat' first
      | refine AW_seq ?_
      | (refine AW_sreg (by kernel_rfl) ?_; simp (config := { maxSteps := 2000000 }) only [Kon, push_cast, reduceIte, Nat.reduceEqDiff, Nat.reduceAdd, Nat.reduceMul, Nat.reduceSub, Nat.reduceLT, Nat.reduceLeDiff, Int.reduceLT, Int.reduceLE, Int.reduceAdd, Int.reduceSub, Int.reduceNeg, Int.reduceToNat, Int.reduceEq, reduceCtorEq, *])
      | (refine AW_sdreg (by kernel_rfl) ?_; simp (config := { maxSteps := 2000000 }) only [Kon, push_cast, reduceIte, Nat.reduceEqDiff, Nat.reduceAdd, Nat.reduceMul, Nat.reduceSub, Nat.reduceLT, Nat.reduceLeDiff, Int.reduceLT, Int.reduceLE, Int.reduceAdd, Int.reduceSub, Int.reduceNeg, Int.reduceToNat, Int.reduceEq, reduceCtorEq, *])
      | (refine AW_dregM ?_; simp (config := { maxSteps := 2000000 }) only [Kon, push_cast, reduceIte, Nat.reduceEqDiff, Nat.reduceAdd, Nat.reduceMul, Nat.reduceSub, Nat.reduceLT, Nat.reduceLeDiff, Int.reduceLT, Int.reduceLE, Int.reduceAdd, Int.reduceSub, Int.reduceNeg, Int.reduceToNat, Int.reduceEq, reduceCtorEq, *])
      | (refine SelK_mk (by kernel_rfl) ?_; simp only [push_cast, reduceIte, Nat.reduceEqDiff, Nat.reduceAdd, Nat.reduceMul, Nat.reduceSub, Nat.reduceLT, Nat.reduceLeDiff, Int.reduceLT, Int.reduceLE, Int.reduceAdd, Int.reduceSub, Int.reduceNeg, Int.reduceToNat, Int.reduceEq, reduceCtorEq])
      | exact IsB_mk
      | (refine Nx_in ?_; simp (config := { maxSteps := 2000000 }) only [Kon, push_cast, reduceIte, Nat.reduceEqDiff, Nat.reduceAdd, Nat.reduceMul, Nat.reduceSub, Nat.reduceLT, Nat.reduceLeDiff, Int.reduceLT, Int.reduceLE, Int.reduceAdd, Int.reduceSub, Int.reduceNeg, Int.reduceToNat, Int.reduceEq, reduceCtorEq, *])
      | (refine NxI_in (fun _ => ?_); simp (config := { maxSteps := 2000000 }) only [Kon, push_cast, reduceIte, Nat.reduceEqDiff, Nat.reduceAdd, Nat.reduceMul, Nat.reduceSub, Nat.reduceLT, Nat.reduceLeDiff, Int.reduceLT, Int.reduceLE, Int.reduceAdd, Int.reduceSub, Int.reduceNeg, Int.reduceToNat, Int.reduceEq, reduceCtorEq, *])
      | apply GQ_mkT
      | apply GQ_mkTN
      | apply GQ_mkF
      | apply GQ_mkFN
      | apply GQ_mkB
      | apply GQ_mkBF
      | (refine AW_region ?_; simp (config := { maxSteps := 2000000 }) only [Kon, push_cast, reduceIte, Nat.reduceEqDiff, Nat.reduceAdd, Nat.reduceMul, Nat.reduceSub, Nat.reduceLT, Nat.reduceLeDiff, Int.reduceLT, Int.reduceLE, Int.reduceAdd, Int.reduceSub, Int.reduceNeg, Int.reduceToNat, Int.reduceEq, reduceCtorEq, *])
      | (refine AW_dreg ?_; simp (config := { maxSteps := 2000000 }) only [Kon, push_cast, reduceIte, Nat.reduceEqDiff, Nat.reduceAdd, Nat.reduceMul, Nat.reduceSub, Nat.reduceLT, Nat.reduceLeDiff, Int.reduceLT, Int.reduceLE, Int.reduceAdd, Int.reduceSub, Int.reduceNeg, Int.reduceToNat, Int.reduceEq, reduceCtorEq, *])
      | (refine AW_block ?_)
      | refine AW_condT rfl ?_
      | refine AW_condF rfl ?_
      | refine AW_condAny rfl ?_ ?_
      | refine AW_condB rfl (fun _ => ?_) (fun _ => ?_)
      | refine AW_condN rfl (fun _ => ?_) (fun _ => ?_)
      | (refine ite_introN (fun _ => ?_) (fun _ => ?_) <;> try simp (config := { maxSteps := 2000000 }) only [Kon, push_cast, reduceIte, Nat.reduceEqDiff, Nat.reduceAdd, Nat.reduceMul, Nat.reduceSub, Nat.reduceLT, Nat.reduceLeDiff, Int.reduceLT, Int.reduceLE, Int.reduceAdd, Int.reduceSub, Int.reduceNeg, Int.reduceToNat, Int.reduceEq, reduceCtorEq, *])
      | (refine ite_intro (fun _ => ?_) (fun _ => ?_) <;> try simp (config := { maxSteps := 2000000 }) only [Kon, push_cast, reduceIte, Nat.reduceEqDiff, Nat.reduceAdd, Nat.reduceMul, Nat.reduceSub, Nat.reduceLT, Nat.reduceLeDiff, Int.reduceLT, Int.reduceLE, Int.reduceAdd, Int.reduceSub, Int.reduceNeg, Int.reduceToNat, Int.reduceEq, reduceCtorEq, *])
      | refine And.intro trivial ?_
      | refine And.intro (by omega) ?_
      | refine AW_block ?_
      | (refine AW_skip ?_; simp only [push_cast, reduceIte, Nat.reduceEqDiff, Nat.reduceAdd, Nat.reduceMul, Nat.reduceSub, Nat.reduceLT, Nat.reduceLeDiff, Int.reduceLT, Int.reduceLE, Int.reduceAdd, Int.reduceSub, Int.reduceNeg, Int.reduceToNat, Int.reduceEq, reduceCtorEq])
      | (refine AW_exit ?_; simp only [push_cast, reduceIte, Nat.reduceEqDiff, Nat.reduceAdd, Nat.reduceMul, Nat.reduceSub, Nat.reduceLT, Nat.reduceLeDiff, Int.reduceLT, Int.reduceLE, Int.reduceAdd, Int.reduceSub, Int.reduceNeg, Int.reduceToNat, Int.reduceEq, reduceCtorEq])
      | (refine AW_ret (Back_retR ?_); simp only [push_cast, reduceIte, Nat.reduceEqDiff, Nat.reduceAdd, Nat.reduceMul, Nat.reduceSub, Nat.reduceLT, Nat.reduceLeDiff, Int.reduceLT, Int.reduceLE, Int.reduceAdd, Int.reduceSub, Int.reduceNeg, Int.reduceToNat, Int.reduceEq, reduceCtorEq, *])
      | refine AW_cond rfl (fun _ => ?_) (fun _ => ?_)
      | refine And.intro ?_ ?_
    exact Fin_ownT (L1 := L.set i .dead) L.length (.cells (xs.map (AV.int .i64) ++ [.int .i64 x])) rfl (by simp) refs_dead (Nat.le_refl _) (by simp) (by simp [AV.refs]) (by
      simp only [Blk.refs, AV.refsL_iff, List.mem_append, List.mem_singleton]
      rintro a (h | rfl)
      · exact AV.refsL_iff.1 (refs_ints xs) a h
      · rfl) (by simpa [AV.ren] using hfin.out)
  have g1 : ¬ (k : Int) = (xs.length : Int) := by omega
  have g2 : IntKind.i64.wrap ((xs.length : Int) + 1) = (xs.length : Int) + 1 := wrap64_in (by omega) (by omega)
  have g3 : IntKind.i64.wrap ((k : Int) + 1) = (k : Int) + 1 := wrap64_in (by omega) (by omega)
  have g4 : IntKind.i64.wrap ((xs.length : Int) + 1 - (k : Int)) = (xs.length : Int) + 1 - (k : Int) := wrap64_in (by omega) (by omega)
  have g5 : ((xs.length : Int) + 1).toNat = xs.length + 1 := by omega
  have g6 : ((k : Int) + 1).toNat = k + 1 := by omega
  have g7 : ((xs.length : Int) + 1 - (k : Int)).toNat = xs.length + 1 - k := by omega
  by_cases hroom : xs.length + 1 ≤ cp
  · have g8 : ¬ (cp : Int) < (xs.length : Int) + 1 := by omega
    refine AW_ext 0 rfl hL (by omega) ?_
    simp only [Nat.zero_add, Nat.mul_one]
    obtain ⟨R, hR⟩ : ∃ R, R = rest ++ List.replicate (cp - (ints xs ++ rest).length) AV.undef := ⟨_, rfl⟩
    rw [List.append_assoc, ← hR]
    have hRl : cp ≤ xs.length + R.length := by rw [hR]; simp; omega
    have hRr : ∀ a ∈ R, a.refs (fun i => decide (i < L.length)) = true := fun a ha => by
      rw [hR, List.mem_append] at ha
      rcases ha with h | h
      · exact hrest a h
      · obtain ⟨_, rfl⟩ := List.mem_replicate.1 h; rfl
    replace hRr := hid hRr
    clear hR
    have gm : min (xs.length + 1 - k) (xs.length + 1 - (k + 1)) = xs.length - k := by omega
    have gm2 : min 1 (xs.length + 1 - k) = 1 := by omega
    have hA : List.take (xs.length - k) (List.take (xs.length + 1 - k) (List.drop k (xs.map (AV.int .i64) ++ R))) = (xs.drop k).map (AV.int .i64) := by
      rw [List.take_take, List.drop_append, List.take_append]
      have h1 : min (xs.length - k) (xs.length + 1 - k) = xs.length - k := by omega
      simp [h1, List.take_of_length_le]
    have hlt1 : (List.take (k + 1) (xs.map (AV.int .i64) ++ R)).length = k + 1 := by simp; omega
    have hB : ∀ Z, List.take k (List.take (k + 1) (xs.map (AV.int .i64) ++ R) ++ Z) = (xs.take k).map (AV.int .i64) := fun Z => by
      rw [List.take_append_of_le_length (by omega), List.take_take, Nat.min_eq_left (by omega), List.take_append_of_le_length (by simp; omega)]; simp
    have hC : ∀ Z, List.drop (k + 1) (List.take (k + 1) (xs.map (AV.int .i64) ++ R) ++ Z) = Z := fun Z => by
      rw [List.drop_append_of_le_length (by omega), List.drop_of_length_le (by omega)]; simp
    clear hlt1
    have hfin := h.out (List.drop (k + 1 + (xs.length - k)) (xs.map (AV.int .i64) ++ R)) (fun a ha => by
      have := List.mem_of_mem_drop ha
      rcases List.mem_append.1 this with h1 | h1
      · exact AV.refsL_iff.1 (refs_ints xs) a h1
      · exact hRr.out a h1)
    have hrf : ∀ a ∈ (xs.take k).map (AV.int .i64) ++ AV.int .i64 x :: ((xs.drop k).map (AV.int .i64) ++ List.drop (k + 1 + (xs.length - k)) (xs.map (AV.int .i64) ++ R)), a.refs (fun i => decide (i < L.length)) = true := fun a ha => by
      simp only [List.mem_append, List.mem_cons, List.mem_map] at ha
      rcases ha with ⟨y, _, rfl⟩ | rfl | ⟨y, _, rfl⟩ | h1
      · rfl
      · rfl
      · rfl
      · have := List.mem_of_mem_drop h1
        rcases List.mem_append.1 this with h1 | h1
        · exact AV.refsL_iff.1 (refs_ints xs) a h1
        · exact hRr.out a h1
    replace hrf := hid hrf
    rw [show ints (ins xs k x) ++ List.drop (k + 1 + (xs.length - k)) (xs.map (AV.int .i64) ++ R) = (xs.take k).map (AV.int .i64) ++ AV.int .i64 x :: ((xs.drop k).map (AV.int .i64) ++ List.drop (k + 1 + (xs.length - k)) (xs.map (AV.int .i64) ++ R)) by simp [ins]] at hfin
    replace hfin := hid hfin
    repeat' first
      | refine AW_seq ?_
      | (refine AW_sreg (by kernel_rfl) ?_; simp (config := { maxSteps := 2000000 }) only [List.set_set, List.length_take, List.length_drop, Kon, push_cast, reduceIte, Nat.reduceEqDiff, Nat.reduceAdd, Nat.reduceMul, Nat.reduceSub, Nat.reduceLT, Nat.reduceLeDiff, Int.reduceLT, Int.reduceLE, Int.reduceAdd, Int.reduceSub, Int.reduceNeg, Int.reduceToNat, Int.reduceEq, reduceCtorEq, *])
      | (refine AW_sdreg (by kernel_rfl) ?_; simp (config := { maxSteps := 2000000 }) only [List.set_set, List.length_take, List.length_drop, Kon, push_cast, reduceIte, Nat.reduceEqDiff, Nat.reduceAdd, Nat.reduceMul, Nat.reduceSub, Nat.reduceLT, Nat.reduceLeDiff, Int.reduceLT, Int.reduceLE, Int.reduceAdd, Int.reduceSub, Int.reduceNeg, Int.reduceToNat, Int.reduceEq, reduceCtorEq, *])
      | (refine AW_dregM ?_; simp (config := { maxSteps := 2000000 }) only [List.set_set, List.length_take, List.length_drop, Kon, push_cast, reduceIte, Nat.reduceEqDiff, Nat.reduceAdd, Nat.reduceMul, Nat.reduceSub, Nat.reduceLT, Nat.reduceLeDiff, Int.reduceLT, Int.reduceLE, Int.reduceAdd, Int.reduceSub, Int.reduceNeg, Int.reduceToNat, Int.reduceEq, reduceCtorEq, *])
      | (refine SelK_mk (by kernel_rfl) ?_; simp only [push_cast, reduceIte, Nat.reduceEqDiff, Nat.reduceAdd, Nat.reduceMul, Nat.reduceSub, Nat.reduceLT, Nat.reduceLeDiff, Int.reduceLT, Int.reduceLE, Int.reduceAdd, Int.reduceSub, Int.reduceNeg, Int.reduceToNat, Int.reduceEq, reduceCtorEq])
      | exact IsB_mk
      | (refine Nx_in ?_; simp (config := { maxSteps := 2000000 }) only [List.set_set, List.length_take, List.length_drop, Kon, push_cast, reduceIte, Nat.reduceEqDiff, Nat.reduceAdd, Nat.reduceMul, Nat.reduceSub, Nat.reduceLT, Nat.reduceLeDiff, Int.reduceLT, Int.reduceLE, Int.reduceAdd, Int.reduceSub, Int.reduceNeg, Int.reduceToNat, Int.reduceEq, reduceCtorEq, *])
      | (refine NxI_in (fun _ => ?_); simp (config := { maxSteps := 2000000 }) only [List.set_set, List.length_take, List.length_drop, Kon, push_cast, reduceIte, Nat.reduceEqDiff, Nat.reduceAdd, Nat.reduceMul, Nat.reduceSub, Nat.reduceLT, Nat.reduceLeDiff, Int.reduceLT, Int.reduceLE, Int.reduceAdd, Int.reduceSub, Int.reduceNeg, Int.reduceToNat, Int.reduceEq, reduceCtorEq, *])
      | apply GQ_mkT
      | apply GQ_mkTN
      | apply GQ_mkF
      | apply GQ_mkFN
      | apply GQ_mkB
      | apply GQ_mkBF
      | (refine AW_region ?_; simp (config := { maxSteps := 2000000 }) only [List.set_set, List.length_take, List.length_drop, Kon, push_cast, reduceIte, Nat.reduceEqDiff, Nat.reduceAdd, Nat.reduceMul, Nat.reduceSub, Nat.reduceLT, Nat.reduceLeDiff, Int.reduceLT, Int.reduceLE, Int.reduceAdd, Int.reduceSub, Int.reduceNeg, Int.reduceToNat, Int.reduceEq, reduceCtorEq, *])
      | (refine AW_dreg ?_; simp (config := { maxSteps := 2000000 }) only [List.set_set, List.length_take, List.length_drop, Kon, push_cast, reduceIte, Nat.reduceEqDiff, Nat.reduceAdd, Nat.reduceMul, Nat.reduceSub, Nat.reduceLT, Nat.reduceLeDiff, Int.reduceLT, Int.reduceLE, Int.reduceAdd, Int.reduceSub, Int.reduceNeg, Int.reduceToNat, Int.reduceEq, reduceCtorEq, *])
      | (refine AW_block ?_)
      | (refine olap_k (.inr (by simp)) (hset _) (by omega) ?_; simp (config := { maxSteps := 2000000 }) only [List.set_set, List.length_take, List.length_drop, Kon, push_cast, reduceIte, Nat.reduceEqDiff, Nat.reduceAdd, Nat.reduceMul, Nat.reduceSub, Nat.reduceLT, Nat.reduceLeDiff, Int.reduceLT, Int.reduceLE, Int.reduceAdd, Int.reduceSub, Int.reduceNeg, Int.reduceToNat, Int.reduceEq, reduceCtorEq, *])
      | refine AW_condT rfl ?_
      | refine AW_condF rfl ?_
      | refine AW_condAny rfl ?_ ?_
      | refine AW_condB rfl (fun _ => ?_) (fun _ => ?_)
      | refine AW_condN rfl (fun _ => ?_) (fun _ => ?_)
      | (refine ite_introN (fun _ => ?_) (fun _ => ?_) <;> try simp (config := { maxSteps := 2000000 }) only [List.set_set, List.length_take, List.length_drop, Kon, push_cast, reduceIte, Nat.reduceEqDiff, Nat.reduceAdd, Nat.reduceMul, Nat.reduceSub, Nat.reduceLT, Nat.reduceLeDiff, Int.reduceLT, Int.reduceLE, Int.reduceAdd, Int.reduceSub, Int.reduceNeg, Int.reduceToNat, Int.reduceEq, reduceCtorEq, *])
      | (refine ite_intro (fun _ => ?_) (fun _ => ?_) <;> try simp (config := { maxSteps := 2000000 }) only [List.set_set, List.length_take, List.length_drop, Kon, push_cast, reduceIte, Nat.reduceEqDiff, Nat.reduceAdd, Nat.reduceMul, Nat.reduceSub, Nat.reduceLT, Nat.reduceLeDiff, Int.reduceLT, Int.reduceLE, Int.reduceAdd, Int.reduceSub, Int.reduceNeg, Int.reduceToNat, Int.reduceEq, reduceCtorEq, *])
      | refine And.intro trivial ?_
      | refine And.intro (by omega) ?_
      | refine AW_block ?_
      | (refine AW_skip ?_; simp only [push_cast, reduceIte, Nat.reduceEqDiff, Nat.reduceAdd, Nat.reduceMul, Nat.reduceSub, Nat.reduceLT, Nat.reduceLeDiff, Int.reduceLT, Int.reduceLE, Int.reduceAdd, Int.reduceSub, Int.reduceNeg, Int.reduceToNat, Int.reduceEq, reduceCtorEq])
      | (refine AW_exit ?_; simp only [push_cast, reduceIte, Nat.reduceEqDiff, Nat.reduceAdd, Nat.reduceMul, Nat.reduceSub, Nat.reduceLT, Nat.reduceLeDiff, Int.reduceLT, Int.reduceLE, Int.reduceAdd, Int.reduceSub, Int.reduceNeg, Int.reduceToNat, Int.reduceEq, reduceCtorEq])
      | (refine AW_ret (Back_retR ?_); simp only [push_cast, reduceIte, Nat.reduceEqDiff, Nat.reduceAdd, Nat.reduceMul, Nat.reduceSub, Nat.reduceLT, Nat.reduceLeDiff, Int.reduceLT, Int.reduceLE, Int.reduceAdd, Int.reduceSub, Int.reduceNeg, Int.reduceToNat, Int.reduceEq, reduceCtorEq, *])
      | refine AW_cond rfl (fun _ => ?_) (fun _ => ?_)
      | refine And.intro ?_ ?_
    refine Fin_capn (Fin_mv (hset _) ?_)
    rw [List.set_set]
    refine Fin_ownT (L1 := L.set i .dead) (L.set i .dead).length (.cells ((xs.take k).map (AV.int .i64) ++ AV.int .i64 x :: ((xs.drop k).map (AV.int .i64) ++ List.drop (k + 1 + (xs.length - k)) (xs.map (AV.int .i64) ++ R)))) rfl (by simp) refs_dead (by simp) (by simp) (by simp [AV.refs]) (AV.refsL_iff.2 hrf.out) ?_
    simpa [AV.ren] using hfin.out
  · have g8 : (cp : Int) < (xs.length : Int) + 1 := by omega
    have g9 : k + (xs.length + 1 - k) = xs.length + 1 := by omega
    have g10 : ((k : Int) + ((xs.length + 1 - k : Nat) : Int)).toNat - k = xs.length + 1 - k := by omega
    have gm2 : min 1 (xs.length + 1 - k) = 1 := by omega
    have gm3 : min (xs.length - k) (xs.length + 1 - (k + 1)) = xs.length - k := by omega
    have hrep : ∀ k, replC [AV.int .i64 0] k = (List.replicate k (0 : Int)).map (AV.int .i64) := by
      intro k
      induction k with
      | zero => rfl
      | succ k ih => simp [replC, ih, List.replicate_succ]
    have hLX : ∀ X : List Blk, (L ++ X)[i]? = some (.cells (xs.map (AV.int .i64) ++ rest)) := fun X => by rw [List.getElem?_append_left hi]; exact hL
    have hT : ∀ Z, List.take k (List.take k (xs.map (AV.int .i64) ++ rest) ++ Z) = (xs.take k).map (AV.int .i64) := fun Z => by
      have : (List.take k (xs.map (AV.int .i64) ++ rest)).length = k := by simp; omega
      rw [List.take_append_of_le_length (by omega), List.take_take, Nat.min_self, List.take_append_of_le_length (by simp; omega)]; simp
    have hT2 : ∀ Z, List.take (k + 1) ((xs.take k).map (AV.int .i64) ++ AV.int .i64 x :: Z) = (xs.take k).map (AV.int .i64) ++ [AV.int .i64 x] := fun Z => by
      have : ((xs.take k).map (AV.int .i64)).length = k := by simp; omega
      rw [List.take_append, this, List.take_of_length_le (l := (xs.take k).map (AV.int .i64)) (by omega)]; simp
    have hA : List.take (xs.length - k) (List.take (xs.length - k) (List.drop k (xs.map (AV.int .i64) ++ rest))) = (xs.drop k).map (AV.int .i64) := by
      rw [List.take_take, Nat.min_self, List.drop_append, List.take_append]
      simp [List.take_of_length_le]
    have hD2 : List.drop (k + 1 + (xs.length - k)) ((xs.take k).map (AV.int .i64) ++ AV.int .i64 x :: List.drop (k + 1) (List.take k (xs.map (AV.int .i64) ++ rest) ++ (List.replicate (xs.length + 1 - k) (0 : Int)).map (AV.int .i64))) = [] := List.drop_eq_nil_of_le (by simp; omega)
    have hfin := h.out [] (by simp)
    rw [show ints (ins xs k x) ++ [] = (xs.take k).map (AV.int .i64) ++ AV.int .i64 x :: (xs.drop k).map (AV.int .i64) by simp [ins]] at hfin
    replace hfin := hid hfin
    repeat' first
      | refine AW_seq ?_
      | (refine AW_sreg (by kernel_rfl) ?_; simp (config := { maxSteps := 2000000 }) only [List.set_set, List.length_take, List.length_drop, List.length_replicate, Kon, push_cast, reduceIte, Nat.reduceEqDiff, Nat.reduceAdd, Nat.reduceMul, Nat.reduceSub, Nat.reduceLT, Nat.reduceLeDiff, Int.reduceLT, Int.reduceLE, Int.reduceAdd, Int.reduceSub, Int.reduceNeg, Int.reduceToNat, Int.reduceEq, reduceCtorEq, *])
      | (refine AW_sdreg (by kernel_rfl) ?_; simp (config := { maxSteps := 2000000 }) only [List.set_set, List.length_take, List.length_drop, List.length_replicate, Kon, push_cast, reduceIte, Nat.reduceEqDiff, Nat.reduceAdd, Nat.reduceMul, Nat.reduceSub, Nat.reduceLT, Nat.reduceLeDiff, Int.reduceLT, Int.reduceLE, Int.reduceAdd, Int.reduceSub, Int.reduceNeg, Int.reduceToNat, Int.reduceEq, reduceCtorEq, *])
      | (refine AW_dregM ?_; simp (config := { maxSteps := 2000000 }) only [List.set_set, List.length_take, List.length_drop, List.length_replicate, Kon, push_cast, reduceIte, Nat.reduceEqDiff, Nat.reduceAdd, Nat.reduceMul, Nat.reduceSub, Nat.reduceLT, Nat.reduceLeDiff, Int.reduceLT, Int.reduceLE, Int.reduceAdd, Int.reduceSub, Int.reduceNeg, Int.reduceToNat, Int.reduceEq, reduceCtorEq, *])
      | (refine SelK_mk (by kernel_rfl) ?_; simp only [push_cast, reduceIte, Nat.reduceEqDiff, Nat.reduceAdd, Nat.reduceMul, Nat.reduceSub, Nat.reduceLT, Nat.reduceLeDiff, Int.reduceLT, Int.reduceLE, Int.reduceAdd, Int.reduceSub, Int.reduceNeg, Int.reduceToNat, Int.reduceEq, reduceCtorEq])
      | exact IsB_mk
      | (refine Nx_in ?_; simp (config := { maxSteps := 2000000 }) only [List.set_set, List.length_take, List.length_drop, List.length_replicate, Kon, push_cast, reduceIte, Nat.reduceEqDiff, Nat.reduceAdd, Nat.reduceMul, Nat.reduceSub, Nat.reduceLT, Nat.reduceLeDiff, Int.reduceLT, Int.reduceLE, Int.reduceAdd, Int.reduceSub, Int.reduceNeg, Int.reduceToNat, Int.reduceEq, reduceCtorEq, *])
      | (refine NxI_in (fun _ => ?_); simp (config := { maxSteps := 2000000 }) only [List.set_set, List.length_take, List.length_drop, List.length_replicate, Kon, push_cast, reduceIte, Nat.reduceEqDiff, Nat.reduceAdd, Nat.reduceMul, Nat.reduceSub, Nat.reduceLT, Nat.reduceLeDiff, Int.reduceLT, Int.reduceLE, Int.reduceAdd, Int.reduceSub, Int.reduceNeg, Int.reduceToNat, Int.reduceEq, reduceCtorEq, *])
      | apply GQ_mkT
      | apply GQ_mkTN
      | apply GQ_mkF
      | apply GQ_mkFN
      | apply GQ_mkB
      | apply GQ_mkBF
      | (refine AW_region ?_; simp (config := { maxSteps := 2000000 }) only [List.set_set, List.length_take, List.length_drop, List.length_replicate, Kon, push_cast, reduceIte, Nat.reduceEqDiff, Nat.reduceAdd, Nat.reduceMul, Nat.reduceSub, Nat.reduceLT, Nat.reduceLeDiff, Int.reduceLT, Int.reduceLE, Int.reduceAdd, Int.reduceSub, Int.reduceNeg, Int.reduceToNat, Int.reduceEq, reduceCtorEq, *])
      | (refine AW_dreg ?_; simp (config := { maxSteps := 2000000 }) only [List.set_set, List.length_take, List.length_drop, List.length_replicate, Kon, push_cast, reduceIte, Nat.reduceEqDiff, Nat.reduceAdd, Nat.reduceMul, Nat.reduceSub, Nat.reduceLT, Nat.reduceLeDiff, Int.reduceLT, Int.reduceLE, Int.reduceAdd, Int.reduceSub, Int.reduceNeg, Int.reduceToNat, Int.reduceEq, reduceCtorEq, *])
      | (refine AW_block ?_)
      | refine AW_condT rfl ?_
      | refine AW_condF rfl ?_
      | refine AW_condAny rfl ?_ ?_
      | refine AW_condB rfl (fun _ => ?_) (fun _ => ?_)
      | refine AW_condN rfl (fun _ => ?_) (fun _ => ?_)
      | (refine ite_introN (fun _ => ?_) (fun _ => ?_) <;> try simp (config := { maxSteps := 2000000 }) only [List.set_set, List.length_take, List.length_drop, List.length_replicate, Kon, push_cast, reduceIte, Nat.reduceEqDiff, Nat.reduceAdd, Nat.reduceMul, Nat.reduceSub, Nat.reduceLT, Nat.reduceLeDiff, Int.reduceLT, Int.reduceLE, Int.reduceAdd, Int.reduceSub, Int.reduceNeg, Int.reduceToNat, Int.reduceEq, reduceCtorEq, *])
      | (refine ite_intro (fun _ => ?_) (fun _ => ?_) <;> try simp (config := { maxSteps := 2000000 }) only [List.set_set, List.length_take, List.length_drop, List.length_replicate, Kon, push_cast, reduceIte, Nat.reduceEqDiff, Nat.reduceAdd, Nat.reduceMul, Nat.reduceSub, Nat.reduceLT, Nat.reduceLeDiff, Int.reduceLT, Int.reduceLE, Int.reduceAdd, Int.reduceSub, Int.reduceNeg, Int.reduceToNat, Int.reduceEq, reduceCtorEq, *])
      | refine And.intro trivial ?_
      | refine And.intro (by omega) ?_
      | refine AW_block ?_
      | (refine AW_skip ?_; simp only [push_cast, reduceIte, Nat.reduceEqDiff, Nat.reduceAdd, Nat.reduceMul, Nat.reduceSub, Nat.reduceLT, Nat.reduceLeDiff, Int.reduceLT, Int.reduceLE, Int.reduceAdd, Int.reduceSub, Int.reduceNeg, Int.reduceToNat, Int.reduceEq, reduceCtorEq])
      | (refine AW_exit ?_; simp only [push_cast, reduceIte, Nat.reduceEqDiff, Nat.reduceAdd, Nat.reduceMul, Nat.reduceSub, Nat.reduceLT, Nat.reduceLeDiff, Int.reduceLT, Int.reduceLE, Int.reduceAdd, Int.reduceSub, Int.reduceNeg, Int.reduceToNat, Int.reduceEq, reduceCtorEq])
      | (refine AW_ret (Back_retR ?_); simp only [push_cast, reduceIte, Nat.reduceEqDiff, Nat.reduceAdd, Nat.reduceMul, Nat.reduceSub, Nat.reduceLT, Nat.reduceLeDiff, Int.reduceLT, Int.reduceLE, Int.reduceAdd, Int.reduceSub, Int.reduceNeg, Int.reduceToNat, Int.reduceEq, reduceCtorEq, *])
      | refine AW_cond rfl (fun _ => ?_) (fun _ => ?_)
      | refine And.intro ?_ ?_
    refine Fin_kill i ?_
    rw [List.set_append_left _ _ hi]
    refine Fin_ownT (L1 := L.set i .dead) L.length (.cells ((xs.take k).map (AV.int .i64) ++ AV.int .i64 x :: (xs.drop k).map (AV.int .i64))) rfl (by simp) refs_dead (by simp) (by simp) (by simp [AV.refs]) (AV.refsL_iff.2 ?_) ?_
    · intro a ha
      simp only [List.mem_append, List.mem_cons, List.mem_map] at ha
      rcases ha with ⟨y, _, rfl⟩ | rfl | ⟨y, _, rfl⟩ <;> rfl
    · simpa [AV.ren] using hfin.out

end Go.Proofs.YtafghkbedkjpmaaDoor.Av
