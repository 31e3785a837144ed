import Derived.Test.YtafghkbedkjpmaaLckA
import Derived.Test.YtafghkbedkjpmaaPolJ
import Derived.Test.YtafghkbedkjpmaaAvV
set_option linter.unusedSimpArgs false
set_option linter.unusedVariables false
namespace Go.Proofs.Ytafghkbedkjpmaa.Av
open Go
set_option maxHeartbeats 8000000
set_option maxRecDepth 100000

theorem lockSt_0 {pf a s : Int} (h : pf ≠ 0) : lockSt pf a s 0 = ([], -1, a) := by
  rw [lockSt, if_neg (by simpa using Ne.symm h)]; rfl
theorem lockSt_end {pf a s : Int} {k : Nat} (h : (k : Int) = pf) : lockSt pf a s k = ([], a + s * (pf - 1), a) := by
  rw [lockSt, if_pos h]
theorem lockSt_len {pf a s : Int} {k : Nat} (h : (k : Int) ≤ pf) (hp : pf ≤ 100) : (lockSt pf a s k).1.length ≤ 100 := by
  rw [lockSt]; split
  · simp
  · simp only [fails_length]; omega

theorem check0_k {a b c d : Int} (hp : polOk a b c d = false) {L : List Blk} {K : AV → List Blk → Prop} (h : K (.int .i64 2) L) : ACall Try.prog 6 [.agg [.int .i64 a, .int .i64 b, .int .i64 c, .int .i64 d]] L K := check_k (by rw [hp]; exact h)

/-- What holds at each round's head. -/
def LckI (L : List Blk) (pf pw pl pa a wt s : Int) (n : Nat) (T' : Tm) (L' : List Blk) : Prop := ∃ (k : Nat) (cap : Option Nat) (v : Int), n = pf.toNat - k ∧ (k : Int) ≤ pf ∧ T' = [(59, .int .i64 (k : Int)), (58, .int .i64 pf), (9, .int .i64 v), (8, .ptr (L.length + 1) 0), (7, .int .i64 s), (6, .bool false), (3, .ptr L.length 0), (2, .int .i64 wt), (1, .int .i64 a)] ∧
      L' = L ++ [.cells [.int .i64 pf, .int .i64 pw, .int .i64 pl, .int .i64 pa], .cells [.sl (ints (lockSt pf a s k).1) (lockSt pf a s k).1.length cap, .int .i64 (lockSt pf a s k).2.1, .int .i64 (lockSt pf a s k).2.2]]

theorem locks_k {pf pw pl pa a wt : Int} {L : List Blk} {K : AV → List Blk → Prop} (h : K (.bool true) L) :
    ACall Try.prog 4 [.agg [.int .i64 pf, .int .i64 pw, .int .i64 pl, .int .i64 pa], .int .i64 a, .int .i64 wt] L K := by
  replace h := hid h
  refine ACall_fn c_law23_PolicyLocks_eq (by simp [c_law23_PolicyLocks]) ?_
  simp only [c_law23_PolicyLocks, initT]
  obtain ⟨s, hs⟩ : ∃ s, wt.tmod 2 = s := ⟨_, rfl⟩
  cases hp : polOk pf pw pl pa
  · replace hp := hid hp
    repeat' first
      | refine AW_seq ?_
      | (refine AW_region ?_; simp (config := { maxSteps := 2000000 }) only [decide_true, decide_false, eq_self, Bool.false_eq_true, Bool.not_true, Bool.not_false, Kon, push_cast, reduceIte, Nat.reduceEqDiff, Nat.reduceAdd, Nat.reduceMul, Nat.reduceSub, Nat.reduceLT, Nat.reduceLeDiff, Int.reduceLT, Int.reduceLE, Int.reduceAdd, Int.reduceSub, Int.reduceNeg, Int.reduceToNat, Int.reduceEq, reduceCtorEq, *])
      | (refine AW_dreg ?_; simp (config := { maxSteps := 2000000 }) only [decide_true, decide_false, eq_self, Bool.false_eq_true, Bool.not_true, Bool.not_false, Kon, push_cast, reduceIte, Nat.reduceEqDiff, Nat.reduceAdd, Nat.reduceMul, Nat.reduceSub, Nat.reduceLT, Nat.reduceLeDiff, Int.reduceLT, Int.reduceLE, Int.reduceAdd, Int.reduceSub, Int.reduceNeg, Int.reduceToNat, Int.reduceEq, reduceCtorEq, *])
      | (refine AW_block ?_)
      | (refine awake_k ?_; simp (config := { maxSteps := 2000000 }) only [decide_true, decide_false, eq_self, Bool.false_eq_true, Bool.not_true, Bool.not_false, Kon, push_cast, reduceIte, Nat.reduceEqDiff, Nat.reduceAdd, Nat.reduceMul, Nat.reduceSub, Nat.reduceLT, Nat.reduceLeDiff, Int.reduceLT, Int.reduceLE, Int.reduceAdd, Int.reduceSub, Int.reduceNeg, Int.reduceToNat, Int.reduceEq, reduceCtorEq, *])
      | (refine check0_k hp.out ?_; simp (config := { maxSteps := 2000000 }) only [decide_true, decide_false, eq_self, Bool.false_eq_true, Bool.not_true, Bool.not_false, Kon, push_cast, reduceIte, Nat.reduceEqDiff, Nat.reduceAdd, Nat.reduceMul, Nat.reduceSub, Nat.reduceLT, Nat.reduceLeDiff, Int.reduceLT, Int.reduceLE, Int.reduceAdd, Int.reduceSub, Int.reduceNeg, Int.reduceToNat, Int.reduceEq, reduceCtorEq, *])
      | (refine new_k ?_; simp (config := { maxSteps := 2000000 }) only [decide_true, decide_false, eq_self, Bool.false_eq_true, Bool.not_true, Bool.not_false, Kon, push_cast, reduceIte, Nat.reduceEqDiff, Nat.reduceAdd, Nat.reduceMul, Nat.reduceSub, Nat.reduceLT, Nat.reduceLeDiff, Int.reduceLT, Int.reduceLE, Int.reduceAdd, Int.reduceSub, Int.reduceNeg, Int.reduceToNat, Int.reduceEq, reduceCtorEq, *])
      | (refine CalK2_mk (awake_k ⟨rfl, rfl⟩) (awake_k ⟨rfl, rfl⟩) ?_; simp (config := { maxSteps := 2000000 }) only [decide_true, decide_false, eq_self, Bool.false_eq_true, Bool.not_true, Bool.not_false, Kon, push_cast, reduceIte, Nat.reduceEqDiff, Nat.reduceAdd, Nat.reduceMul, Nat.reduceSub, Nat.reduceLT, Nat.reduceLeDiff, Int.reduceLT, Int.reduceLE, Int.reduceAdd, Int.reduceSub, Int.reduceNeg, Int.reduceToNat, Int.reduceEq, reduceCtorEq, *])
      | (refine CalK2_mk (check0_k hp.out ⟨rfl, rfl⟩) (check0_k hp.out ⟨rfl, rfl⟩) ?_; simp (config := { maxSteps := 2000000 }) only [decide_true, decide_false, eq_self, Bool.false_eq_true, Bool.not_true, Bool.not_false, Kon, push_cast, reduceIte, Nat.reduceEqDiff, Nat.reduceAdd, Nat.reduceMul, Nat.reduceSub, Nat.reduceLT, Nat.reduceLeDiff, Int.reduceLT, Int.reduceLE, Int.reduceAdd, Int.reduceSub, Int.reduceNeg, Int.reduceToNat, Int.reduceEq, reduceCtorEq, *])
      | (refine CalK2_mk (new_k ⟨rfl, rfl⟩) (new_k ⟨rfl, rfl⟩) ?_; simp (config := { maxSteps := 2000000 }) only [decide_true, decide_false, eq_self, Bool.false_eq_true, Bool.not_true, Bool.not_false, Kon, push_cast, reduceIte, Nat.reduceEqDiff, Nat.reduceAdd, Nat.reduceMul, Nat.reduceSub, Nat.reduceLT, Nat.reduceLeDiff, Int.reduceLT, Int.reduceLE, Int.reduceAdd, Int.reduceSub, Int.reduceNeg, Int.reduceToNat, Int.reduceEq, reduceCtorEq, *])
      | (refine CalK_mk (awake_k ⟨rfl, rfl⟩) ?_; simp (config := { maxSteps := 2000000 }) only [decide_true, decide_false, eq_self, Bool.false_eq_true, Bool.not_true, Bool.not_false, Kon, push_cast, reduceIte, Nat.reduceEqDiff, Nat.reduceAdd, Nat.reduceMul, Nat.reduceSub, Nat.reduceLT, Nat.reduceLeDiff, Int.reduceLT, Int.reduceLE, Int.reduceAdd, Int.reduceSub, Int.reduceNeg, Int.reduceToNat, Int.reduceEq, reduceCtorEq, *])
      | (refine CalK_mk (check0_k hp.out ⟨rfl, rfl⟩) ?_; simp (config := { maxSteps := 2000000 }) only [decide_true, decide_false, eq_self, Bool.false_eq_true, Bool.not_true, Bool.not_false, Kon, push_cast, reduceIte, Nat.reduceEqDiff, Nat.reduceAdd, Nat.reduceMul, Nat.reduceSub, Nat.reduceLT, Nat.reduceLeDiff, Int.reduceLT, Int.reduceLE, Int.reduceAdd, Int.reduceSub, Int.reduceNeg, Int.reduceToNat, Int.reduceEq, reduceCtorEq, *])
      | (refine CalK_mk (new_k ⟨rfl, rfl⟩) ?_; simp (config := { maxSteps := 2000000 }) only [decide_true, decide_false, eq_self, Bool.false_eq_true, Bool.not_true, Bool.not_false, Kon, push_cast, reduceIte, Nat.reduceEqDiff, Nat.reduceAdd, Nat.reduceMul, Nat.reduceSub, Nat.reduceLT, Nat.reduceLeDiff, Int.reduceLT, Int.reduceLE, Int.reduceAdd, Int.reduceSub, Int.reduceNeg, Int.reduceToNat, Int.reduceEq, reduceCtorEq, *])
      | refine AW_condT rfl ?_
      | refine AW_condF rfl ?_
      | refine AW_condAny rfl ?_ ?_
      | refine AW_condB rfl (fun _ => ?_) (fun _ => ?_)
      | refine AW_condN rfl (fun _ => ?_) (fun _ => ?_)
      | (refine ite_introN (fun _ => ?_) (fun _ => ?_) <;> try simp (config := { maxSteps := 2000000 }) only [decide_true, decide_false, eq_self, Bool.false_eq_true, Bool.not_true, Bool.not_false, Kon, push_cast, reduceIte, Nat.reduceEqDiff, Nat.reduceAdd, Nat.reduceMul, Nat.reduceSub, Nat.reduceLT, Nat.reduceLeDiff, Int.reduceLT, Int.reduceLE, Int.reduceAdd, Int.reduceSub, Int.reduceNeg, Int.reduceToNat, Int.reduceEq, reduceCtorEq, *])
      | (refine ite_intro (fun _ => ?_) (fun _ => ?_) <;> try simp (config := { maxSteps := 2000000 }) only [decide_true, decide_false, eq_self, Bool.false_eq_true, Bool.not_true, Bool.not_false, Kon, push_cast, reduceIte, Nat.reduceEqDiff, Nat.reduceAdd, Nat.reduceMul, Nat.reduceSub, Nat.reduceLT, Nat.reduceLeDiff, Int.reduceLT, Int.reduceLE, Int.reduceAdd, Int.reduceSub, Int.reduceNeg, Int.reduceToNat, Int.reduceEq, reduceCtorEq, *])
      | refine And.intro trivial ?_
      | refine And.intro (by omega) ?_
      | refine AW_block ?_
      | (refine AW_skip ?_; simp only [push_cast, reduceIte, Nat.reduceEqDiff, Nat.reduceAdd, Nat.reduceMul, Nat.reduceSub, Nat.reduceLT, Nat.reduceLeDiff, Int.reduceLT, Int.reduceLE, Int.reduceAdd, Int.reduceSub, Int.reduceNeg, Int.reduceToNat, Int.reduceEq, reduceCtorEq])
      | (refine AW_exit ?_; simp only [push_cast, reduceIte, Nat.reduceEqDiff, Nat.reduceAdd, Nat.reduceMul, Nat.reduceSub, Nat.reduceLT, Nat.reduceLeDiff, Int.reduceLT, Int.reduceLE, Int.reduceAdd, Int.reduceSub, Int.reduceNeg, Int.reduceToNat, Int.reduceEq, reduceCtorEq])
      | (refine AW_ret (Back_retR ?_); simp only [push_cast, reduceIte, Nat.reduceEqDiff, Nat.reduceAdd, Nat.reduceMul, Nat.reduceSub, Nat.reduceLT, Nat.reduceLeDiff, Int.reduceLT, Int.reduceLE, Int.reduceAdd, Int.reduceSub, Int.reduceNeg, Int.reduceToNat, Int.reduceEq, reduceCtorEq, *])
      | refine AW_cond rfl (fun _ => ?_) (fun _ => ?_)
      | refine And.intro ?_ ?_
    all_goals exact Fin_pure rfl h.out
  repeat' first
    | refine AW_seq ?_
    | (refine AW_region ?_; simp (config := { maxSteps := 2000000 }) only [decide_true, decide_false, eq_self, Bool.false_eq_true, Bool.not_true, Bool.not_false, Kon, push_cast, reduceIte, Nat.reduceEqDiff, Nat.reduceAdd, Nat.reduceMul, Nat.reduceSub, Nat.reduceLT, Nat.reduceLeDiff, Int.reduceLT, Int.reduceLE, Int.reduceAdd, Int.reduceSub, Int.reduceNeg, Int.reduceToNat, Int.reduceEq, reduceCtorEq, *])
    | (refine AW_dreg ?_; simp (config := { maxSteps := 2000000 }) only [decide_true, decide_false, eq_self, Bool.false_eq_true, Bool.not_true, Bool.not_false, Kon, push_cast, reduceIte, Nat.reduceEqDiff, Nat.reduceAdd, Nat.reduceMul, Nat.reduceSub, Nat.reduceLT, Nat.reduceLeDiff, Int.reduceLT, Int.reduceLE, Int.reduceAdd, Int.reduceSub, Int.reduceNeg, Int.reduceToNat, Int.reduceEq, reduceCtorEq, *])
    | (refine AW_block ?_)
    | (refine awake_k ?_; simp (config := { maxSteps := 2000000 }) only [decide_true, decide_false, eq_self, Bool.false_eq_true, Bool.not_true, Bool.not_false, Kon, push_cast, reduceIte, Nat.reduceEqDiff, Nat.reduceAdd, Nat.reduceMul, Nat.reduceSub, Nat.reduceLT, Nat.reduceLeDiff, Int.reduceLT, Int.reduceLE, Int.reduceAdd, Int.reduceSub, Int.reduceNeg, Int.reduceToNat, Int.reduceEq, reduceCtorEq, *])
    | (refine check_k ?_; simp (config := { maxSteps := 2000000 }) only [decide_true, decide_false, eq_self, Bool.false_eq_true, Bool.not_true, Bool.not_false, Kon, push_cast, reduceIte, Nat.reduceEqDiff, Nat.reduceAdd, Nat.reduceMul, Nat.reduceSub, Nat.reduceLT, Nat.reduceLeDiff, Int.reduceLT, Int.reduceLE, Int.reduceAdd, Int.reduceSub, Int.reduceNeg, Int.reduceToNat, Int.reduceEq, reduceCtorEq, *])
    | (refine new_k ?_; simp (config := { maxSteps := 2000000 }) only [decide_true, decide_false, eq_self, Bool.false_eq_true, Bool.not_true, Bool.not_false, Kon, push_cast, reduceIte, Nat.reduceEqDiff, Nat.reduceAdd, Nat.reduceMul, Nat.reduceSub, Nat.reduceLT, Nat.reduceLeDiff, Int.reduceLT, Int.reduceLE, Int.reduceAdd, Int.reduceSub, Int.reduceNeg, Int.reduceToNat, Int.reduceEq, reduceCtorEq, *])
    | (refine CalK2_mk (awake_k ⟨rfl, rfl⟩) (awake_k ⟨rfl, rfl⟩) ?_; simp (config := { maxSteps := 2000000 }) only [decide_true, decide_false, eq_self, Bool.false_eq_true, Bool.not_true, Bool.not_false, Kon, push_cast, reduceIte, Nat.reduceEqDiff, Nat.reduceAdd, Nat.reduceMul, Nat.reduceSub, Nat.reduceLT, Nat.reduceLeDiff, Int.reduceLT, Int.reduceLE, Int.reduceAdd, Int.reduceSub, Int.reduceNeg, Int.reduceToNat, Int.reduceEq, reduceCtorEq, *])
    | (refine CalK2_mk (check_k ⟨rfl, rfl⟩) (check_k ⟨rfl, rfl⟩) ?_; simp (config := { maxSteps := 2000000 }) only [decide_true, decide_false, eq_self, Bool.false_eq_true, Bool.not_true, Bool.not_false, Kon, push_cast, reduceIte, Nat.reduceEqDiff, Nat.reduceAdd, Nat.reduceMul, Nat.reduceSub, Nat.reduceLT, Nat.reduceLeDiff, Int.reduceLT, Int.reduceLE, Int.reduceAdd, Int.reduceSub, Int.reduceNeg, Int.reduceToNat, Int.reduceEq, reduceCtorEq, *])
    | (refine CalK2_mk (new_k ⟨rfl, rfl⟩) (new_k ⟨rfl, rfl⟩) ?_; simp (config := { maxSteps := 2000000 }) only [decide_true, decide_false, eq_self, Bool.false_eq_true, Bool.not_true, Bool.not_false, Kon, push_cast, reduceIte, Nat.reduceEqDiff, Nat.reduceAdd, Nat.reduceMul, Nat.reduceSub, Nat.reduceLT, Nat.reduceLeDiff, Int.reduceLT, Int.reduceLE, Int.reduceAdd, Int.reduceSub, Int.reduceNeg, Int.reduceToNat, Int.reduceEq, reduceCtorEq, *])
    | (refine CalK_mk (awake_k ⟨rfl, rfl⟩) ?_; simp (config := { maxSteps := 2000000 }) only [decide_true, decide_false, eq_self, Bool.false_eq_true, Bool.not_true, Bool.not_false, Kon, push_cast, reduceIte, Nat.reduceEqDiff, Nat.reduceAdd, Nat.reduceMul, Nat.reduceSub, Nat.reduceLT, Nat.reduceLeDiff, Int.reduceLT, Int.reduceLE, Int.reduceAdd, Int.reduceSub, Int.reduceNeg, Int.reduceToNat, Int.reduceEq, reduceCtorEq, *])
    | (refine CalK_mk (check_k ⟨rfl, rfl⟩) ?_; simp (config := { maxSteps := 2000000 }) only [decide_true, decide_false, eq_self, Bool.false_eq_true, Bool.not_true, Bool.not_false, Kon, push_cast, reduceIte, Nat.reduceEqDiff, Nat.reduceAdd, Nat.reduceMul, Nat.reduceSub, Nat.reduceLT, Nat.reduceLeDiff, Int.reduceLT, Int.reduceLE, Int.reduceAdd, Int.reduceSub, Int.reduceNeg, Int.reduceToNat, Int.reduceEq, reduceCtorEq, *])
    | (refine CalK_mk (new_k ⟨rfl, rfl⟩) ?_; simp (config := { maxSteps := 2000000 }) only [decide_true, decide_false, eq_self, Bool.false_eq_true, Bool.not_true, Bool.not_false, Kon, push_cast, reduceIte, Nat.reduceEqDiff, Nat.reduceAdd, Nat.reduceMul, Nat.reduceSub, Nat.reduceLT, Nat.reduceLeDiff, Int.reduceLT, Int.reduceLE, Int.reduceAdd, Int.reduceSub, Int.reduceNeg, Int.reduceToNat, Int.reduceEq, reduceCtorEq, *])
    | refine AW_condT rfl ?_
    | refine AW_condF rfl ?_
    | refine AW_condAny rfl ?_ ?_
    | refine AW_condB rfl (fun _ => ?_) (fun _ => ?_)
    | refine AW_condN rfl (fun _ => ?_) (fun _ => ?_)
    | (refine ite_introN (fun _ => ?_) (fun _ => ?_) <;> try simp (config := { maxSteps := 2000000 }) only [decide_true, decide_false, eq_self, Bool.false_eq_true, Bool.not_true, Bool.not_false, Kon, push_cast, reduceIte, Nat.reduceEqDiff, Nat.reduceAdd, Nat.reduceMul, Nat.reduceSub, Nat.reduceLT, Nat.reduceLeDiff, Int.reduceLT, Int.reduceLE, Int.reduceAdd, Int.reduceSub, Int.reduceNeg, Int.reduceToNat, Int.reduceEq, reduceCtorEq, *])
    | (refine ite_intro (fun _ => ?_) (fun _ => ?_) <;> try simp (config := { maxSteps := 2000000 }) only [decide_true, decide_false, eq_self, Bool.false_eq_true, Bool.not_true, Bool.not_false, Kon, push_cast, reduceIte, Nat.reduceEqDiff, Nat.reduceAdd, Nat.reduceMul, Nat.reduceSub, Nat.reduceLT, Nat.reduceLeDiff, Int.reduceLT, Int.reduceLE, Int.reduceAdd, Int.reduceSub, Int.reduceNeg, Int.reduceToNat, Int.reduceEq, reduceCtorEq, *])
    | refine And.intro trivial ?_
    | refine And.intro (by omega) ?_
    | refine AW_block ?_
    | (refine AW_skip ?_; simp only [push_cast, reduceIte, Nat.reduceEqDiff, Nat.reduceAdd, Nat.reduceMul, Nat.reduceSub, Nat.reduceLT, Nat.reduceLeDiff, Int.reduceLT, Int.reduceLE, Int.reduceAdd, Int.reduceSub, Int.reduceNeg, Int.reduceToNat, Int.reduceEq, reduceCtorEq])
    | (refine AW_exit ?_; simp only [push_cast, reduceIte, Nat.reduceEqDiff, Nat.reduceAdd, Nat.reduceMul, Nat.reduceSub, Nat.reduceLT, Nat.reduceLeDiff, Int.reduceLT, Int.reduceLE, Int.reduceAdd, Int.reduceSub, Int.reduceNeg, Int.reduceToNat, Int.reduceEq, reduceCtorEq])
    | (refine AW_ret (Back_retR ?_); simp only [push_cast, reduceIte, Nat.reduceEqDiff, Nat.reduceAdd, Nat.reduceMul, Nat.reduceSub, Nat.reduceLT, Nat.reduceLeDiff, Int.reduceLT, Int.reduceLE, Int.reduceAdd, Int.reduceSub, Int.reduceNeg, Int.reduceToNat, Int.reduceEq, reduceCtorEq, *])
    | refine AW_cond rfl (fun _ => ?_) (fun _ => ?_)
    | refine And.intro ?_ ?_
  any_goals exact Fin_pure rfl h.out
  all_goals
    have hb := polOk_b hp
    have hpf : pf ≠ 0 := by assumption
    have hw : pw = 0 ∨ 200 ≤ pw := by omega
    have ha : 0 ≤ a ∧ a ≤ 1125899906842624 := by omega
    have hwt : 0 ≤ wt ∧ wt ≤ 1125899906842624 := by omega
    have hs' : s = 0 ∨ s = 1 := by
      rw [Int.tmod_eq_emod_of_nonneg hwt.1] at hs
      omega
    clear hs
  all_goals
    refine AW_loopT (LckI L pf pw pl pa a wt s) (Cut_same (by repeat' first | exact SubT_nil | refine SubT_cons rfl rfl ?_ | refine SubT_consF rfl rfl ?_) (Nat.le_refl _)) ⟨0, some 0, 0, rfl, by omega, rfl, by rw [lockSt_0 hpf]; rfl⟩ ?_
    rintro _ _ _ ⟨k, cap, v, rfl, hk, rfl, rfl⟩
    replace hw := hid hw
    replace hs' := hid hs'
    replace hb := hid hb
    replace hp := hid hp
    have hlen := lockSt_len (a := a) (s := s) hk (by have := hb.out; omega)
    by_cases hlt : (k : Int) < pf
    · have h1 : IntKind.i64.wrap ((k : Int) + 1) = (k : Int) + 1 := wrap64_in (by omega) (by have := hb.out; omega)
      have h2 : IntKind.i64.wrap (s * (k : Int)) = s * (k : Int) := by rcases hs'.out with rfl | rfl <;> refine wrap64_in (by omega) (by have := hb.out; omega)
      have h3 : IntKind.i64.wrap (a + s * (k : Int)) = a + s * (k : Int) := by rcases hs'.out with rfl | rfl <;> refine wrap64_in (by omega) (by have := hb.out; omega)
      have hst := lock_stepS (i := k) hp.out hw.out ha.1 ha.2 hs'.out hlt
      have hlen2 := lockSt_len (a := a) (s := s) (k := k + 1) (pf := pf) (by omega) (by have := hb.out; omega)
      obtain ⟨r, hr⟩ : ∃ r, lockSt pf a s (k + 1) = r := ⟨_, rfl⟩
      rw [hr] at hst
      replace hr := hid hr
      obtain ⟨q, hq⟩ : ∃ q, lockSt pf a s k = q := ⟨_, rfl⟩
      rw [hq] at hst hlen ⊢
      obtain ⟨fs, lk, ch⟩ := q
      obtain ⟨gs, lk', ch'⟩ := r
      simp only at hst hlen ⊢
      clear hq
      repeat' first
        | refine AW_seq ?_
        | (refine AW_region ?_; simp (config := { maxSteps := 2000000 }) only [resT, stA, Kon, push_cast, reduceIte, Nat.reduceEqDiff, Nat.reduceAdd, Nat.reduceMul, Nat.reduceSub, Nat.reduceLT, Nat.reduceLeDiff, Int.reduceLT, Int.reduceLE, Int.reduceAdd, Int.reduceSub, Int.reduceNeg, Int.reduceToNat, Int.reduceEq, reduceCtorEq, *])
        | (refine AW_dreg ?_; simp (config := { maxSteps := 2000000 }) only [resT, stA, Kon, push_cast, reduceIte, Nat.reduceEqDiff, Nat.reduceAdd, Nat.reduceMul, Nat.reduceSub, Nat.reduceLT, Nat.reduceLeDiff, Int.reduceLT, Int.reduceLE, Int.reduceAdd, Int.reduceSub, Int.reduceNeg, Int.reduceToNat, Int.reduceEq, reduceCtorEq, *])
        | (refine AW_block ?_)
        | (refine try_k (by omega) ?_; simp (config := { maxSteps := 2000000 }) only [resT, stA, Kon, push_cast, reduceIte, Nat.reduceEqDiff, Nat.reduceAdd, Nat.reduceMul, Nat.reduceSub, Nat.reduceLT, Nat.reduceLeDiff, Int.reduceLT, Int.reduceLE, Int.reduceAdd, Int.reduceSub, Int.reduceNeg, Int.reduceToNat, Int.reduceEq, reduceCtorEq, *])
        | (refine CalK2_mk (try_k (by omega) ⟨rfl, rfl⟩) (try_k (by omega) ⟨rfl, rfl⟩) ?_; simp (config := { maxSteps := 2000000 }) only [resT, stA, Kon, push_cast, reduceIte, Nat.reduceEqDiff, Nat.reduceAdd, Nat.reduceMul, Nat.reduceSub, Nat.reduceLT, Nat.reduceLeDiff, Int.reduceLT, Int.reduceLE, Int.reduceAdd, Int.reduceSub, Int.reduceNeg, Int.reduceToNat, Int.reduceEq, reduceCtorEq, *])
        | (refine CalK_mk (try_k (by omega) ⟨rfl, rfl⟩) ?_; simp (config := { maxSteps := 2000000 }) only [resT, stA, Kon, push_cast, reduceIte, Nat.reduceEqDiff, Nat.reduceAdd, Nat.reduceMul, Nat.reduceSub, Nat.reduceLT, Nat.reduceLeDiff, Int.reduceLT, Int.reduceLE, Int.reduceAdd, Int.reduceSub, Int.reduceNeg, Int.reduceToNat, Int.reduceEq, reduceCtorEq, *])
        | refine AW_condT rfl ?_
        | refine AW_condF rfl ?_
        | refine AW_condAny rfl ?_ ?_
        | refine AW_condB rfl (fun _ => ?_) (fun _ => ?_)
        | refine AW_condN rfl (fun _ => ?_) (fun _ => ?_)
        | (refine ite_introN (fun _ => ?_) (fun _ => ?_) <;> try simp (config := { maxSteps := 2000000 }) only [resT, stA, Kon, push_cast, reduceIte, Nat.reduceEqDiff, Nat.reduceAdd, Nat.reduceMul, Nat.reduceSub, Nat.reduceLT, Nat.reduceLeDiff, Int.reduceLT, Int.reduceLE, Int.reduceAdd, Int.reduceSub, Int.reduceNeg, Int.reduceToNat, Int.reduceEq, reduceCtorEq, *])
        | (refine ite_intro (fun _ => ?_) (fun _ => ?_) <;> try simp (config := { maxSteps := 2000000 }) only [resT, stA, Kon, push_cast, reduceIte, Nat.reduceEqDiff, Nat.reduceAdd, Nat.reduceMul, Nat.reduceSub, Nat.reduceLT, Nat.reduceLeDiff, Int.reduceLT, Int.reduceLE, Int.reduceAdd, Int.reduceSub, Int.reduceNeg, Int.reduceToNat, Int.reduceEq, reduceCtorEq, *])
        | refine And.intro trivial ?_
        | refine And.intro (by omega) ?_
        | refine AW_block ?_
        | (refine AW_skip ?_; simp only [push_cast, reduceIte, Nat.reduceEqDiff, Nat.reduceAdd, Nat.reduceMul, Nat.reduceSub, Nat.reduceLT, Nat.reduceLeDiff, Int.reduceLT, Int.reduceLE, Int.reduceAdd, Int.reduceSub, Int.reduceNeg, Int.reduceToNat, Int.reduceEq, reduceCtorEq])
        | (refine AW_exit ?_; simp only [push_cast, reduceIte, Nat.reduceEqDiff, Nat.reduceAdd, Nat.reduceMul, Nat.reduceSub, Nat.reduceLT, Nat.reduceLeDiff, Int.reduceLT, Int.reduceLE, Int.reduceAdd, Int.reduceSub, Int.reduceNeg, Int.reduceToNat, Int.reduceEq, reduceCtorEq])
        | (refine AW_ret (Back_retR ?_); simp only [push_cast, reduceIte, Nat.reduceEqDiff, Nat.reduceAdd, Nat.reduceMul, Nat.reduceSub, Nat.reduceLT, Nat.reduceLeDiff, Int.reduceLT, Int.reduceLE, Int.reduceAdd, Int.reduceSub, Int.reduceNeg, Int.reduceToNat, Int.reduceEq, reduceCtorEq, *])
        | refine AW_cond rfl (fun _ => ?_) (fun _ => ?_)
        | refine And.intro ?_ ?_
      refine Nxt_mk _ _ _ (by omega) (Cut_same (by repeat' first | exact SubT_nil | refine SubT_cons rfl rfl ?_ | refine SubT_consF rfl rfl ?_) (by simp)) ⟨k + 1, none, 1, rfl, by omega, rfl, by rw [hr.out]⟩
    · have hke : (k : Int) = pf := by omega
      obtain ⟨t, ht⟩ : ∃ t, a + s * (pf - 1) = t := ⟨_, rfl⟩
      have htb : a ≤ t ∧ t ≤ a + 100 := by rw [← ht]; rcases hs'.out with rfl | rfl <;> have := hb.out <;> omega
      rw [lockSt_end hke, ht]
      clear hke
      have h1 : IntKind.i64.wrap (pf - 1) = pf - 1 := wrap64_in (by omega) (by have := hb.out; omega)
      have h2 : IntKind.i64.wrap (s * (pf - 1)) = s * (pf - 1) := by rcases hs'.out with rfl | rfl <;> refine wrap64_in (by omega) (by have := hb.out; omega)
      have h3 : IntKind.i64.wrap t = t := wrap64_in (by omega) (by omega)
      have h4 : IntKind.i64.wrap (t + wt) = t + wt := wrap64_in (by omega) (by omega)
      have h5 : IntKind.i64.wrap (t + wt - a) = t + wt - a := wrap64_in (by omega) (by omega)
      have hr := lock_right (pf := pf) (pw := pw) (pl := pl) (pa := pa) (n := t + wt) hp.out ha.1 htb.1 (by omega) (by omega)
      have hwr := lock_wrong (pf := pf) (pw := pw) (pl := pl) (pa := pa) (n := t + wt) hp.out ha.1 htb.1 (by omega) (by omega)
      rw [show t + wt - t = wt by omega] at hr hwr
      obtain ⟨⟨⟨fs1, lk1, ch1⟩, c1⟩, hr1⟩ : ∃ r, tryR pf pw pl pa [] t a (t + wt) true = r := ⟨_, rfl⟩
      obtain ⟨⟨⟨fs2, lk2, ch2⟩, c2⟩, hr2⟩ : ∃ r, tryR pf pw pl pa [] t a (t + wt) false = r := ⟨_, rfl⟩
      rw [hr1] at hr
      rw [hr2] at hwr
      simp only at hr hwr
      have hpl := hid (show 0 ≤ pl by have := hb.out; omega)
      by_cases q1 : pl = 0
      · rw [if_pos (.inl q1)] at hr hwr
        subst q1; subst hr; subst hwr
        repeat' first
          | refine AW_seq ?_
          | (refine AW_region ?_; simp (config := { maxSteps := 2000000 }) only [resT, stA, decide_true, decide_false, eq_self, ints, List.map_nil, List.length_nil, Kon, push_cast, reduceIte, Nat.reduceEqDiff, Nat.reduceAdd, Nat.reduceMul, Nat.reduceSub, Nat.reduceLT, Nat.reduceLeDiff, Int.reduceLT, Int.reduceLE, Int.reduceAdd, Int.reduceSub, Int.reduceNeg, Int.reduceToNat, Int.reduceEq, reduceCtorEq, *])
          | (refine AW_dreg ?_; simp (config := { maxSteps := 2000000 }) only [resT, stA, decide_true, decide_false, eq_self, ints, List.map_nil, List.length_nil, Kon, push_cast, reduceIte, Nat.reduceEqDiff, Nat.reduceAdd, Nat.reduceMul, Nat.reduceSub, Nat.reduceLT, Nat.reduceLeDiff, Int.reduceLT, Int.reduceLE, Int.reduceAdd, Int.reduceSub, Int.reduceNeg, Int.reduceToNat, Int.reduceEq, reduceCtorEq, *])
          | (refine AW_block ?_)
          | (refine awake_k ?_; simp (config := { maxSteps := 2000000 }) only [resT, stA, decide_true, decide_false, eq_self, ints, List.map_nil, List.length_nil, Kon, push_cast, reduceIte, Nat.reduceEqDiff, Nat.reduceAdd, Nat.reduceMul, Nat.reduceSub, Nat.reduceLT, Nat.reduceLeDiff, Int.reduceLT, Int.reduceLE, Int.reduceAdd, Int.reduceSub, Int.reduceNeg, Int.reduceToNat, Int.reduceEq, reduceCtorEq, *])
          | (refine try_k (fs := []) (by simp) ?_; simp (config := { maxSteps := 2000000 }) only [resT, stA, decide_true, decide_false, eq_self, ints, List.map_nil, List.length_nil, Kon, push_cast, reduceIte, Nat.reduceEqDiff, Nat.reduceAdd, Nat.reduceMul, Nat.reduceSub, Nat.reduceLT, Nat.reduceLeDiff, Int.reduceLT, Int.reduceLE, Int.reduceAdd, Int.reduceSub, Int.reduceNeg, Int.reduceToNat, Int.reduceEq, reduceCtorEq, *])
          | (refine CalK2_mk (awake_k ⟨rfl, rfl⟩) (awake_k ⟨rfl, rfl⟩) ?_; simp (config := { maxSteps := 2000000 }) only [resT, stA, decide_true, decide_false, eq_self, ints, List.map_nil, List.length_nil, Kon, push_cast, reduceIte, Nat.reduceEqDiff, Nat.reduceAdd, Nat.reduceMul, Nat.reduceSub, Nat.reduceLT, Nat.reduceLeDiff, Int.reduceLT, Int.reduceLE, Int.reduceAdd, Int.reduceSub, Int.reduceNeg, Int.reduceToNat, Int.reduceEq, reduceCtorEq, *])
          | (refine CalK2_mk (try_k (fs := []) (by simp) ⟨rfl, rfl⟩) (try_k (fs := []) (by simp) ⟨rfl, rfl⟩) ?_; simp (config := { maxSteps := 2000000 }) only [resT, stA, decide_true, decide_false, eq_self, ints, List.map_nil, List.length_nil, Kon, push_cast, reduceIte, Nat.reduceEqDiff, Nat.reduceAdd, Nat.reduceMul, Nat.reduceSub, Nat.reduceLT, Nat.reduceLeDiff, Int.reduceLT, Int.reduceLE, Int.reduceAdd, Int.reduceSub, Int.reduceNeg, Int.reduceToNat, Int.reduceEq, reduceCtorEq, *])
          | (refine CalK_mk (awake_k ⟨rfl, rfl⟩) ?_; simp (config := { maxSteps := 2000000 }) only [resT, stA, decide_true, decide_false, eq_self, ints, List.map_nil, List.length_nil, Kon, push_cast, reduceIte, Nat.reduceEqDiff, Nat.reduceAdd, Nat.reduceMul, Nat.reduceSub, Nat.reduceLT, Nat.reduceLeDiff, Int.reduceLT, Int.reduceLE, Int.reduceAdd, Int.reduceSub, Int.reduceNeg, Int.reduceToNat, Int.reduceEq, reduceCtorEq, *])
          | (refine CalK_mk (try_k (fs := []) (by simp) ⟨rfl, rfl⟩) ?_; simp (config := { maxSteps := 2000000 }) only [resT, stA, decide_true, decide_false, eq_self, ints, List.map_nil, List.length_nil, Kon, push_cast, reduceIte, Nat.reduceEqDiff, Nat.reduceAdd, Nat.reduceMul, Nat.reduceSub, Nat.reduceLT, Nat.reduceLeDiff, Int.reduceLT, Int.reduceLE, Int.reduceAdd, Int.reduceSub, Int.reduceNeg, Int.reduceToNat, Int.reduceEq, reduceCtorEq, *])
          | refine AW_condT rfl ?_
          | refine AW_condF rfl ?_
          | refine AW_condAny rfl ?_ ?_
          | refine AW_condB rfl (fun _ => ?_) (fun _ => ?_)
          | refine AW_condN rfl (fun _ => ?_) (fun _ => ?_)
          | (refine ite_introN (fun _ => ?_) (fun _ => ?_) <;> try simp (config := { maxSteps := 2000000 }) only [resT, stA, decide_true, decide_false, eq_self, ints, List.map_nil, List.length_nil, Kon, push_cast, reduceIte, Nat.reduceEqDiff, Nat.reduceAdd, Nat.reduceMul, Nat.reduceSub, Nat.reduceLT, Nat.reduceLeDiff, Int.reduceLT, Int.reduceLE, Int.reduceAdd, Int.reduceSub, Int.reduceNeg, Int.reduceToNat, Int.reduceEq, reduceCtorEq, *])
          | (refine ite_intro (fun _ => ?_) (fun _ => ?_) <;> try simp (config := { maxSteps := 2000000 }) only [resT, stA, decide_true, decide_false, eq_self, ints, List.map_nil, List.length_nil, Kon, push_cast, reduceIte, Nat.reduceEqDiff, Nat.reduceAdd, Nat.reduceMul, Nat.reduceSub, Nat.reduceLT, Nat.reduceLeDiff, Int.reduceLT, Int.reduceLE, Int.reduceAdd, Int.reduceSub, Int.reduceNeg, Int.reduceToNat, Int.reduceEq, reduceCtorEq, *])
          | refine And.intro trivial ?_
          | refine And.intro (by omega) ?_
          | refine AW_block ?_
          | (refine AW_skip ?_; simp only [push_cast, reduceIte, Nat.reduceEqDiff, Nat.reduceAdd, Nat.reduceMul, Nat.reduceSub, Nat.reduceLT, Nat.reduceLeDiff, Int.reduceLT, Int.reduceLE, Int.reduceAdd, Int.reduceSub, Int.reduceNeg, Int.reduceToNat, Int.reduceEq, reduceCtorEq])
          | (refine AW_exit ?_; simp only [push_cast, reduceIte, Nat.reduceEqDiff, Nat.reduceAdd, Nat.reduceMul, Nat.reduceSub, Nat.reduceLT, Nat.reduceLeDiff, Int.reduceLT, Int.reduceLE, Int.reduceAdd, Int.reduceSub, Int.reduceNeg, Int.reduceToNat, Int.reduceEq, reduceCtorEq])
          | (refine AW_ret (Back_retR ?_); simp only [push_cast, reduceIte, Nat.reduceEqDiff, Nat.reduceAdd, Nat.reduceMul, Nat.reduceSub, Nat.reduceLT, Nat.reduceLeDiff, Int.reduceLT, Int.reduceLE, Int.reduceAdd, Int.reduceSub, Int.reduceNeg, Int.reduceToNat, Int.reduceEq, reduceCtorEq, *])
          | refine AW_cond rfl (fun _ => ?_) (fun _ => ?_)
          | refine And.intro ?_ ?_
        all_goals exact Fin_pure rfl h.out
      · by_cases q2 : wt < pl
        · rw [if_pos (.inr q2)] at hr hwr
          subst hr; subst hwr
          repeat' first
            | refine AW_seq ?_
            | (refine AW_region ?_; simp (config := { maxSteps := 2000000 }) only [resT, stA, decide_true, decide_false, eq_self, ints, List.map_nil, List.length_nil, Kon, push_cast, reduceIte, Nat.reduceEqDiff, Nat.reduceAdd, Nat.reduceMul, Nat.reduceSub, Nat.reduceLT, Nat.reduceLeDiff, Int.reduceLT, Int.reduceLE, Int.reduceAdd, Int.reduceSub, Int.reduceNeg, Int.reduceToNat, Int.reduceEq, reduceCtorEq, *])
            | (refine AW_dreg ?_; simp (config := { maxSteps := 2000000 }) only [resT, stA, decide_true, decide_false, eq_self, ints, List.map_nil, List.length_nil, Kon, push_cast, reduceIte, Nat.reduceEqDiff, Nat.reduceAdd, Nat.reduceMul, Nat.reduceSub, Nat.reduceLT, Nat.reduceLeDiff, Int.reduceLT, Int.reduceLE, Int.reduceAdd, Int.reduceSub, Int.reduceNeg, Int.reduceToNat, Int.reduceEq, reduceCtorEq, *])
            | (refine AW_block ?_)
            | (refine awake_k ?_; simp (config := { maxSteps := 2000000 }) only [resT, stA, decide_true, decide_false, eq_self, ints, List.map_nil, List.length_nil, Kon, push_cast, reduceIte, Nat.reduceEqDiff, Nat.reduceAdd, Nat.reduceMul, Nat.reduceSub, Nat.reduceLT, Nat.reduceLeDiff, Int.reduceLT, Int.reduceLE, Int.reduceAdd, Int.reduceSub, Int.reduceNeg, Int.reduceToNat, Int.reduceEq, reduceCtorEq, *])
            | (refine try_k (fs := []) (by simp) ?_; simp (config := { maxSteps := 2000000 }) only [resT, stA, decide_true, decide_false, eq_self, ints, List.map_nil, List.length_nil, Kon, push_cast, reduceIte, Nat.reduceEqDiff, Nat.reduceAdd, Nat.reduceMul, Nat.reduceSub, Nat.reduceLT, Nat.reduceLeDiff, Int.reduceLT, Int.reduceLE, Int.reduceAdd, Int.reduceSub, Int.reduceNeg, Int.reduceToNat, Int.reduceEq, reduceCtorEq, *])
            | (refine CalK2_mk (awake_k ⟨rfl, rfl⟩) (awake_k ⟨rfl, rfl⟩) ?_; simp (config := { maxSteps := 2000000 }) only [resT, stA, decide_true, decide_false, eq_self, ints, List.map_nil, List.length_nil, Kon, push_cast, reduceIte, Nat.reduceEqDiff, Nat.reduceAdd, Nat.reduceMul, Nat.reduceSub, Nat.reduceLT, Nat.reduceLeDiff, Int.reduceLT, Int.reduceLE, Int.reduceAdd, Int.reduceSub, Int.reduceNeg, Int.reduceToNat, Int.reduceEq, reduceCtorEq, *])
            | (refine CalK2_mk (try_k (fs := []) (by simp) ⟨rfl, rfl⟩) (try_k (fs := []) (by simp) ⟨rfl, rfl⟩) ?_; simp (config := { maxSteps := 2000000 }) only [resT, stA, decide_true, decide_false, eq_self, ints, List.map_nil, List.length_nil, Kon, push_cast, reduceIte, Nat.reduceEqDiff, Nat.reduceAdd, Nat.reduceMul, Nat.reduceSub, Nat.reduceLT, Nat.reduceLeDiff, Int.reduceLT, Int.reduceLE, Int.reduceAdd, Int.reduceSub, Int.reduceNeg, Int.reduceToNat, Int.reduceEq, reduceCtorEq, *])
            | (refine CalK_mk (awake_k ⟨rfl, rfl⟩) ?_; simp (config := { maxSteps := 2000000 }) only [resT, stA, decide_true, decide_false, eq_self, ints, List.map_nil, List.length_nil, Kon, push_cast, reduceIte, Nat.reduceEqDiff, Nat.reduceAdd, Nat.reduceMul, Nat.reduceSub, Nat.reduceLT, Nat.reduceLeDiff, Int.reduceLT, Int.reduceLE, Int.reduceAdd, Int.reduceSub, Int.reduceNeg, Int.reduceToNat, Int.reduceEq, reduceCtorEq, *])
            | (refine CalK_mk (try_k (fs := []) (by simp) ⟨rfl, rfl⟩) ?_; simp (config := { maxSteps := 2000000 }) only [resT, stA, decide_true, decide_false, eq_self, ints, List.map_nil, List.length_nil, Kon, push_cast, reduceIte, Nat.reduceEqDiff, Nat.reduceAdd, Nat.reduceMul, Nat.reduceSub, Nat.reduceLT, Nat.reduceLeDiff, Int.reduceLT, Int.reduceLE, Int.reduceAdd, Int.reduceSub, Int.reduceNeg, Int.reduceToNat, Int.reduceEq, reduceCtorEq, *])
            | refine AW_condT rfl ?_
            | refine AW_condF rfl ?_
            | refine AW_condAny rfl ?_ ?_
            | refine AW_condB rfl (fun _ => ?_) (fun _ => ?_)
            | refine AW_condN rfl (fun _ => ?_) (fun _ => ?_)
            | (refine ite_introN (fun _ => ?_) (fun _ => ?_) <;> try simp (config := { maxSteps := 2000000 }) only [resT, stA, decide_true, decide_false, eq_self, ints, List.map_nil, List.length_nil, Kon, push_cast, reduceIte, Nat.reduceEqDiff, Nat.reduceAdd, Nat.reduceMul, Nat.reduceSub, Nat.reduceLT, Nat.reduceLeDiff, Int.reduceLT, Int.reduceLE, Int.reduceAdd, Int.reduceSub, Int.reduceNeg, Int.reduceToNat, Int.reduceEq, reduceCtorEq, *])
            | (refine ite_intro (fun _ => ?_) (fun _ => ?_) <;> try simp (config := { maxSteps := 2000000 }) only [resT, stA, decide_true, decide_false, eq_self, ints, List.map_nil, List.length_nil, Kon, push_cast, reduceIte, Nat.reduceEqDiff, Nat.reduceAdd, Nat.reduceMul, Nat.reduceSub, Nat.reduceLT, Nat.reduceLeDiff, Int.reduceLT, Int.reduceLE, Int.reduceAdd, Int.reduceSub, Int.reduceNeg, Int.reduceToNat, Int.reduceEq, reduceCtorEq, *])
            | refine And.intro trivial ?_
            | refine And.intro (by omega) ?_
            | refine AW_block ?_
            | (refine AW_skip ?_; simp only [push_cast, reduceIte, Nat.reduceEqDiff, Nat.reduceAdd, Nat.reduceMul, Nat.reduceSub, Nat.reduceLT, Nat.reduceLeDiff, Int.reduceLT, Int.reduceLE, Int.reduceAdd, Int.reduceSub, Int.reduceNeg, Int.reduceToNat, Int.reduceEq, reduceCtorEq])
            | (refine AW_exit ?_; simp only [push_cast, reduceIte, Nat.reduceEqDiff, Nat.reduceAdd, Nat.reduceMul, Nat.reduceSub, Nat.reduceLT, Nat.reduceLeDiff, Int.reduceLT, Int.reduceLE, Int.reduceAdd, Int.reduceSub, Int.reduceNeg, Int.reduceToNat, Int.reduceEq, reduceCtorEq])
            | (refine AW_ret (Back_retR ?_); simp only [push_cast, reduceIte, Nat.reduceEqDiff, Nat.reduceAdd, Nat.reduceMul, Nat.reduceSub, Nat.reduceLT, Nat.reduceLeDiff, Int.reduceLT, Int.reduceLE, Int.reduceAdd, Int.reduceSub, Int.reduceNeg, Int.reduceToNat, Int.reduceEq, reduceCtorEq, *])
            | refine AW_cond rfl (fun _ => ?_) (fun _ => ?_)
            | refine And.intro ?_ ?_
          all_goals exact Fin_pure rfl h.out
        · rw [if_neg (by omega)] at hr hwr
          subst hwr
          by_cases q3 : 0 < pa
          · by_cases q4 : pa ≤ t + wt - a
            · rw [if_pos ⟨q3, q4⟩] at hr
              subst hr
              repeat' first
                | refine AW_seq ?_
                | (refine AW_region ?_; simp (config := { maxSteps := 2000000 }) only [resT, stA, decide_true, decide_false, eq_self, ints, List.map_nil, List.length_nil, Kon, push_cast, reduceIte, Nat.reduceEqDiff, Nat.reduceAdd, Nat.reduceMul, Nat.reduceSub, Nat.reduceLT, Nat.reduceLeDiff, Int.reduceLT, Int.reduceLE, Int.reduceAdd, Int.reduceSub, Int.reduceNeg, Int.reduceToNat, Int.reduceEq, reduceCtorEq, *])
                | (refine AW_dreg ?_; simp (config := { maxSteps := 2000000 }) only [resT, stA, decide_true, decide_false, eq_self, ints, List.map_nil, List.length_nil, Kon, push_cast, reduceIte, Nat.reduceEqDiff, Nat.reduceAdd, Nat.reduceMul, Nat.reduceSub, Nat.reduceLT, Nat.reduceLeDiff, Int.reduceLT, Int.reduceLE, Int.reduceAdd, Int.reduceSub, Int.reduceNeg, Int.reduceToNat, Int.reduceEq, reduceCtorEq, *])
                | (refine AW_block ?_)
                | (refine awake_k ?_; simp (config := { maxSteps := 2000000 }) only [resT, stA, decide_true, decide_false, eq_self, ints, List.map_nil, List.length_nil, Kon, push_cast, reduceIte, Nat.reduceEqDiff, Nat.reduceAdd, Nat.reduceMul, Nat.reduceSub, Nat.reduceLT, Nat.reduceLeDiff, Int.reduceLT, Int.reduceLE, Int.reduceAdd, Int.reduceSub, Int.reduceNeg, Int.reduceToNat, Int.reduceEq, reduceCtorEq, *])
                | (refine try_k (fs := []) (by simp) ?_; simp (config := { maxSteps := 2000000 }) only [resT, stA, decide_true, decide_false, eq_self, ints, List.map_nil, List.length_nil, Kon, push_cast, reduceIte, Nat.reduceEqDiff, Nat.reduceAdd, Nat.reduceMul, Nat.reduceSub, Nat.reduceLT, Nat.reduceLeDiff, Int.reduceLT, Int.reduceLE, Int.reduceAdd, Int.reduceSub, Int.reduceNeg, Int.reduceToNat, Int.reduceEq, reduceCtorEq, *])
                | (refine CalK2_mk (awake_k ⟨rfl, rfl⟩) (awake_k ⟨rfl, rfl⟩) ?_; simp (config := { maxSteps := 2000000 }) only [resT, stA, decide_true, decide_false, eq_self, ints, List.map_nil, List.length_nil, Kon, push_cast, reduceIte, Nat.reduceEqDiff, Nat.reduceAdd, Nat.reduceMul, Nat.reduceSub, Nat.reduceLT, Nat.reduceLeDiff, Int.reduceLT, Int.reduceLE, Int.reduceAdd, Int.reduceSub, Int.reduceNeg, Int.reduceToNat, Int.reduceEq, reduceCtorEq, *])
                | (refine CalK2_mk (try_k (fs := []) (by simp) ⟨rfl, rfl⟩) (try_k (fs := []) (by simp) ⟨rfl, rfl⟩) ?_; simp (config := { maxSteps := 2000000 }) only [resT, stA, decide_true, decide_false, eq_self, ints, List.map_nil, List.length_nil, Kon, push_cast, reduceIte, Nat.reduceEqDiff, Nat.reduceAdd, Nat.reduceMul, Nat.reduceSub, Nat.reduceLT, Nat.reduceLeDiff, Int.reduceLT, Int.reduceLE, Int.reduceAdd, Int.reduceSub, Int.reduceNeg, Int.reduceToNat, Int.reduceEq, reduceCtorEq, *])
                | (refine CalK_mk (awake_k ⟨rfl, rfl⟩) ?_; simp (config := { maxSteps := 2000000 }) only [resT, stA, decide_true, decide_false, eq_self, ints, List.map_nil, List.length_nil, Kon, push_cast, reduceIte, Nat.reduceEqDiff, Nat.reduceAdd, Nat.reduceMul, Nat.reduceSub, Nat.reduceLT, Nat.reduceLeDiff, Int.reduceLT, Int.reduceLE, Int.reduceAdd, Int.reduceSub, Int.reduceNeg, Int.reduceToNat, Int.reduceEq, reduceCtorEq, *])
                | (refine CalK_mk (try_k (fs := []) (by simp) ⟨rfl, rfl⟩) ?_; simp (config := { maxSteps := 2000000 }) only [resT, stA, decide_true, decide_false, eq_self, ints, List.map_nil, List.length_nil, Kon, push_cast, reduceIte, Nat.reduceEqDiff, Nat.reduceAdd, Nat.reduceMul, Nat.reduceSub, Nat.reduceLT, Nat.reduceLeDiff, Int.reduceLT, Int.reduceLE, Int.reduceAdd, Int.reduceSub, Int.reduceNeg, Int.reduceToNat, Int.reduceEq, reduceCtorEq, *])
                | refine AW_condT rfl ?_
                | refine AW_condF rfl ?_
                | refine AW_condAny rfl ?_ ?_
                | refine AW_condB rfl (fun _ => ?_) (fun _ => ?_)
                | refine AW_condN rfl (fun _ => ?_) (fun _ => ?_)
                | (refine ite_introN (fun _ => ?_) (fun _ => ?_) <;> try simp (config := { maxSteps := 2000000 }) only [resT, stA, decide_true, decide_false, eq_self, ints, List.map_nil, List.length_nil, Kon, push_cast, reduceIte, Nat.reduceEqDiff, Nat.reduceAdd, Nat.reduceMul, Nat.reduceSub, Nat.reduceLT, Nat.reduceLeDiff, Int.reduceLT, Int.reduceLE, Int.reduceAdd, Int.reduceSub, Int.reduceNeg, Int.reduceToNat, Int.reduceEq, reduceCtorEq, *])
                | (refine ite_intro (fun _ => ?_) (fun _ => ?_) <;> try simp (config := { maxSteps := 2000000 }) only [resT, stA, decide_true, decide_false, eq_self, ints, List.map_nil, List.length_nil, Kon, push_cast, reduceIte, Nat.reduceEqDiff, Nat.reduceAdd, Nat.reduceMul, Nat.reduceSub, Nat.reduceLT, Nat.reduceLeDiff, Int.reduceLT, Int.reduceLE, Int.reduceAdd, Int.reduceSub, Int.reduceNeg, Int.reduceToNat, Int.reduceEq, reduceCtorEq, *])
                | refine And.intro trivial ?_
                | refine And.intro (by omega) ?_
                | refine AW_block ?_
                | (refine AW_skip ?_; simp only [push_cast, reduceIte, Nat.reduceEqDiff, Nat.reduceAdd, Nat.reduceMul, Nat.reduceSub, Nat.reduceLT, Nat.reduceLeDiff, Int.reduceLT, Int.reduceLE, Int.reduceAdd, Int.reduceSub, Int.reduceNeg, Int.reduceToNat, Int.reduceEq, reduceCtorEq])
                | (refine AW_exit ?_; simp only [push_cast, reduceIte, Nat.reduceEqDiff, Nat.reduceAdd, Nat.reduceMul, Nat.reduceSub, Nat.reduceLT, Nat.reduceLeDiff, Int.reduceLT, Int.reduceLE, Int.reduceAdd, Int.reduceSub, Int.reduceNeg, Int.reduceToNat, Int.reduceEq, reduceCtorEq])
                | (refine AW_ret (Back_retR ?_); simp only [push_cast, reduceIte, Nat.reduceEqDiff, Nat.reduceAdd, Nat.reduceMul, Nat.reduceSub, Nat.reduceLT, Nat.reduceLeDiff, Int.reduceLT, Int.reduceLE, Int.reduceAdd, Int.reduceSub, Int.reduceNeg, Int.reduceToNat, Int.reduceEq, reduceCtorEq, *])
                | refine AW_cond rfl (fun _ => ?_) (fun _ => ?_)
                | refine And.intro ?_ ?_
              all_goals exact Fin_pure rfl h.out
            · rw [if_neg (fun h => q4 h.2)] at hr
              subst hr
              repeat' first
                | refine AW_seq ?_
                | (refine AW_region ?_; simp (config := { maxSteps := 2000000 }) only [resT, stA, decide_true, decide_false, eq_self, ints, List.map_nil, List.length_nil, Kon, push_cast, reduceIte, Nat.reduceEqDiff, Nat.reduceAdd, Nat.reduceMul, Nat.reduceSub, Nat.reduceLT, Nat.reduceLeDiff, Int.reduceLT, Int.reduceLE, Int.reduceAdd, Int.reduceSub, Int.reduceNeg, Int.reduceToNat, Int.reduceEq, reduceCtorEq, *])
                | (refine AW_dreg ?_; simp (config := { maxSteps := 2000000 }) only [resT, stA, decide_true, decide_false, eq_self, ints, List.map_nil, List.length_nil, Kon, push_cast, reduceIte, Nat.reduceEqDiff, Nat.reduceAdd, Nat.reduceMul, Nat.reduceSub, Nat.reduceLT, Nat.reduceLeDiff, Int.reduceLT, Int.reduceLE, Int.reduceAdd, Int.reduceSub, Int.reduceNeg, Int.reduceToNat, Int.reduceEq, reduceCtorEq, *])
                | (refine AW_block ?_)
                | (refine awake_k ?_; simp (config := { maxSteps := 2000000 }) only [resT, stA, decide_true, decide_false, eq_self, ints, List.map_nil, List.length_nil, Kon, push_cast, reduceIte, Nat.reduceEqDiff, Nat.reduceAdd, Nat.reduceMul, Nat.reduceSub, Nat.reduceLT, Nat.reduceLeDiff, Int.reduceLT, Int.reduceLE, Int.reduceAdd, Int.reduceSub, Int.reduceNeg, Int.reduceToNat, Int.reduceEq, reduceCtorEq, *])
                | (refine try_k (fs := []) (by simp) ?_; simp (config := { maxSteps := 2000000 }) only [resT, stA, decide_true, decide_false, eq_self, ints, List.map_nil, List.length_nil, Kon, push_cast, reduceIte, Nat.reduceEqDiff, Nat.reduceAdd, Nat.reduceMul, Nat.reduceSub, Nat.reduceLT, Nat.reduceLeDiff, Int.reduceLT, Int.reduceLE, Int.reduceAdd, Int.reduceSub, Int.reduceNeg, Int.reduceToNat, Int.reduceEq, reduceCtorEq, *])
                | (refine CalK2_mk (awake_k ⟨rfl, rfl⟩) (awake_k ⟨rfl, rfl⟩) ?_; simp (config := { maxSteps := 2000000 }) only [resT, stA, decide_true, decide_false, eq_self, ints, List.map_nil, List.length_nil, Kon, push_cast, reduceIte, Nat.reduceEqDiff, Nat.reduceAdd, Nat.reduceMul, Nat.reduceSub, Nat.reduceLT, Nat.reduceLeDiff, Int.reduceLT, Int.reduceLE, Int.reduceAdd, Int.reduceSub, Int.reduceNeg, Int.reduceToNat, Int.reduceEq, reduceCtorEq, *])
                | (refine CalK2_mk (try_k (fs := []) (by simp) ⟨rfl, rfl⟩) (try_k (fs := []) (by simp) ⟨rfl, rfl⟩) ?_; simp (config := { maxSteps := 2000000 }) only [resT, stA, decide_true, decide_false, eq_self, ints, List.map_nil, List.length_nil, Kon, push_cast, reduceIte, Nat.reduceEqDiff, Nat.reduceAdd, Nat.reduceMul, Nat.reduceSub, Nat.reduceLT, Nat.reduceLeDiff, Int.reduceLT, Int.reduceLE, Int.reduceAdd, Int.reduceSub, Int.reduceNeg, Int.reduceToNat, Int.reduceEq, reduceCtorEq, *])
                | (refine CalK_mk (awake_k ⟨rfl, rfl⟩) ?_; simp (config := { maxSteps := 2000000 }) only [resT, stA, decide_true, decide_false, eq_self, ints, List.map_nil, List.length_nil, Kon, push_cast, reduceIte, Nat.reduceEqDiff, Nat.reduceAdd, Nat.reduceMul, Nat.reduceSub, Nat.reduceLT, Nat.reduceLeDiff, Int.reduceLT, Int.reduceLE, Int.reduceAdd, Int.reduceSub, Int.reduceNeg, Int.reduceToNat, Int.reduceEq, reduceCtorEq, *])
                | (refine CalK_mk (try_k (fs := []) (by simp) ⟨rfl, rfl⟩) ?_; simp (config := { maxSteps := 2000000 }) only [resT, stA, decide_true, decide_false, eq_self, ints, List.map_nil, List.length_nil, Kon, push_cast, reduceIte, Nat.reduceEqDiff, Nat.reduceAdd, Nat.reduceMul, Nat.reduceSub, Nat.reduceLT, Nat.reduceLeDiff, Int.reduceLT, Int.reduceLE, Int.reduceAdd, Int.reduceSub, Int.reduceNeg, Int.reduceToNat, Int.reduceEq, reduceCtorEq, *])
                | refine AW_condT rfl ?_
                | refine AW_condF rfl ?_
                | refine AW_condAny rfl ?_ ?_
                | refine AW_condB rfl (fun _ => ?_) (fun _ => ?_)
                | refine AW_condN rfl (fun _ => ?_) (fun _ => ?_)
                | (refine ite_introN (fun _ => ?_) (fun _ => ?_) <;> try simp (config := { maxSteps := 2000000 }) only [resT, stA, decide_true, decide_false, eq_self, ints, List.map_nil, List.length_nil, Kon, push_cast, reduceIte, Nat.reduceEqDiff, Nat.reduceAdd, Nat.reduceMul, Nat.reduceSub, Nat.reduceLT, Nat.reduceLeDiff, Int.reduceLT, Int.reduceLE, Int.reduceAdd, Int.reduceSub, Int.reduceNeg, Int.reduceToNat, Int.reduceEq, reduceCtorEq, *])
                | (refine ite_intro (fun _ => ?_) (fun _ => ?_) <;> try simp (config := { maxSteps := 2000000 }) only [resT, stA, decide_true, decide_false, eq_self, ints, List.map_nil, List.length_nil, Kon, push_cast, reduceIte, Nat.reduceEqDiff, Nat.reduceAdd, Nat.reduceMul, Nat.reduceSub, Nat.reduceLT, Nat.reduceLeDiff, Int.reduceLT, Int.reduceLE, Int.reduceAdd, Int.reduceSub, Int.reduceNeg, Int.reduceToNat, Int.reduceEq, reduceCtorEq, *])
                | refine And.intro trivial ?_
                | refine And.intro (by omega) ?_
                | refine AW_block ?_
                | (refine AW_skip ?_; simp only [push_cast, reduceIte, Nat.reduceEqDiff, Nat.reduceAdd, Nat.reduceMul, Nat.reduceSub, Nat.reduceLT, Nat.reduceLeDiff, Int.reduceLT, Int.reduceLE, Int.reduceAdd, Int.reduceSub, Int.reduceNeg, Int.reduceToNat, Int.reduceEq, reduceCtorEq])
                | (refine AW_exit ?_; simp only [push_cast, reduceIte, Nat.reduceEqDiff, Nat.reduceAdd, Nat.reduceMul, Nat.reduceSub, Nat.reduceLT, Nat.reduceLeDiff, Int.reduceLT, Int.reduceLE, Int.reduceAdd, Int.reduceSub, Int.reduceNeg, Int.reduceToNat, Int.reduceEq, reduceCtorEq])
                | (refine AW_ret (Back_retR ?_); simp only [push_cast, reduceIte, Nat.reduceEqDiff, Nat.reduceAdd, Nat.reduceMul, Nat.reduceSub, Nat.reduceLT, Nat.reduceLeDiff, Int.reduceLT, Int.reduceLE, Int.reduceAdd, Int.reduceSub, Int.reduceNeg, Int.reduceToNat, Int.reduceEq, reduceCtorEq, *])
                | refine AW_cond rfl (fun _ => ?_) (fun _ => ?_)
                | refine And.intro ?_ ?_
              all_goals exact Fin_pure rfl h.out
          · rw [if_neg (fun h => q3 h.1)] at hr
            subst hr
            repeat' first
              | refine AW_seq ?_
              | (refine AW_region ?_; simp (config := { maxSteps := 2000000 }) only [resT, stA, decide_true, decide_false, eq_self, ints, List.map_nil, List.length_nil, Kon, push_cast, reduceIte, Nat.reduceEqDiff, Nat.reduceAdd, Nat.reduceMul, Nat.reduceSub, Nat.reduceLT, Nat.reduceLeDiff, Int.reduceLT, Int.reduceLE, Int.reduceAdd, Int.reduceSub, Int.reduceNeg, Int.reduceToNat, Int.reduceEq, reduceCtorEq, *])
              | (refine AW_dreg ?_; simp (config := { maxSteps := 2000000 }) only [resT, stA, decide_true, decide_false, eq_self, ints, List.map_nil, List.length_nil, Kon, push_cast, reduceIte, Nat.reduceEqDiff, Nat.reduceAdd, Nat.reduceMul, Nat.reduceSub, Nat.reduceLT, Nat.reduceLeDiff, Int.reduceLT, Int.reduceLE, Int.reduceAdd, Int.reduceSub, Int.reduceNeg, Int.reduceToNat, Int.reduceEq, reduceCtorEq, *])
              | (refine AW_block ?_)
              | (refine awake_k ?_; simp (config := { maxSteps := 2000000 }) only [resT, stA, decide_true, decide_false, eq_self, ints, List.map_nil, List.length_nil, Kon, push_cast, reduceIte, Nat.reduceEqDiff, Nat.reduceAdd, Nat.reduceMul, Nat.reduceSub, Nat.reduceLT, Nat.reduceLeDiff, Int.reduceLT, Int.reduceLE, Int.reduceAdd, Int.reduceSub, Int.reduceNeg, Int.reduceToNat, Int.reduceEq, reduceCtorEq, *])
              | (refine try_k (fs := []) (by simp) ?_; simp (config := { maxSteps := 2000000 }) only [resT, stA, decide_true, decide_false, eq_self, ints, List.map_nil, List.length_nil, Kon, push_cast, reduceIte, Nat.reduceEqDiff, Nat.reduceAdd, Nat.reduceMul, Nat.reduceSub, Nat.reduceLT, Nat.reduceLeDiff, Int.reduceLT, Int.reduceLE, Int.reduceAdd, Int.reduceSub, Int.reduceNeg, Int.reduceToNat, Int.reduceEq, reduceCtorEq, *])
              | (refine CalK2_mk (awake_k ⟨rfl, rfl⟩) (awake_k ⟨rfl, rfl⟩) ?_; simp (config := { maxSteps := 2000000 }) only [resT, stA, decide_true, decide_false, eq_self, ints, List.map_nil, List.length_nil, Kon, push_cast, reduceIte, Nat.reduceEqDiff, Nat.reduceAdd, Nat.reduceMul, Nat.reduceSub, Nat.reduceLT, Nat.reduceLeDiff, Int.reduceLT, Int.reduceLE, Int.reduceAdd, Int.reduceSub, Int.reduceNeg, Int.reduceToNat, Int.reduceEq, reduceCtorEq, *])
              | (refine CalK2_mk (try_k (fs := []) (by simp) ⟨rfl, rfl⟩) (try_k (fs := []) (by simp) ⟨rfl, rfl⟩) ?_; simp (config := { maxSteps := 2000000 }) only [resT, stA, decide_true, decide_false, eq_self, ints, List.map_nil, List.length_nil, Kon, push_cast, reduceIte, Nat.reduceEqDiff, Nat.reduceAdd, Nat.reduceMul, Nat.reduceSub, Nat.reduceLT, Nat.reduceLeDiff, Int.reduceLT, Int.reduceLE, Int.reduceAdd, Int.reduceSub, Int.reduceNeg, Int.reduceToNat, Int.reduceEq, reduceCtorEq, *])
              | (refine CalK_mk (awake_k ⟨rfl, rfl⟩) ?_; simp (config := { maxSteps := 2000000 }) only [resT, stA, decide_true, decide_false, eq_self, ints, List.map_nil, List.length_nil, Kon, push_cast, reduceIte, Nat.reduceEqDiff, Nat.reduceAdd, Nat.reduceMul, Nat.reduceSub, Nat.reduceLT, Nat.reduceLeDiff, Int.reduceLT, Int.reduceLE, Int.reduceAdd, Int.reduceSub, Int.reduceNeg, Int.reduceToNat, Int.reduceEq, reduceCtorEq, *])
              | (refine CalK_mk (try_k (fs := []) (by simp) ⟨rfl, rfl⟩) ?_; simp (config := { maxSteps := 2000000 }) only [resT, stA, decide_true, decide_false, eq_self, ints, List.map_nil, List.length_nil, Kon, push_cast, reduceIte, Nat.reduceEqDiff, Nat.reduceAdd, Nat.reduceMul, Nat.reduceSub, Nat.reduceLT, Nat.reduceLeDiff, Int.reduceLT, Int.reduceLE, Int.reduceAdd, Int.reduceSub, Int.reduceNeg, Int.reduceToNat, Int.reduceEq, reduceCtorEq, *])
              | refine AW_condT rfl ?_
              | refine AW_condF rfl ?_
              | refine AW_condAny rfl ?_ ?_
              | refine AW_condB rfl (fun _ => ?_) (fun _ => ?_)
              | refine AW_condN rfl (fun _ => ?_) (fun _ => ?_)
              | (refine ite_introN (fun _ => ?_) (fun _ => ?_) <;> try simp (config := { maxSteps := 2000000 }) only [resT, stA, decide_true, decide_false, eq_self, ints, List.map_nil, List.length_nil, Kon, push_cast, reduceIte, Nat.reduceEqDiff, Nat.reduceAdd, Nat.reduceMul, Nat.reduceSub, Nat.reduceLT, Nat.reduceLeDiff, Int.reduceLT, Int.reduceLE, Int.reduceAdd, Int.reduceSub, Int.reduceNeg, Int.reduceToNat, Int.reduceEq, reduceCtorEq, *])
              | (refine ite_intro (fun _ => ?_) (fun _ => ?_) <;> try simp (config := { maxSteps := 2000000 }) only [resT, stA, decide_true, decide_false, eq_self, ints, List.map_nil, List.length_nil, Kon, push_cast, reduceIte, Nat.reduceEqDiff, Nat.reduceAdd, Nat.reduceMul, Nat.reduceSub, Nat.reduceLT, Nat.reduceLeDiff, Int.reduceLT, Int.reduceLE, Int.reduceAdd, Int.reduceSub, Int.reduceNeg, Int.reduceToNat, Int.reduceEq, reduceCtorEq, *])
              | refine And.intro trivial ?_
              | refine And.intro (by omega) ?_
              | refine AW_block ?_
              | (refine AW_skip ?_; simp only [push_cast, reduceIte, Nat.reduceEqDiff, Nat.reduceAdd, Nat.reduceMul, Nat.reduceSub, Nat.reduceLT, Nat.reduceLeDiff, Int.reduceLT, Int.reduceLE, Int.reduceAdd, Int.reduceSub, Int.reduceNeg, Int.reduceToNat, Int.reduceEq, reduceCtorEq])
              | (refine AW_exit ?_; simp only [push_cast, reduceIte, Nat.reduceEqDiff, Nat.reduceAdd, Nat.reduceMul, Nat.reduceSub, Nat.reduceLT, Nat.reduceLeDiff, Int.reduceLT, Int.reduceLE, Int.reduceAdd, Int.reduceSub, Int.reduceNeg, Int.reduceToNat, Int.reduceEq, reduceCtorEq])
              | (refine AW_ret (Back_retR ?_); simp only [push_cast, reduceIte, Nat.reduceEqDiff, Nat.reduceAdd, Nat.reduceMul, Nat.reduceSub, Nat.reduceLT, Nat.reduceLeDiff, Int.reduceLT, Int.reduceLE, Int.reduceAdd, Int.reduceSub, Int.reduceNeg, Int.reduceToNat, Int.reduceEq, reduceCtorEq, *])
              | refine AW_cond rfl (fun _ => ?_) (fun _ => ?_)
              | refine And.intro ?_ ?_
            all_goals exact Fin_pure rfl h.out
end Go.Proofs.Ytafghkbedkjpmaa.Av
