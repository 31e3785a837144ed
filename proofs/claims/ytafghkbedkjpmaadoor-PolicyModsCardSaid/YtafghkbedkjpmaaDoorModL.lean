import Derived.Test.YtafghkbedkjpmaaDoorSame
import Derived.Test.YtafghkbedkjpmaaDoorModC
import Derived.Test.YtafghkbedkjpmaaDoorPolJ
set_option linter.unusedSimpArgs false
set_option linter.unusedVariables false
namespace Go.Proofs.YtafghkbedkjpmaaDoor.Av
open Go
set_option maxHeartbeats 8000000
set_option maxRecDepth 100000

theorem stOk_facts {fs : List Int} {lk ch : Int} (h : stOk fs lk ch = true) : fs.Pairwise (· ≤ ·) ∧ fs.length ≤ 100 ∧ (∀ f ∈ fs, 0 ≤ f ∧ f ≤ 9223372036854775807) ∧ (-1 ≤ lk ∧ lk ≤ 9223372036854775807) ∧ (0 ≤ ch ∧ ch ≤ 9223372036854775807) := by
  simp only [stOk, Bool.and_eq_true, Bool.or_eq_true, decide_eq_true_eq, okTime] at h
  have pw := List.pairwise_cons.1 (runOk_pw h.1.1.1)
  refine ⟨pw.2, by omega, ?_, by omega, by omega⟩
  have key : ∀ (l : List Int) (p : Int), runOk p l = true → ∀ f ∈ l, 0 ≤ f ∧ f ≤ 9223372036854775807 := by
    intro l
    induction l with
    | nil => intro _ _ f hf; cases hf
    | cons x l ih =>
      intro p hp f hf
      simp only [runOk, okTime, Bool.and_eq_true, decide_eq_true_eq] at hp
      rcases List.mem_cons.1 hf with rfl | hf
      · omega
      · exact ih x hp.2 f hf
  exact key fs 0 h.1.1.1

theorem same14_one {vs : List (List UInt8)} {cap cap' : Option Nat} (hv : (vs.length : Int) ≤ 4611686018427387904) {L : List Blk} {K : AV → List Blk → Prop} (h : K (.bool true) L) :
    ACall Tryd.prog 9 [.sl [.str [], .sl (strs vs) vs.length none] 1 cap, .sl [.str [], .sl (strs vs) vs.length none] 1 cap'] L K :=
  same14_k (xs := [([], vs)]) (ys := [([], vs)]) (by simp) (by simpa using hv) (by simpa using h)

theorem modsA_at {fs : List Int} {lk ch : Int} {i : Nat} (hi : i < 3) (hl : fs.length ≤ 100) : ∃ (name : List UInt8) (vs : List (List UInt8)), (modsA fs lk ch).getD (i * 3) .undef = .int .i64 2 ∧ (modsA fs lk ch).getD (i * 3 + 1) .undef = .str name ∧ (modsA fs lk ch).getD (i * 3 + 2) .undef = .sl (strs vs) vs.length none ∧ vs.length ≤ 100 := by
  match i, hi with
  | 0, _ => exact ⟨_, _, rfl, rfl, rfl, by simp⟩
  | 1, _ => exact ⟨_, _, rfl, rfl, rfl, by simpa [failVals_length] using hl⟩
  | 2, _ => exact ⟨_, _, rfl, rfl, rfl, by simp only [lockVals]; split <;> simp⟩
theorem modsA_len (fs : List Int) (lk ch : Int) : (modsA fs lk ch).length = 9 := rfl
theorem refs_modsA (p : Nat → Bool) (fs : List Int) (lk ch : Int) : AV.refsL p (modsA fs lk ch) = true := by
  simp [modsA, modA, AV.refsL, AV.refs, refs_strs]

theorem pmods_k {fs : List Int} {cap : Option Nat} {lk ch : Int} {L : List Blk} {K : AV → List Blk → Prop} (hn : (fs.length : Int) ≤ 9223372036854775807) (h : K (.bool true) L) :
    ACall Tryd.prog 3 [.agg [.sl (ints fs) fs.length cap, .int .i64 lk, .int .i64 ch]] L K := by
  replace h := hid h
  refine ACall_fn c_law23_PolicyMods_eq (by simp [c_law23_PolicyMods]) ?_
  simp only [c_law23_PolicyMods, initT]
  by_cases hok : stOk fs lk ch = true
  rotate_left
  · have hok' : stOk fs lk ch = false := by simpa using hok
    clear hok
    repeat' first
      | refine AW_seq ?_
      | (first | refine AW_sreg (by kernel_rfl) ?_ | refine AW_sdreg (by kernel_rfl) ?_ | refine AW_dregM ?_ | refine Nx_in ?_ | refine NxI_in (fun _ => ?_) | refine AW_region ?_ | refine AW_dreg ?_ | refine right_k hn ?_ | refine awake_k ?_ | refine CalK2_mk (right_k hn ⟨rfl, rfl⟩) (right_k hn ⟨rfl, rfl⟩) ?_ | refine CalK2_mk (awake_k ⟨rfl, rfl⟩) (awake_k ⟨rfl, rfl⟩) ?_ | refine CalK_mk (right_k hn ⟨rfl, rfl⟩) ?_ | refine CalK_mk (awake_k ⟨rfl, rfl⟩) ?_)
        simp (config := { maxSteps := 2000000 }) only [Kon, push_cast, reduceIte, Nat.reduceEqDiff, Nat.reduceAdd, Nat.reduceMul, Nat.reduceSub, Nat.reduceLT, Nat.reduceLeDiff, Int.reduceLT, Int.reduceLE, Int.reduceAdd, Int.reduceSub, Int.reduceNeg, Int.reduceToNat, Int.reduceEq, reduceCtorEq, *]
      | (first | refine SelK_mk (by kernel_rfl) ?_ | refine AW_skip ?_ | refine AW_exit ?_ | refine AW_ret (Back_retR ?_))
        simp only [push_cast, reduceIte, Nat.reduceEqDiff, Nat.reduceAdd, Nat.reduceMul, Nat.reduceSub, Nat.reduceLT, Nat.reduceLeDiff, Int.reduceLT, Int.reduceLE, Int.reduceAdd, Int.reduceSub, Int.reduceNeg, Int.reduceToNat, Int.reduceEq, reduceCtorEq, *]
      | exact IsB_mk
      | first | apply GQ_mkT | apply GQ_mkTN | apply GQ_mkF | apply GQ_mkFN | apply GQ_mkB | apply GQ_mkBF
      | refine AW_block ?_
      | first | refine AW_condT rfl ?_ | refine AW_condF rfl ?_ | refine AW_condAny rfl ?_ ?_ | refine AW_condB rfl (fun _ => ?_) (fun _ => ?_) | refine AW_condN rfl (fun _ => ?_) (fun _ => ?_)
      | ((first | refine ite_introN (fun _ => ?_) (fun _ => ?_) | refine ite_intro (fun _ => ?_) (fun _ => ?_)) <;> try simp (config := { maxSteps := 2000000 }) only [Kon, push_cast, reduceIte, Nat.reduceEqDiff, Nat.reduceAdd, Nat.reduceMul, Nat.reduceSub, Nat.reduceLT, Nat.reduceLeDiff, Int.reduceLT, Int.reduceLE, Int.reduceAdd, Int.reduceSub, Int.reduceNeg, Int.reduceToNat, Int.reduceEq, reduceCtorEq, *])
      | refine And.intro trivial ?_
      | refine And.intro (by omega) ?_
      | refine AW_cond rfl (fun _ => ?_) (fun _ => ?_)
      | refine And.intro ?_ ?_
    exact Fin_pure rfl h.out
  obtain ⟨f1, f2, f3, f4, f5⟩ := stOk_facts hok
  have f2' : ¬ (100 : Int) < (fs.length : Int) := by omega
  replace f1 := hid f1
  replace f3 := hid f3
  repeat' first
    | refine AW_seq ?_
    | (first | refine AW_sreg (by kernel_rfl) ?_ | refine AW_sdreg (by kernel_rfl) ?_ | refine AW_dregM ?_ | refine Nx_in ?_ | refine NxI_in (fun _ => ?_) | refine AW_region ?_ | refine AW_dreg ?_ | refine right_k hn ?_ | refine to_k (refs_ints _) ?_ | refine mods_k f1.out f2 f3.out f4 f5 ?_ | refine rmods_k f2 f3.out f4 f5 ?_ | refine CalK2_mk (right_k hn ⟨rfl, rfl⟩) (right_k hn ⟨rfl, rfl⟩) ?_ | refine CalK2_mk (to_k (refs_ints _) ⟨rfl, rfl⟩) (to_k (refs_ints _) ⟨rfl, rfl⟩) ?_ | refine CalK2_mk (mods_k f1.out f2 f3.out f4 f5 ⟨rfl, rfl⟩) (mods_k f1.out f2 f3.out f4 f5 ⟨rfl, rfl⟩) ?_ | refine CalK2_mk (rmods_k f2 f3.out f4 f5 ⟨rfl, rfl⟩) (rmods_k f2 f3.out f4 f5 ⟨rfl, rfl⟩) ?_ | refine CalK_mk (right_k hn ⟨rfl, rfl⟩) ?_ | refine CalK_mk (to_k (refs_ints _) ⟨rfl, rfl⟩) ?_ | refine CalK_mk (mods_k f1.out f2 f3.out f4 f5 ⟨rfl, rfl⟩) ?_ | refine CalK_mk (rmods_k f2 f3.out f4 f5 ⟨rfl, rfl⟩) ?_)
      simp (config := { maxSteps := 2000000 }) only [Kon, push_cast, reduceIte, Nat.reduceEqDiff, Nat.reduceAdd, Nat.reduceMul, Nat.reduceSub, Nat.reduceLT, Nat.reduceLeDiff, Int.reduceLT, Int.reduceLE, Int.reduceAdd, Int.reduceSub, Int.reduceNeg, Int.reduceToNat, Int.reduceEq, reduceCtorEq, *]
    | (first | refine SelK_mk (by kernel_rfl) ?_ | refine AW_skip ?_ | refine AW_exit ?_ | refine AW_ret (Back_retR ?_))
      simp only [push_cast, reduceIte, Nat.reduceEqDiff, Nat.reduceAdd, Nat.reduceMul, Nat.reduceSub, Nat.reduceLT, Nat.reduceLeDiff, Int.reduceLT, Int.reduceLE, Int.reduceAdd, Int.reduceSub, Int.reduceNeg, Int.reduceToNat, Int.reduceEq, reduceCtorEq, *]
    | exact IsB_mk
    | first | apply GQ_mkT | apply GQ_mkTN | apply GQ_mkF | apply GQ_mkFN | apply GQ_mkB | apply GQ_mkBF
    | refine AW_block ?_
    | first | refine AW_condT rfl ?_ | refine AW_condF rfl ?_ | refine AW_condAny rfl ?_ ?_ | refine AW_condB rfl (fun _ => ?_) (fun _ => ?_) | refine AW_condN rfl (fun _ => ?_) (fun _ => ?_)
    | ((first | refine ite_introN (fun _ => ?_) (fun _ => ?_) | refine ite_intro (fun _ => ?_) (fun _ => ?_)) <;> try simp (config := { maxSteps := 2000000 }) only [Kon, push_cast, reduceIte, Nat.reduceEqDiff, Nat.reduceAdd, Nat.reduceMul, Nat.reduceSub, Nat.reduceLT, Nat.reduceLeDiff, Int.reduceLT, Int.reduceLE, Int.reduceAdd, Int.reduceSub, Int.reduceNeg, Int.reduceToNat, Int.reduceEq, reduceCtorEq, *])
    | refine And.intro trivial ?_
    | refine And.intro (by omega) ?_
    | refine AW_cond rfl (fun _ => ?_) (fun _ => ?_)
    | refine And.intro ?_ ?_
  refine AW_loopT (fun n T' L' => ∃ (i : Nat), n = 3 - i ∧ i ≤ 3 ∧ T' = [(28, .int .i64 (i : Int)), (27, .int .i64 3), (4, .sl (modsA fs lk ch) 3 none), (3, .sl (modsA fs lk ch) 3 none), (2, .bool false)] ∧
    L' = L ++ [.cells [.sl (ints fs) fs.length cap, .int .i64 lk, .int .i64 ch]]) (Cut_same (by repeat' first | exact SubT_nil | refine SubT_cons rfl rfl ?_ | refine SubT_consF rfl rfl ?_) (by simp)) ⟨0, rfl, by omega, rfl, rfl⟩ ?_
  rintro _ _ _ ⟨i, rfl, hi, rfl, rfl⟩
  by_cases hlt : i < 3
  · have h1 : (i : Int) < 3 := by omega
    have h2 : IntKind.i64.wrap ((i : Int) + 1) = (i : Int) + 1 := wrap64_in (by omega) (by omega)
    obtain ⟨name, vs, a0, a1, a2, a3⟩ := modsA_at (lk := lk) (ch := ch) hlt f2
    have a4 : (vs.length : Int) ≤ 4611686018427387904 := by omega
    have la := modsA_len fs lk ch
    have c0 : i * 3 < (modsA fs lk ch).length := by omega
    have c1 : i * 3 + 1 < (modsA fs lk ch).length := by omega
    have c2 : i * 3 + 2 < (modsA fs lk ch).length := by omega
    repeat' first
      | refine AW_seq ?_
      | (first | refine AW_sreg (by kernel_rfl) ?_ | refine AW_sdreg (by kernel_rfl) ?_ | refine AW_dregM ?_ | refine Nx_in ?_ | refine NxI_in (fun _ => ?_) | refine AW_region ?_ | refine AW_dreg ?_ | refine same14_one a4 ?_ | refine CalK2_mk (same14_one a4 ⟨rfl, rfl⟩) (same14_one a4 ⟨rfl, rfl⟩) ?_ | refine CalK_mk (same14_one a4 ⟨rfl, rfl⟩) ?_)
        simp (config := { maxSteps := 2000000 }) only [Kon, push_cast, reduceIte, Nat.reduceEqDiff, Nat.reduceAdd, Nat.reduceMul, Nat.reduceSub, Nat.reduceLT, Nat.reduceLeDiff, Int.reduceLT, Int.reduceLE, Int.reduceAdd, Int.reduceSub, Int.reduceNeg, Int.reduceToNat, Int.reduceEq, reduceCtorEq, *]
      | (first | refine SelK_mk (by kernel_rfl) ?_ | refine AW_skip ?_ | refine AW_exit ?_ | refine AW_ret (Back_retR ?_))
        simp only [push_cast, reduceIte, Nat.reduceEqDiff, Nat.reduceAdd, Nat.reduceMul, Nat.reduceSub, Nat.reduceLT, Nat.reduceLeDiff, Int.reduceLT, Int.reduceLE, Int.reduceAdd, Int.reduceSub, Int.reduceNeg, Int.reduceToNat, Int.reduceEq, reduceCtorEq, *]
      | exact IsB_mk
      | first | apply GQ_mkT | apply GQ_mkTN | apply GQ_mkF | apply GQ_mkFN | apply GQ_mkB | apply GQ_mkBF
      | refine AW_block ?_
      | first | refine AW_condT rfl ?_ | refine AW_condF rfl ?_ | refine AW_condAny rfl ?_ ?_ | refine AW_condB rfl (fun _ => ?_) (fun _ => ?_) | refine AW_condN rfl (fun _ => ?_) (fun _ => ?_)
      | ((first | refine ite_introN (fun _ => ?_) (fun _ => ?_) | refine ite_intro (fun _ => ?_) (fun _ => ?_)) <;> try simp (config := { maxSteps := 2000000 }) only [Kon, push_cast, reduceIte, Nat.reduceEqDiff, Nat.reduceAdd, Nat.reduceMul, Nat.reduceSub, Nat.reduceLT, Nat.reduceLeDiff, Int.reduceLT, Int.reduceLE, Int.reduceAdd, Int.reduceSub, Int.reduceNeg, Int.reduceToNat, Int.reduceEq, reduceCtorEq, *])
      | refine And.intro trivial ?_
      | refine And.intro (by omega) ?_
      | refine AW_cond rfl (fun _ => ?_) (fun _ => ?_)
      | refine And.intro ?_ ?_
    exact Nxt_mk _ _ _ (by omega) (Cut_same (by repeat' first | exact SubT_nil | refine SubT_cons rfl rfl ?_ | refine SubT_consF rfl rfl ?_) (by simp)) ⟨i + 1, rfl, by omega, rfl, rfl⟩
  · have hke : i = 3 := by omega
    subst hke
    repeat' first
      | refine AW_seq ?_
      | (first | refine AW_sreg (by kernel_rfl) ?_ | refine AW_sdreg (by kernel_rfl) ?_ | refine AW_dregM ?_ | refine Nx_in ?_ | refine NxI_in (fun _ => ?_) | refine AW_region ?_ | refine AW_dreg ?_ | refine awake_k ?_ | refine CalK2_mk (awake_k ⟨rfl, rfl⟩) (awake_k ⟨rfl, rfl⟩) ?_ | refine CalK_mk (awake_k ⟨rfl, rfl⟩) ?_)
        simp (config := { maxSteps := 2000000 }) only [Kon, push_cast, reduceIte, Nat.reduceEqDiff, Nat.reduceAdd, Nat.reduceMul, Nat.reduceSub, Nat.reduceLT, Nat.reduceLeDiff, Int.reduceLT, Int.reduceLE, Int.reduceAdd, Int.reduceSub, Int.reduceNeg, Int.reduceToNat, Int.reduceEq, reduceCtorEq, *]
      | (first | refine SelK_mk (by kernel_rfl) ?_ | refine AW_skip ?_ | refine AW_exit ?_ | refine AW_ret (Back_retR ?_))
        simp only [push_cast, reduceIte, Nat.reduceEqDiff, Nat.reduceAdd, Nat.reduceMul, Nat.reduceSub, Nat.reduceLT, Nat.reduceLeDiff, Int.reduceLT, Int.reduceLE, Int.reduceAdd, Int.reduceSub, Int.reduceNeg, Int.reduceToNat, Int.reduceEq, reduceCtorEq, *]
      | exact IsB_mk
      | first | apply GQ_mkT | apply GQ_mkTN | apply GQ_mkF | apply GQ_mkFN | apply GQ_mkB | apply GQ_mkBF
      | refine AW_block ?_
      | first | refine AW_condT rfl ?_ | refine AW_condF rfl ?_ | refine AW_condAny rfl ?_ ?_ | refine AW_condB rfl (fun _ => ?_) (fun _ => ?_) | refine AW_condN rfl (fun _ => ?_) (fun _ => ?_)
      | ((first | refine ite_introN (fun _ => ?_) (fun _ => ?_) | refine ite_intro (fun _ => ?_) (fun _ => ?_)) <;> try simp (config := { maxSteps := 2000000 }) only [Kon, push_cast, reduceIte, Nat.reduceEqDiff, Nat.reduceAdd, Nat.reduceMul, Nat.reduceSub, Nat.reduceLT, Nat.reduceLeDiff, Int.reduceLT, Int.reduceLE, Int.reduceAdd, Int.reduceSub, Int.reduceNeg, Int.reduceToNat, Int.reduceEq, reduceCtorEq, *])
      | refine And.intro trivial ?_
      | refine And.intro (by omega) ?_
      | refine AW_cond rfl (fun _ => ?_) (fun _ => ?_)
      | refine And.intro ?_ ?_
    exact Fin_pure rfl h.out
end Go.Proofs.YtafghkbedkjpmaaDoor.Av
