import Derived.Test.YtafghkbedkjpmaaPolJ
import Derived.Test.YtafghkbedkjpmaaAvV
set_option linter.unusedSimpArgs false
set_option linter.unusedVariables false
namespace Go.Proofs.Ytafghkbedkjpmaa.Av
open Go
set_option maxHeartbeats 8000000

/-- Tries, as cells. -/
def tryC (ts : List (Int × Bool)) : List AV := ts.flatMap fun t => [.int .i64 t.1, .bool t.2]

theorem tryC_len : ∀ ts : List (Int × Bool), (tryC ts).length = ts.length * 2
  | [] => rfl
  | t :: ts => by
    have := tryC_len ts
    simp only [tryC, List.flatMap_cons, List.length_append, List.length_cons, List.length_nil] at this ⊢
    omega
theorem tryC_at : ∀ (ts : List (Int × Bool)) (k : Nat), k < ts.length → ((tryC ts).drop (k * 2)).take 2 = [.int .i64 (ts.getD k (0, false)).1, .bool (ts.getD k (0, false)).2]
  | [], k, h => by simp at h
  | t :: ts, 0, _ => by simp [tryC]
  | t :: ts, k + 1, h => by
    have ih := tryC_at ts k (by simpa using h)
    have e : (tryC (t :: ts)).drop ((k + 1) * 2) = (tryC ts).drop (k * 2) := by
      rw [show (k + 1) * 2 = k * 2 + 1 + 1 by omega]
      simp [tryC]
    rw [e, ih]; simp

theorem tryR_len {pf pw pl pa : Int} {fs : List Int} {lk ch now : Int} {right : Bool} : (tryR pf pw pl pa fs lk ch now right).1.1.length ≤ fs.length + 1 := by
  have hf := List.length_filter_le (fun f => !oldB pw now f) fs
  simp only [tryR]
  (repeat' split) <;> simp only [List.length_nil, List.length_drop, putIn_length] <;> omega

theorem sameg_k {fs gs : List Int} {a b c d : Int} {cap' : Option Nat} {i : Nat} {L : List Blk} {K : AV → List Blk → Prop} (hn : (fs.length : Int) ≤ 4611686018427387904) (h : K (.bool (decide (fs = gs) && decide (a = c) && decide (b = d))) L) :
    ACall Try.prog 13 [.agg [.gsl (ints fs) fs.length i 1, .int .i64 a, .int .i64 b], .agg [.sl (ints gs) gs.length cap', .int .i64 c, .int .i64 d]] L K := by
  refine ACall_frz ?_
  simp only [AV.frzL, AV.frz, frzL_ints]
  exact same_k hn h

theorem tryC_refs (p : Nat → Bool) : ∀ ts : List (Int × Bool), AV.refsL p (tryC ts) = true
  | [] => rfl
  | t :: ts => by have := tryC_refs p ts; simpa [tryC, AV.refsL, AV.refs] using this

theorem tries_k {pf pw pl pa : Int} {fs : List Int} {cap cap' : Option Nat} {lk ch : Int} {ts : List (Int × Bool)} {L : List Blk} {K : AV → List Blk → Prop} (h : K (.bool true) L) :
    ACall Try.prog 3 [.agg [.int .i64 pf, .int .i64 pw, .int .i64 pl, .int .i64 pa], .agg [.sl (ints fs) fs.length cap, .int .i64 lk, .int .i64 ch], .sl (tryC ts) ts.length cap'] L K := by
  replace h := hid h
  refine ACall_fn c_law23_PolicyTries_eq (by simp [c_law23_PolicyTries]) ?_
  simp only [c_law23_PolicyTries, initT]
  repeat' first
    | refine AW_seq ?_
    | (refine AW_region ?_; simp only [Kon, push_cast, reduceIte, Nat.reduceEqDiff, Nat.reduceAdd, Nat.reduceMul, Nat.reduceSub, Nat.reduceLT, Nat.reduceLeDiff, Int.reduceLT, Int.reduceLE, Int.reduceAdd, Int.reduceSub, Int.reduceNeg, Int.reduceToNat, Int.reduceEq, reduceCtorEq, *])
    | (refine AW_dreg ?_; simp only [Kon, push_cast, reduceIte, Nat.reduceEqDiff, Nat.reduceAdd, Nat.reduceMul, Nat.reduceSub, Nat.reduceLT, Nat.reduceLeDiff, Int.reduceLT, Int.reduceLE, Int.reduceAdd, Int.reduceSub, Int.reduceNeg, Int.reduceToNat, Int.reduceEq, reduceCtorEq, *])
    | (refine AW_block ?_)
    | (refine awake_k ?_; simp only [Kon, push_cast, reduceIte, Nat.reduceEqDiff, Nat.reduceAdd, Nat.reduceMul, Nat.reduceSub, Nat.reduceLT, Nat.reduceLeDiff, Int.reduceLT, Int.reduceLE, Int.reduceAdd, Int.reduceSub, Int.reduceNeg, Int.reduceToNat, Int.reduceEq, reduceCtorEq, *])
    | (refine check_k ?_; simp only [Kon, push_cast, reduceIte, Nat.reduceEqDiff, Nat.reduceAdd, Nat.reduceMul, Nat.reduceSub, Nat.reduceLT, Nat.reduceLeDiff, Int.reduceLT, Int.reduceLE, Int.reduceAdd, Int.reduceSub, Int.reduceNeg, Int.reduceToNat, Int.reduceEq, reduceCtorEq, *])
    | (refine rcheck_k ?_; simp only [Kon, push_cast, reduceIte, Nat.reduceEqDiff, Nat.reduceAdd, Nat.reduceMul, Nat.reduceSub, Nat.reduceLT, Nat.reduceLeDiff, Int.reduceLT, Int.reduceLE, Int.reduceAdd, Int.reduceSub, Int.reduceNeg, Int.reduceToNat, Int.reduceEq, reduceCtorEq, *])
    | (refine to_k (refs_ints _) ?_; simp only [Kon, push_cast, reduceIte, Nat.reduceEqDiff, Nat.reduceAdd, Nat.reduceMul, Nat.reduceSub, Nat.reduceLT, Nat.reduceLeDiff, Int.reduceLT, Int.reduceLE, Int.reduceAdd, Int.reduceSub, Int.reduceNeg, Int.reduceToNat, Int.reduceEq, reduceCtorEq, *])
    | (refine right_k (by omega) ?_; simp only [Kon, push_cast, reduceIte, Nat.reduceEqDiff, Nat.reduceAdd, Nat.reduceMul, Nat.reduceSub, Nat.reduceLT, Nat.reduceLeDiff, Int.reduceLT, Int.reduceLE, Int.reduceAdd, Int.reduceSub, Int.reduceNeg, Int.reduceToNat, Int.reduceEq, reduceCtorEq, *])
    | (refine rright_k (by omega) ?_; simp only [Kon, push_cast, reduceIte, Nat.reduceEqDiff, Nat.reduceAdd, Nat.reduceMul, Nat.reduceSub, Nat.reduceLT, Nat.reduceLeDiff, Int.reduceLT, Int.reduceLE, Int.reduceAdd, Int.reduceSub, Int.reduceNeg, Int.reduceToNat, Int.reduceEq, reduceCtorEq, *])
    | (refine CalK2_mk (awake_k ⟨rfl, rfl⟩) (awake_k ⟨rfl, rfl⟩) ?_; simp only [Kon, push_cast, reduceIte, Nat.reduceEqDiff, Nat.reduceAdd, Nat.reduceMul, Nat.reduceSub, Nat.reduceLT, Nat.reduceLeDiff, Int.reduceLT, Int.reduceLE, Int.reduceAdd, Int.reduceSub, Int.reduceNeg, Int.reduceToNat, Int.reduceEq, reduceCtorEq, *])
    | (refine CalK2_mk (check_k ⟨rfl, rfl⟩) (check_k ⟨rfl, rfl⟩) ?_; simp only [Kon, push_cast, reduceIte, Nat.reduceEqDiff, Nat.reduceAdd, Nat.reduceMul, Nat.reduceSub, Nat.reduceLT, Nat.reduceLeDiff, Int.reduceLT, Int.reduceLE, Int.reduceAdd, Int.reduceSub, Int.reduceNeg, Int.reduceToNat, Int.reduceEq, reduceCtorEq, *])
    | (refine CalK2_mk (rcheck_k ⟨rfl, rfl⟩) (rcheck_k ⟨rfl, rfl⟩) ?_; simp only [Kon, push_cast, reduceIte, Nat.reduceEqDiff, Nat.reduceAdd, Nat.reduceMul, Nat.reduceSub, Nat.reduceLT, Nat.reduceLeDiff, Int.reduceLT, Int.reduceLE, Int.reduceAdd, Int.reduceSub, Int.reduceNeg, Int.reduceToNat, Int.reduceEq, reduceCtorEq, *])
    | (refine CalK2_mk (to_k (refs_ints _) ⟨rfl, rfl⟩) (to_k (refs_ints _) ⟨rfl, rfl⟩) ?_; simp only [Kon, push_cast, reduceIte, Nat.reduceEqDiff, Nat.reduceAdd, Nat.reduceMul, Nat.reduceSub, Nat.reduceLT, Nat.reduceLeDiff, Int.reduceLT, Int.reduceLE, Int.reduceAdd, Int.reduceSub, Int.reduceNeg, Int.reduceToNat, Int.reduceEq, reduceCtorEq, *])
    | (refine CalK2_mk (right_k (by omega) ⟨rfl, rfl⟩) (right_k (by omega) ⟨rfl, rfl⟩) ?_; simp only [Kon, push_cast, reduceIte, Nat.reduceEqDiff, Nat.reduceAdd, Nat.reduceMul, Nat.reduceSub, Nat.reduceLT, Nat.reduceLeDiff, Int.reduceLT, Int.reduceLE, Int.reduceAdd, Int.reduceSub, Int.reduceNeg, Int.reduceToNat, Int.reduceEq, reduceCtorEq, *])
    | (refine CalK2_mk (rright_k (by omega) ⟨rfl, rfl⟩) (rright_k (by omega) ⟨rfl, rfl⟩) ?_; simp only [Kon, push_cast, reduceIte, Nat.reduceEqDiff, Nat.reduceAdd, Nat.reduceMul, Nat.reduceSub, Nat.reduceLT, Nat.reduceLeDiff, Int.reduceLT, Int.reduceLE, Int.reduceAdd, Int.reduceSub, Int.reduceNeg, Int.reduceToNat, Int.reduceEq, reduceCtorEq, *])
    | (refine CalK_mk (awake_k ⟨rfl, rfl⟩) ?_; simp only [Kon, push_cast, reduceIte, Nat.reduceEqDiff, Nat.reduceAdd, Nat.reduceMul, Nat.reduceSub, Nat.reduceLT, Nat.reduceLeDiff, Int.reduceLT, Int.reduceLE, Int.reduceAdd, Int.reduceSub, Int.reduceNeg, Int.reduceToNat, Int.reduceEq, reduceCtorEq, *])
    | (refine CalK_mk (check_k ⟨rfl, rfl⟩) ?_; simp only [Kon, push_cast, reduceIte, Nat.reduceEqDiff, Nat.reduceAdd, Nat.reduceMul, Nat.reduceSub, Nat.reduceLT, Nat.reduceLeDiff, Int.reduceLT, Int.reduceLE, Int.reduceAdd, Int.reduceSub, Int.reduceNeg, Int.reduceToNat, Int.reduceEq, reduceCtorEq, *])
    | (refine CalK_mk (rcheck_k ⟨rfl, rfl⟩) ?_; simp only [Kon, push_cast, reduceIte, Nat.reduceEqDiff, Nat.reduceAdd, Nat.reduceMul, Nat.reduceSub, Nat.reduceLT, Nat.reduceLeDiff, Int.reduceLT, Int.reduceLE, Int.reduceAdd, Int.reduceSub, Int.reduceNeg, Int.reduceToNat, Int.reduceEq, reduceCtorEq, *])
    | (refine CalK_mk (to_k (refs_ints _) ⟨rfl, rfl⟩) ?_; simp only [Kon, push_cast, reduceIte, Nat.reduceEqDiff, Nat.reduceAdd, Nat.reduceMul, Nat.reduceSub, Nat.reduceLT, Nat.reduceLeDiff, Int.reduceLT, Int.reduceLE, Int.reduceAdd, Int.reduceSub, Int.reduceNeg, Int.reduceToNat, Int.reduceEq, reduceCtorEq, *])
    | (refine CalK_mk (right_k (by omega) ⟨rfl, rfl⟩) ?_; simp only [Kon, push_cast, reduceIte, Nat.reduceEqDiff, Nat.reduceAdd, Nat.reduceMul, Nat.reduceSub, Nat.reduceLT, Nat.reduceLeDiff, Int.reduceLT, Int.reduceLE, Int.reduceAdd, Int.reduceSub, Int.reduceNeg, Int.reduceToNat, Int.reduceEq, reduceCtorEq, *])
    | (refine CalK_mk (rright_k (by omega) ⟨rfl, rfl⟩) ?_; simp only [Kon, push_cast, reduceIte, Nat.reduceEqDiff, Nat.reduceAdd, Nat.reduceMul, Nat.reduceSub, Nat.reduceLT, Nat.reduceLeDiff, Int.reduceLT, Int.reduceLE, Int.reduceAdd, Int.reduceSub, Int.reduceNeg, Int.reduceToNat, Int.reduceEq, reduceCtorEq, *])
    | refine AW_condT rfl ?_
    | refine AW_condF rfl ?_
    | refine AW_condAny rfl ?_ ?_
    | refine AW_condB rfl (fun _ => ?_) (fun _ => ?_)
    | refine AW_condN rfl (fun _ => ?_) (fun _ => ?_)
    | (refine ite_introN (fun _ => ?_) (fun _ => ?_) <;> try simp only [Kon, push_cast, reduceIte, Nat.reduceEqDiff, Nat.reduceAdd, Nat.reduceMul, Nat.reduceSub, Nat.reduceLT, Nat.reduceLeDiff, Int.reduceLT, Int.reduceLE, Int.reduceAdd, Int.reduceSub, Int.reduceNeg, Int.reduceToNat, Int.reduceEq, reduceCtorEq, *])
    | (refine ite_intro (fun _ => ?_) (fun _ => ?_) <;> try simp only [Kon, push_cast, reduceIte, Nat.reduceEqDiff, Nat.reduceAdd, Nat.reduceMul, Nat.reduceSub, Nat.reduceLT, Nat.reduceLeDiff, Int.reduceLT, Int.reduceLE, Int.reduceAdd, Int.reduceSub, Int.reduceNeg, Int.reduceToNat, Int.reduceEq, reduceCtorEq, *])
    | refine And.intro trivial ?_
    | refine And.intro (by omega) ?_
    | refine AW_block ?_
    | (refine AW_skip ?_; simp only [push_cast, reduceIte, Nat.reduceEqDiff, Nat.reduceAdd, Nat.reduceMul, Nat.reduceSub, Nat.reduceLT, Nat.reduceLeDiff, Int.reduceLT, Int.reduceLE, Int.reduceAdd, Int.reduceSub, Int.reduceNeg, Int.reduceToNat, Int.reduceEq, reduceCtorEq])
    | (refine AW_exit ?_; simp only [push_cast, reduceIte, Nat.reduceEqDiff, Nat.reduceAdd, Nat.reduceMul, Nat.reduceSub, Nat.reduceLT, Nat.reduceLeDiff, Int.reduceLT, Int.reduceLE, Int.reduceAdd, Int.reduceSub, Int.reduceNeg, Int.reduceToNat, Int.reduceEq, reduceCtorEq])
    | (refine AW_ret (Back_retR ?_); simp only [push_cast, reduceIte, Nat.reduceEqDiff, Nat.reduceAdd, Nat.reduceMul, Nat.reduceSub, Nat.reduceLT, Nat.reduceLeDiff, Int.reduceLT, Int.reduceLE, Int.reduceAdd, Int.reduceSub, Int.reduceNeg, Int.reduceToNat, Int.reduceEq, reduceCtorEq, *])
    | refine AW_cond rfl (fun _ => ?_) (fun _ => ?_)
    | refine And.intro ?_ ?_
  any_goals exact Fin_pure rfl h.out
  have hfl : (fs.length : Int) ≤ 300 := by omega
  refine AW_frzB (L.length + 2) (by rw [getAppK]; rfl) ?_
  rw [setAppK]
  simp only [List.set_cons_succ, List.set_cons_zero, AV.frzL, AV.frz, frzL_ints]
  refine AW_refs fun hrf => ?_
  have hL0 : ∀ k ∈ L, k.refs (fun i => decide (i < L.length + 4)) = true := fun k hk => by
    have := hrf k (by simp [hk])
    simpa using this
  clear hrf
  replace hL0 := hid hL0
  refine AW_loopT (fun n T' L' => ∃ (k m : Nat) (fs : List Int) (cap : Option Nat) (lk ch : Int), n = ts.length - k ∧ k ≤ ts.length ∧ fs.length ≤ 300 + k ∧ T' = [(47, .int .i64 (k : Int)), (46, .int .i64 ts.length), (45, .sl (tryC ts) ts.length cap'), (7, .ptr (L.length + 2) 0), (4, .ptr (L.length + 1) 0), (3, .ptr L.length 0), (6, .bool false)] ∧
    L' = L ++ [.cells [.int .i64 pf, .int .i64 pw, .int .i64 pl, .int .i64 pa], .cells [.sl (ints fs) fs.length cap, .int .i64 lk, .int .i64 ch], .cells [.sl (ints fs) fs.length none, .int .i64 lk, .int .i64 ch], .spare m 1]) (Cut_same (by repeat' first | exact SubT_nil | refine SubT_cons rfl rfl ?_ | refine SubT_consF rfl rfl ?_) (Nat.le_refl _)) ⟨0, _, fs, cap, lk, ch, rfl, Nat.zero_le _, by omega, rfl, rfl⟩ ?_
  clear hfl
  rintro _ _ _ ⟨k, m, fs, cap, lk, ch, rfl, hk, hf, rfl, rfl⟩
  by_cases hlt : k < ts.length
  · have h1 : (k : Int) < (ts.length : Int) := by omega
    have h2 : IntKind.i64.wrap ((k : Int) + 1) = (k : Int) + 1 := wrap64_in (by omega) (by omega)
    have hlen := tryC_len ts
    have htk := tryC_at ts k hlt
    have hgl := @tryR_len pf pw pl pa fs lk ch (ts.getD k (0, false)).1 (ts.getD k (0, false)).2
    obtain ⟨r, hr⟩ : ∃ r, tryR pf pw pl pa fs lk ch (ts.getD k (0, false)).1 (ts.getD k (0, false)).2 = r := ⟨_, rfl⟩
    rw [hr] at hgl
    obtain ⟨⟨gs, lk', ch'⟩, code⟩ := r
    simp only at hgl
    repeat' first
      | refine AW_seq ?_
      | (refine AW_region ?_; simp only [resT, stA, decide_true, eq_self, Kon, push_cast, reduceIte, Nat.reduceEqDiff, Nat.reduceAdd, Nat.reduceMul, Nat.reduceSub, Nat.reduceLT, Nat.reduceLeDiff, Int.reduceLT, Int.reduceLE, Int.reduceAdd, Int.reduceSub, Int.reduceNeg, Int.reduceToNat, Int.reduceEq, reduceCtorEq, *])
      | (refine AW_dreg ?_; simp only [resT, stA, decide_true, eq_self, Kon, push_cast, reduceIte, Nat.reduceEqDiff, Nat.reduceAdd, Nat.reduceMul, Nat.reduceSub, Nat.reduceLT, Nat.reduceLeDiff, Int.reduceLT, Int.reduceLE, Int.reduceAdd, Int.reduceSub, Int.reduceNeg, Int.reduceToNat, Int.reduceEq, reduceCtorEq, *])
      | (refine AW_block ?_)
      | (refine to_k (refs_ints _) ?_; simp only [resT, stA, decide_true, eq_self, Kon, push_cast, reduceIte, Nat.reduceEqDiff, Nat.reduceAdd, Nat.reduceMul, Nat.reduceSub, Nat.reduceLT, Nat.reduceLeDiff, Int.reduceLT, Int.reduceLE, Int.reduceAdd, Int.reduceSub, Int.reduceNeg, Int.reduceToNat, Int.reduceEq, reduceCtorEq, *])
      | (refine try_k (by omega) ?_; simp only [resT, stA, decide_true, eq_self, Kon, push_cast, reduceIte, Nat.reduceEqDiff, Nat.reduceAdd, Nat.reduceMul, Nat.reduceSub, Nat.reduceLT, Nat.reduceLeDiff, Int.reduceLT, Int.reduceLE, Int.reduceAdd, Int.reduceSub, Int.reduceNeg, Int.reduceToNat, Int.reduceEq, reduceCtorEq, *])
      | (refine rtry_k (by omega) ?_; simp only [resT, stA, decide_true, eq_self, Kon, push_cast, reduceIte, Nat.reduceEqDiff, Nat.reduceAdd, Nat.reduceMul, Nat.reduceSub, Nat.reduceLT, Nat.reduceLeDiff, Int.reduceLT, Int.reduceLE, Int.reduceAdd, Int.reduceSub, Int.reduceNeg, Int.reduceToNat, Int.reduceEq, reduceCtorEq, *])
      | (refine same_k (by omega) ?_; simp only [resT, stA, decide_true, eq_self, Kon, push_cast, reduceIte, Nat.reduceEqDiff, Nat.reduceAdd, Nat.reduceMul, Nat.reduceSub, Nat.reduceLT, Nat.reduceLeDiff, Int.reduceLT, Int.reduceLE, Int.reduceAdd, Int.reduceSub, Int.reduceNeg, Int.reduceToNat, Int.reduceEq, reduceCtorEq, *])
      | (refine sameg_k (by omega) ?_; simp only [resT, stA, decide_true, eq_self, Kon, push_cast, reduceIte, Nat.reduceEqDiff, Nat.reduceAdd, Nat.reduceMul, Nat.reduceSub, Nat.reduceLT, Nat.reduceLeDiff, Int.reduceLT, Int.reduceLE, Int.reduceAdd, Int.reduceSub, Int.reduceNeg, Int.reduceToNat, Int.reduceEq, reduceCtorEq, *])
      | (refine CalK2_mk (to_k (refs_ints _) ⟨rfl, rfl⟩) (to_k (refs_ints _) ⟨rfl, rfl⟩) ?_; simp only [resT, stA, decide_true, eq_self, Kon, push_cast, reduceIte, Nat.reduceEqDiff, Nat.reduceAdd, Nat.reduceMul, Nat.reduceSub, Nat.reduceLT, Nat.reduceLeDiff, Int.reduceLT, Int.reduceLE, Int.reduceAdd, Int.reduceSub, Int.reduceNeg, Int.reduceToNat, Int.reduceEq, reduceCtorEq, *])
      | (refine CalK2_mk (try_k (by omega) ⟨rfl, rfl⟩) (try_k (by omega) ⟨rfl, rfl⟩) ?_; simp only [resT, stA, decide_true, eq_self, Kon, push_cast, reduceIte, Nat.reduceEqDiff, Nat.reduceAdd, Nat.reduceMul, Nat.reduceSub, Nat.reduceLT, Nat.reduceLeDiff, Int.reduceLT, Int.reduceLE, Int.reduceAdd, Int.reduceSub, Int.reduceNeg, Int.reduceToNat, Int.reduceEq, reduceCtorEq, *])
      | (refine CalK2_mk (rtry_k (by omega) ⟨rfl, rfl⟩) (rtry_k (by omega) ⟨rfl, rfl⟩) ?_; simp only [resT, stA, decide_true, eq_self, Kon, push_cast, reduceIte, Nat.reduceEqDiff, Nat.reduceAdd, Nat.reduceMul, Nat.reduceSub, Nat.reduceLT, Nat.reduceLeDiff, Int.reduceLT, Int.reduceLE, Int.reduceAdd, Int.reduceSub, Int.reduceNeg, Int.reduceToNat, Int.reduceEq, reduceCtorEq, *])
      | (refine CalK2_mk (same_k (by omega) ⟨rfl, rfl⟩) (same_k (by omega) ⟨rfl, rfl⟩) ?_; simp only [resT, stA, decide_true, eq_self, Kon, push_cast, reduceIte, Nat.reduceEqDiff, Nat.reduceAdd, Nat.reduceMul, Nat.reduceSub, Nat.reduceLT, Nat.reduceLeDiff, Int.reduceLT, Int.reduceLE, Int.reduceAdd, Int.reduceSub, Int.reduceNeg, Int.reduceToNat, Int.reduceEq, reduceCtorEq, *])
      | (refine CalK2_mk (sameg_k (by omega) ⟨rfl, rfl⟩) (sameg_k (by omega) ⟨rfl, rfl⟩) ?_; simp only [resT, stA, decide_true, eq_self, Kon, push_cast, reduceIte, Nat.reduceEqDiff, Nat.reduceAdd, Nat.reduceMul, Nat.reduceSub, Nat.reduceLT, Nat.reduceLeDiff, Int.reduceLT, Int.reduceLE, Int.reduceAdd, Int.reduceSub, Int.reduceNeg, Int.reduceToNat, Int.reduceEq, reduceCtorEq, *])
      | (refine CalK_mk (to_k (refs_ints _) ⟨rfl, rfl⟩) ?_; simp only [resT, stA, decide_true, eq_self, Kon, push_cast, reduceIte, Nat.reduceEqDiff, Nat.reduceAdd, Nat.reduceMul, Nat.reduceSub, Nat.reduceLT, Nat.reduceLeDiff, Int.reduceLT, Int.reduceLE, Int.reduceAdd, Int.reduceSub, Int.reduceNeg, Int.reduceToNat, Int.reduceEq, reduceCtorEq, *])
      | (refine CalK_mk (try_k (by omega) ⟨rfl, rfl⟩) ?_; simp only [resT, stA, decide_true, eq_self, Kon, push_cast, reduceIte, Nat.reduceEqDiff, Nat.reduceAdd, Nat.reduceMul, Nat.reduceSub, Nat.reduceLT, Nat.reduceLeDiff, Int.reduceLT, Int.reduceLE, Int.reduceAdd, Int.reduceSub, Int.reduceNeg, Int.reduceToNat, Int.reduceEq, reduceCtorEq, *])
      | (refine CalK_mk (rtry_k (by omega) ⟨rfl, rfl⟩) ?_; simp only [resT, stA, decide_true, eq_self, Kon, push_cast, reduceIte, Nat.reduceEqDiff, Nat.reduceAdd, Nat.reduceMul, Nat.reduceSub, Nat.reduceLT, Nat.reduceLeDiff, Int.reduceLT, Int.reduceLE, Int.reduceAdd, Int.reduceSub, Int.reduceNeg, Int.reduceToNat, Int.reduceEq, reduceCtorEq, *])
      | (refine CalK_mk (same_k (by omega) ⟨rfl, rfl⟩) ?_; simp only [resT, stA, decide_true, eq_self, Kon, push_cast, reduceIte, Nat.reduceEqDiff, Nat.reduceAdd, Nat.reduceMul, Nat.reduceSub, Nat.reduceLT, Nat.reduceLeDiff, Int.reduceLT, Int.reduceLE, Int.reduceAdd, Int.reduceSub, Int.reduceNeg, Int.reduceToNat, Int.reduceEq, reduceCtorEq, *])
      | (refine CalK_mk (sameg_k (by omega) ⟨rfl, rfl⟩) ?_; simp only [resT, stA, decide_true, eq_self, Kon, push_cast, reduceIte, Nat.reduceEqDiff, Nat.reduceAdd, Nat.reduceMul, Nat.reduceSub, Nat.reduceLT, Nat.reduceLeDiff, Int.reduceLT, Int.reduceLE, Int.reduceAdd, Int.reduceSub, Int.reduceNeg, Int.reduceToNat, Int.reduceEq, reduceCtorEq, *])
      | refine AW_condT rfl ?_
      | refine AW_condF rfl ?_
      | refine AW_condAny rfl ?_ ?_
      | refine AW_condB rfl (fun _ => ?_) (fun _ => ?_)
      | refine AW_condN rfl (fun _ => ?_) (fun _ => ?_)
      | (refine ite_introN (fun _ => ?_) (fun _ => ?_) <;> try simp only [resT, stA, decide_true, eq_self, Kon, push_cast, reduceIte, Nat.reduceEqDiff, Nat.reduceAdd, Nat.reduceMul, Nat.reduceSub, Nat.reduceLT, Nat.reduceLeDiff, Int.reduceLT, Int.reduceLE, Int.reduceAdd, Int.reduceSub, Int.reduceNeg, Int.reduceToNat, Int.reduceEq, reduceCtorEq, *])
      | (refine ite_intro (fun _ => ?_) (fun _ => ?_) <;> try simp only [resT, stA, decide_true, eq_self, Kon, push_cast, reduceIte, Nat.reduceEqDiff, Nat.reduceAdd, Nat.reduceMul, Nat.reduceSub, Nat.reduceLT, Nat.reduceLeDiff, Int.reduceLT, Int.reduceLE, Int.reduceAdd, Int.reduceSub, Int.reduceNeg, Int.reduceToNat, Int.reduceEq, reduceCtorEq, *])
      | refine And.intro trivial ?_
      | refine And.intro (by omega) ?_
      | refine AW_block ?_
      | (refine AW_skip ?_; simp only [push_cast, reduceIte, Nat.reduceEqDiff, Nat.reduceAdd, Nat.reduceMul, Nat.reduceSub, Nat.reduceLT, Nat.reduceLeDiff, Int.reduceLT, Int.reduceLE, Int.reduceAdd, Int.reduceSub, Int.reduceNeg, Int.reduceToNat, Int.reduceEq, reduceCtorEq])
      | (refine AW_exit ?_; simp only [push_cast, reduceIte, Nat.reduceEqDiff, Nat.reduceAdd, Nat.reduceMul, Nat.reduceSub, Nat.reduceLT, Nat.reduceLeDiff, Int.reduceLT, Int.reduceLE, Int.reduceAdd, Int.reduceSub, Int.reduceNeg, Int.reduceToNat, Int.reduceEq, reduceCtorEq])
      | (refine AW_ret (Back_retR ?_); simp only [push_cast, reduceIte, Nat.reduceEqDiff, Nat.reduceAdd, Nat.reduceMul, Nat.reduceSub, Nat.reduceLT, Nat.reduceLeDiff, Int.reduceLT, Int.reduceLE, Int.reduceAdd, Int.reduceSub, Int.reduceNeg, Int.reduceToNat, Int.reduceEq, reduceCtorEq, *])
      | refine AW_cond rfl (fun _ => ?_) (fun _ => ?_)
      | refine And.intro ?_ ?_
    rw [show ∀ (a b c d e f g h : Blk), L ++ [a, b, c, d, e, f, g, h] = (L ++ [a, b, c, d]) ++ [e, f, g, h] from by simp]
    refine Nxt_mk _ _ _ (by omega) (Cut_drop (by repeat' first | exact SubT_nil | refine SubT_cons rfl rfl ?_ | refine SubT_consF rfl rfl ?_) (by simp) (by simp [AV.refs, tryC_refs]) (fun b hb => ?_)) ⟨k + 1, m, gs, none, lk', ch', rfl, hlt, by omega, rfl, rfl⟩
    rw [List.length_append]
    rcases List.mem_append.1 hb with h5 | h5
    · exact hL0.out b h5
    · simp only [List.mem_cons, List.not_mem_nil, or_false] at h5
      rcases h5 with rfl | rfl | rfl | rfl <;> simp [Blk.refs, AV.refs, AV.refsL, refs_ints]
  · have h1 : ¬ (k : Int) < (ts.length : Int) := by omega
    repeat' first
      | refine AW_seq ?_
      | (refine AW_region ?_; simp only [Kon, push_cast, reduceIte, Nat.reduceEqDiff, Nat.reduceAdd, Nat.reduceMul, Nat.reduceSub, Nat.reduceLT, Nat.reduceLeDiff, Int.reduceLT, Int.reduceLE, Int.reduceAdd, Int.reduceSub, Int.reduceNeg, Int.reduceToNat, Int.reduceEq, reduceCtorEq, *])
      | (refine AW_dreg ?_; simp only [Kon, push_cast, reduceIte, Nat.reduceEqDiff, Nat.reduceAdd, Nat.reduceMul, Nat.reduceSub, Nat.reduceLT, Nat.reduceLeDiff, Int.reduceLT, Int.reduceLE, Int.reduceAdd, Int.reduceSub, Int.reduceNeg, Int.reduceToNat, Int.reduceEq, reduceCtorEq, *])
      | (refine AW_block ?_)
      | (refine awake_k ?_; simp only [Kon, push_cast, reduceIte, Nat.reduceEqDiff, Nat.reduceAdd, Nat.reduceMul, Nat.reduceSub, Nat.reduceLT, Nat.reduceLeDiff, Int.reduceLT, Int.reduceLE, Int.reduceAdd, Int.reduceSub, Int.reduceNeg, Int.reduceToNat, Int.reduceEq, reduceCtorEq, *])
      | (refine CalK2_mk (awake_k ⟨rfl, rfl⟩) (awake_k ⟨rfl, rfl⟩) ?_; simp only [Kon, push_cast, reduceIte, Nat.reduceEqDiff, Nat.reduceAdd, Nat.reduceMul, Nat.reduceSub, Nat.reduceLT, Nat.reduceLeDiff, Int.reduceLT, Int.reduceLE, Int.reduceAdd, Int.reduceSub, Int.reduceNeg, Int.reduceToNat, Int.reduceEq, reduceCtorEq, *])
      | (refine CalK_mk (awake_k ⟨rfl, rfl⟩) ?_; simp only [Kon, push_cast, reduceIte, Nat.reduceEqDiff, Nat.reduceAdd, Nat.reduceMul, Nat.reduceSub, Nat.reduceLT, Nat.reduceLeDiff, Int.reduceLT, Int.reduceLE, Int.reduceAdd, Int.reduceSub, Int.reduceNeg, Int.reduceToNat, Int.reduceEq, reduceCtorEq, *])
      | refine AW_condT rfl ?_
      | refine AW_condF rfl ?_
      | refine AW_condAny rfl ?_ ?_
      | refine AW_condB rfl (fun _ => ?_) (fun _ => ?_)
      | refine AW_condN rfl (fun _ => ?_) (fun _ => ?_)
      | (refine ite_introN (fun _ => ?_) (fun _ => ?_) <;> try simp only [Kon, push_cast, reduceIte, Nat.reduceEqDiff, Nat.reduceAdd, Nat.reduceMul, Nat.reduceSub, Nat.reduceLT, Nat.reduceLeDiff, Int.reduceLT, Int.reduceLE, Int.reduceAdd, Int.reduceSub, Int.reduceNeg, Int.reduceToNat, Int.reduceEq, reduceCtorEq, *])
      | (refine ite_intro (fun _ => ?_) (fun _ => ?_) <;> try simp only [Kon, push_cast, reduceIte, Nat.reduceEqDiff, Nat.reduceAdd, Nat.reduceMul, Nat.reduceSub, Nat.reduceLT, Nat.reduceLeDiff, Int.reduceLT, Int.reduceLE, Int.reduceAdd, Int.reduceSub, Int.reduceNeg, Int.reduceToNat, Int.reduceEq, reduceCtorEq, *])
      | refine And.intro trivial ?_
      | refine And.intro (by omega) ?_
      | refine AW_block ?_
      | (refine AW_skip ?_; simp only [push_cast, reduceIte, Nat.reduceEqDiff, Nat.reduceAdd, Nat.reduceMul, Nat.reduceSub, Nat.reduceLT, Nat.reduceLeDiff, Int.reduceLT, Int.reduceLE, Int.reduceAdd, Int.reduceSub, Int.reduceNeg, Int.reduceToNat, Int.reduceEq, reduceCtorEq])
      | (refine AW_exit ?_; simp only [push_cast, reduceIte, Nat.reduceEqDiff, Nat.reduceAdd, Nat.reduceMul, Nat.reduceSub, Nat.reduceLT, Nat.reduceLeDiff, Int.reduceLT, Int.reduceLE, Int.reduceAdd, Int.reduceSub, Int.reduceNeg, Int.reduceToNat, Int.reduceEq, reduceCtorEq])
      | (refine AW_ret (Back_retR ?_); simp only [push_cast, reduceIte, Nat.reduceEqDiff, Nat.reduceAdd, Nat.reduceMul, Nat.reduceSub, Nat.reduceLT, Nat.reduceLeDiff, Int.reduceLT, Int.reduceLE, Int.reduceAdd, Int.reduceSub, Int.reduceNeg, Int.reduceToNat, Int.reduceEq, reduceCtorEq, *])
      | refine AW_cond rfl (fun _ => ?_) (fun _ => ?_)
      | refine And.intro ?_ ?_
    all_goals exact Fin_pure rfl h.out
end Go.Proofs.Ytafghkbedkjpmaa.Av
