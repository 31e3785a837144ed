import Derived.Test.YtafghkbedkjpmaaDoorCodeB
import Derived.Test.YtafghkbedkjpmaaDoorAvLf
import Derived.Test.YtafghkbedkjpmaaDoorModA
import Derived.Test.YtafghkbedkjpmaaDoorShelf
set_option linter.unusedSimpArgs false
set_option linter.unusedVariables false
namespace Go.Proofs.YtafghkbedkjpmaaDoor.Av
open Go
set_option maxHeartbeats 8000000
set_option maxRecDepth 100000

theorem pow_glob : globOf 0 = some (Lib.pow10Tab.map (AV.int .u64)) := by rfl
theorem pow_named : Tryd.prog.globalNamed "internal/strconv.uint64pow10" = some 0 := by kernel_rfl

theorem fmt_k {n : Int} (h0 : -9223372036854775808 ≤ n) (h1 : n ≤ 9223372036854775807) {L : List Blk} {K : AV → List Blk → Prop} (h : K (.str (Lib.itoa n)) L) : ACall Tryd.prog 15 [.int .i64 n, .int .i64 10] L K :=
  ACall_lift Tryd.func15 rfl (by kernel_rfl) (fun w0 S0 E w vs hR hv => by
    simp only [VRL, VR] at hv
    obtain ⟨_, _, rfl, rfl, _, _, rfl, rfl, rfl⟩ := hv
    refine (Tryd.strconv_FormatInt_10 n h0 h1 w (hR.table pow_named pow_glob (by simp [Lib.pow10Tab]))).mono fun e w' ⟨he, k, os, hw⟩ => ⟨_, he, by simp [VR], by subst hw; exact Grew.of_grow w k os⟩) h

theorem itoa_k {n : Int} (h0 : -9223372036854775808 ≤ n) (h1 : n ≤ 9223372036854775807) {L : List Blk} {K : AV → List Blk → Prop} (h : K (.str (Lib.itoa n)) L) : ACall Tryd.prog 16 [.int .i64 n] L K :=
  ACall_lift Tryd.func16 rfl (by kernel_rfl) (fun w0 S0 E w vs hR hv => by
    simp only [VRL, VR] at hv
    obtain ⟨_, _, rfl, rfl, rfl⟩ := hv
    refine (Tryd.strconv_Itoa n h0 h1 w (hR.table pow_named pow_glob (by simp [Lib.pow10Tab]))).mono fun e w' ⟨he, k, os, hw⟩ => ⟨_, he, by simp [VR], by subst hw; exact Grew.of_grow w k os⟩) h

theorem byte_dig {m : Int} (h0 : 0 ≤ m) (h : m < 10) : IntKind.u8.wrap (IntKind.i64.wrap (48 + m)) = 48 + m := by
  rw [wrap64_in (by omega) (by omega), wrapU8_in (by omega) (by omega)]
theorem u8_dig {m : Int} (h0 : 0 ≤ m) (h : m < 10) : u8of (.int .u8 (48 + m)) = UInt8.ofNat (48 + m.toNat) := by
  simp only [u8of]; congr 1; omega

theorem decimal_k {n : Int} (h0 : 0 ≤ n) (h1 : n ≤ 9223372036854775807) {L : List Blk} {K : AV → List Blk → Prop} (h : K (.str (Lib.itoa n)) L) : ACall Tryd.prog 17 [.int .i64 n] L K := by
  replace h := hid h
  refine ACall_fn c_ref23_Decimal_eq (by simp [c_ref23_Decimal]) ?_
  simp only [c_ref23_Decimal, initT]
  repeat' first
    | refine AW_seq ?_
    | (first | refine AW_sreg (by kernel_rfl) ?_ | refine AW_sdreg (by kernel_rfl) ?_ | refine AW_dregM ?_ | refine Nx_in ?_ | refine NxI_in (fun _ => ?_) | refine AW_region ?_ | refine AW_dreg ?_)
      simp (config := { maxSteps := 2000000 }) only [Kon, push_cast, reduceIte, Nat.reduceEqDiff, Nat.reduceAdd, Nat.reduceMul, Nat.reduceSub, Nat.reduceLT, Nat.reduceLeDiff, Int.reduceLT, Int.reduceLE, Int.reduceAdd, Int.reduceSub, Int.reduceNeg, Int.reduceToNat, Int.reduceEq, reduceCtorEq, *]
    | (first | refine SelK_mk (by kernel_rfl) ?_ | refine AW_skip ?_ | refine AW_exit ?_ | refine AW_ret (Back_retR ?_))
      simp only [push_cast, reduceIte, Nat.reduceEqDiff, Nat.reduceAdd, Nat.reduceMul, Nat.reduceSub, Nat.reduceLT, Nat.reduceLeDiff, Int.reduceLT, Int.reduceLE, Int.reduceAdd, Int.reduceSub, Int.reduceNeg, Int.reduceToNat, Int.reduceEq, reduceCtorEq, *]
    | exact IsB_mk
    | first | apply GQ_mkT | apply GQ_mkTN | apply GQ_mkF | apply GQ_mkFN | apply GQ_mkB | apply GQ_mkBF
    | refine AW_block ?_
    | first | refine AW_condT rfl ?_ | refine AW_condF rfl ?_ | refine AW_condAny rfl ?_ ?_ | refine AW_condB rfl (fun _ => ?_) (fun _ => ?_) | refine AW_condN rfl (fun _ => ?_) (fun _ => ?_)
    | ((first | refine ite_introN (fun _ => ?_) (fun _ => ?_) | refine ite_intro (fun _ => ?_) (fun _ => ?_)) <;> try simp (config := { maxSteps := 2000000 }) only [Kon, push_cast, reduceIte, Nat.reduceEqDiff, Nat.reduceAdd, Nat.reduceMul, Nat.reduceSub, Nat.reduceLT, Nat.reduceLeDiff, Int.reduceLT, Int.reduceLE, Int.reduceAdd, Int.reduceSub, Int.reduceNeg, Int.reduceToNat, Int.reduceEq, reduceCtorEq, *])
    | refine And.intro trivial ?_
    | refine And.intro (by omega) ?_
    | refine AW_cond rfl (fun _ => ?_) (fun _ => ?_)
    | refine And.intro ?_ ?_
  refine AW_loopT (fun m T' L' => ∃ (s : List UInt8), 0 ≤ (m : Int) ∧ (m : Int) ≤ 9223372036854775807 ∧ Lib.itoa n = Lib.itoa (m : Int) ++ s ∧ T' = [(3, .str s), (0, .int .i64 (m : Int))] ∧ L' = L) (n0 := n.toNat) (T0 := [(3, .str []), (0, .int .i64 (n.toNat : Int))]) (L0 := L) ?_ ⟨[], by omega, by omega, by simp; congr 1; omega, rfl, rfl⟩ ?_
  · rw [show ((n.toNat : Nat) : Int) = n by omega]
    exact Cut_same (by repeat' first | exact SubT_nil | refine SubT_cons rfl rfl ?_ | refine SubT_consF rfl rfl ?_) (Nat.le_refl _)
  rintro m _ _ ⟨s, g0, g1, g2, rfl, rfl⟩
  have hlen := itoa_len h0 h1
  rw [g2, List.length_append] at hlen
  replace g2 := hid g2
  by_cases hb : 10 ≤ (m : Int)
  · have h2 : Int.tmod (m : Int) 10 = (m : Int) % 10 := Int.tmod_eq_emod_of_nonneg (by omega)
    have h3 : IntKind.i64.wrap (Int.tdiv (m : Int) 10) = ((m / 10 : Nat) : Int) := by
      rw [Int.tdiv_eq_ediv_of_nonneg (by omega), wrap64_in (by omega) (by omega)]; omega
    have h4 := byte_dig (m := (m : Int) % 10) (by omega) (by omega)
    have h5 := u8_dig (m := (m : Int) % 10) (by omega) (by omega)
    have h6 := hid (itoa_big hb)
    repeat' first
      | refine AW_seq ?_
      | (first | refine AW_sreg (by kernel_rfl) ?_ | refine AW_sdreg (by kernel_rfl) ?_ | refine AW_dregM ?_ | refine Nx_in ?_ | refine NxI_in (fun _ => ?_) | refine AW_region ?_ | refine AW_dreg ?_)
        simp (config := { maxSteps := 2000000 }) only [Kon, push_cast, reduceIte, Nat.reduceEqDiff, Nat.reduceAdd, Nat.reduceMul, Nat.reduceSub, Nat.reduceLT, Nat.reduceLeDiff, Int.reduceLT, Int.reduceLE, Int.reduceAdd, Int.reduceSub, Int.reduceNeg, Int.reduceToNat, Int.reduceEq, reduceCtorEq, *]
      | (first | refine SelK_mk (by kernel_rfl) ?_ | refine AW_skip ?_ | refine AW_exit ?_ | refine AW_ret (Back_retR ?_))
        simp only [push_cast, reduceIte, Nat.reduceEqDiff, Nat.reduceAdd, Nat.reduceMul, Nat.reduceSub, Nat.reduceLT, Nat.reduceLeDiff, Int.reduceLT, Int.reduceLE, Int.reduceAdd, Int.reduceSub, Int.reduceNeg, Int.reduceToNat, Int.reduceEq, reduceCtorEq, *]
      | exact IsB_mk
      | first | apply GQ_mkT | apply GQ_mkTN | apply GQ_mkF | apply GQ_mkFN | apply GQ_mkB | apply GQ_mkBF
      | refine AW_block ?_
      | first | refine AW_condT rfl ?_ | refine AW_condF rfl ?_ | refine AW_condAny rfl ?_ ?_ | refine AW_condB rfl (fun _ => ?_) (fun _ => ?_) | refine AW_condN rfl (fun _ => ?_) (fun _ => ?_)
      | ((first | refine ite_introN (fun _ => ?_) (fun _ => ?_) | refine ite_intro (fun _ => ?_) (fun _ => ?_)) <;> try simp (config := { maxSteps := 2000000 }) only [Kon, push_cast, reduceIte, Nat.reduceEqDiff, Nat.reduceAdd, Nat.reduceMul, Nat.reduceSub, Nat.reduceLT, Nat.reduceLeDiff, Int.reduceLT, Int.reduceLE, Int.reduceAdd, Int.reduceSub, Int.reduceNeg, Int.reduceToNat, Int.reduceEq, reduceCtorEq, *])
      | refine And.intro trivial ?_
      | refine And.intro (by omega) ?_
      | refine AW_cond rfl (fun _ => ?_) (fun _ => ?_)
      | refine And.intro ?_ ?_
    · rfl
    simp only [List.map_cons, List.map_nil, h5]
    refine Nxt_mk (m / 10) _ _ (by omega) (Cut_same (by repeat' first | exact SubT_nil | refine SubT_cons rfl rfl ?_ | refine SubT_consF rfl rfl ?_) (Nat.le_refl _)) ⟨[UInt8.ofNat (48 + ((m : Int) % 10).toNat)] ++ s, by omega, by omega, ?_, rfl, rfl⟩
    rw [g2.out, h6.out, List.append_assoc]; rfl
  · have h4 := byte_dig (m := (m : Int)) (by omega) (by omega)
    have h5 := u8_dig (m := (m : Int)) (by omega) (by omega)
    repeat' first
      | refine AW_seq ?_
      | (first | refine AW_sreg (by kernel_rfl) ?_ | refine AW_sdreg (by kernel_rfl) ?_ | refine AW_dregM ?_ | refine Nx_in ?_ | refine NxI_in (fun _ => ?_) | refine AW_region ?_ | refine AW_dreg ?_)
        simp (config := { maxSteps := 2000000 }) only [Kon, push_cast, reduceIte, Nat.reduceEqDiff, Nat.reduceAdd, Nat.reduceMul, Nat.reduceSub, Nat.reduceLT, Nat.reduceLeDiff, Int.reduceLT, Int.reduceLE, Int.reduceAdd, Int.reduceSub, Int.reduceNeg, Int.reduceToNat, Int.reduceEq, reduceCtorEq, *]
      | (first | refine SelK_mk (by kernel_rfl) ?_ | refine AW_skip ?_ | refine AW_exit ?_ | refine AW_ret (Back_retR ?_))
        simp only [push_cast, reduceIte, Nat.reduceEqDiff, Nat.reduceAdd, Nat.reduceMul, Nat.reduceSub, Nat.reduceLT, Nat.reduceLeDiff, Int.reduceLT, Int.reduceLE, Int.reduceAdd, Int.reduceSub, Int.reduceNeg, Int.reduceToNat, Int.reduceEq, reduceCtorEq, *]
      | exact IsB_mk
      | first | apply GQ_mkT | apply GQ_mkTN | apply GQ_mkF | apply GQ_mkFN | apply GQ_mkB | apply GQ_mkBF
      | refine AW_block ?_
      | first | refine AW_condT rfl ?_ | refine AW_condF rfl ?_ | refine AW_condAny rfl ?_ ?_ | refine AW_condB rfl (fun _ => ?_) (fun _ => ?_) | refine AW_condN rfl (fun _ => ?_) (fun _ => ?_)
      | ((first | refine ite_introN (fun _ => ?_) (fun _ => ?_) | refine ite_intro (fun _ => ?_) (fun _ => ?_)) <;> try simp (config := { maxSteps := 2000000 }) only [Kon, push_cast, reduceIte, Nat.reduceEqDiff, Nat.reduceAdd, Nat.reduceMul, Nat.reduceSub, Nat.reduceLT, Nat.reduceLeDiff, Int.reduceLT, Int.reduceLE, Int.reduceAdd, Int.reduceSub, Int.reduceNeg, Int.reduceToNat, Int.reduceEq, reduceCtorEq, *])
      | refine And.intro trivial ?_
      | refine And.intro (by omega) ?_
      | refine AW_cond rfl (fun _ => ?_) (fun _ => ?_)
      | refine And.intro ?_ ?_
    · rfl
    refine Fin_same ?_
    rw [show List.map u8of [AV.int IntKind.u8 (48 + (m : Int))] ++ s = Lib.itoa n by rw [g2.out, itoa_small (by omega) (by omega)]; simp only [List.map_cons, List.map_nil, h5]; try rfl]
    exact h.out

/-- A row of texts. -/
abbrev strs (l : List (List UInt8)) : List AV := l.map AV.str
theorem frzL_strs (l : List (List UInt8)) : AV.frzL (l.map AV.str) = l.map AV.str := by rw [AV.frzL_eq, List.map_map]; rfl
theorem refs_strs (p : Nat → Bool) : ∀ l : List (List UInt8), AV.refsL p (l.map AV.str) = true
  | [] => rfl
  | t :: ts => by have := refs_strs p ts; simpa [AV.refsL, AV.refs] using this

theorem mod0_k {name : List UInt8} {cap : Option Nat} {L : List Blk} {K : AV → List Blk → Prop} (h : K (.agg [.int .i64 2, .str name, .sl [] 0 (some 0)]) L) : ACall Tryd.prog 14 [.str name, .sl [] 0 cap] L K := by
  replace h := hid h
  refine ACall_fn c_policy_mod_eq (by simp [c_policy_mod]) ?_
  simp only [c_policy_mod, initT]
  repeat' first
    | refine AW_seq ?_
    | (first | refine AW_sreg (by kernel_rfl) ?_ | refine AW_sdreg (by kernel_rfl) ?_ | refine AW_dregM ?_ | refine Nx_in ?_ | refine NxI_in (fun _ => ?_) | refine AW_region ?_ | refine AW_dreg ?_)
      simp (config := { maxSteps := 2000000 }) only [Kon, push_cast, reduceIte, Nat.reduceEqDiff, Nat.reduceAdd, Nat.reduceMul, Nat.reduceSub, Nat.reduceLT, Nat.reduceLeDiff, Int.reduceLT, Int.reduceLE, Int.reduceAdd, Int.reduceSub, Int.reduceNeg, Int.reduceToNat, Int.reduceEq, reduceCtorEq, *]
    | (first | refine SelK_mk (by kernel_rfl) ?_ | refine AW_skip ?_ | refine AW_exit ?_ | refine AW_ret (Back_retR ?_))
      simp only [push_cast, reduceIte, Nat.reduceEqDiff, Nat.reduceAdd, Nat.reduceMul, Nat.reduceSub, Nat.reduceLT, Nat.reduceLeDiff, Int.reduceLT, Int.reduceLE, Int.reduceAdd, Int.reduceSub, Int.reduceNeg, Int.reduceToNat, Int.reduceEq, reduceCtorEq, *]
    | exact IsB_mk
    | first | apply GQ_mkT | apply GQ_mkTN | apply GQ_mkF | apply GQ_mkFN | apply GQ_mkB | apply GQ_mkBF
    | refine AW_block ?_
    | first | refine AW_condT rfl ?_ | refine AW_condF rfl ?_ | refine AW_condAny rfl ?_ ?_ | refine AW_condB rfl (fun _ => ?_) (fun _ => ?_) | refine AW_condN rfl (fun _ => ?_) (fun _ => ?_)
    | ((first | refine ite_introN (fun _ => ?_) (fun _ => ?_) | refine ite_intro (fun _ => ?_) (fun _ => ?_)) <;> try simp (config := { maxSteps := 2000000 }) only [Kon, push_cast, reduceIte, Nat.reduceEqDiff, Nat.reduceAdd, Nat.reduceMul, Nat.reduceSub, Nat.reduceLT, Nat.reduceLeDiff, Int.reduceLT, Int.reduceLE, Int.reduceAdd, Int.reduceSub, Int.reduceNeg, Int.reduceToNat, Int.reduceEq, reduceCtorEq, *])
    | refine And.intro trivial ?_
    | refine And.intro (by omega) ?_
    | refine AW_cond rfl (fun _ => ?_) (fun _ => ?_)
    | refine And.intro ?_ ?_
  refine AW_loopT (fun m T' L' => T' = [(12, .int .i64 0), (11, .int .i64 0), (5, .ptr (L.length + 1) 0), (4, .ptr L.length 0)] ∧ L' = L ++ [.cells [.int .i64 0, .str [], .sl [] 0 (some 0)], .cells [.int .i64 2, .str name, .sl [] 0 (some 0)]]) (n0 := 0) (Cut_same (by repeat' first | exact SubT_nil | refine SubT_cons rfl rfl ?_ | refine SubT_consF rfl rfl ?_) (by simp)) ⟨rfl, rfl⟩ ?_
  rintro _ _ _ ⟨rfl, rfl⟩
  repeat' first
    | refine AW_seq ?_
    | (first | refine AW_sreg (by kernel_rfl) ?_ | refine AW_sdreg (by kernel_rfl) ?_ | refine AW_dregM ?_ | refine Nx_in ?_ | refine NxI_in (fun _ => ?_) | refine AW_region ?_ | refine AW_dreg ?_)
      simp (config := { maxSteps := 2000000 }) only [Kon, push_cast, reduceIte, Nat.reduceEqDiff, Nat.reduceAdd, Nat.reduceMul, Nat.reduceSub, Nat.reduceLT, Nat.reduceLeDiff, Int.reduceLT, Int.reduceLE, Int.reduceAdd, Int.reduceSub, Int.reduceNeg, Int.reduceToNat, Int.reduceEq, reduceCtorEq, *]
    | (first | refine SelK_mk (by kernel_rfl) ?_ | refine AW_skip ?_ | refine AW_exit ?_ | refine AW_ret (Back_retR ?_))
      simp only [push_cast, reduceIte, Nat.reduceEqDiff, Nat.reduceAdd, Nat.reduceMul, Nat.reduceSub, Nat.reduceLT, Nat.reduceLeDiff, Int.reduceLT, Int.reduceLE, Int.reduceAdd, Int.reduceSub, Int.reduceNeg, Int.reduceToNat, Int.reduceEq, reduceCtorEq, *]
    | exact IsB_mk
    | first | apply GQ_mkT | apply GQ_mkTN | apply GQ_mkF | apply GQ_mkFN | apply GQ_mkB | apply GQ_mkBF
    | refine AW_block ?_
    | first | refine AW_condT rfl ?_ | refine AW_condF rfl ?_ | refine AW_condAny rfl ?_ ?_ | refine AW_condB rfl (fun _ => ?_) (fun _ => ?_) | refine AW_condN rfl (fun _ => ?_) (fun _ => ?_)
    | ((first | refine ite_introN (fun _ => ?_) (fun _ => ?_) | refine ite_intro (fun _ => ?_) (fun _ => ?_)) <;> try simp (config := { maxSteps := 2000000 }) only [Kon, push_cast, reduceIte, Nat.reduceEqDiff, Nat.reduceAdd, Nat.reduceMul, Nat.reduceSub, Nat.reduceLT, Nat.reduceLeDiff, Int.reduceLT, Int.reduceLE, Int.reduceAdd, Int.reduceSub, Int.reduceNeg, Int.reduceToNat, Int.reduceEq, reduceCtorEq, *])
    | refine And.intro trivial ?_
    | refine And.intro (by omega) ?_
    | refine AW_cond rfl (fun _ => ?_) (fun _ => ?_)
    | refine And.intro ?_ ?_
  refine Fin_pure ?_ h.out
  simp [AV.refs, AV.refsL]

theorem mod1_k {name : List UInt8} {n : Int} {cap : Option Nat} {L : List Blk} {K : AV → List Blk → Prop} (h0 : 0 ≤ n) (h1 : n ≤ 9223372036854775807) (h : K (.agg [.int .i64 2, .str name, .sl [.str (Lib.itoa n)] 1 none]) L) : ACall Tryd.prog 14 [.str name, .sl [.int .i64 n] 1 cap] L K := by
  replace h := hid h
  refine ACall_fn c_policy_mod_eq (by simp [c_policy_mod]) ?_
  simp only [c_policy_mod, initT]
  repeat' first
    | refine AW_seq ?_
    | (first | refine AW_sreg (by kernel_rfl) ?_ | refine AW_sdreg (by kernel_rfl) ?_ | refine AW_dregM ?_ | refine Nx_in ?_ | refine NxI_in (fun _ => ?_) | refine AW_region ?_ | refine AW_dreg ?_)
      simp (config := { maxSteps := 2000000 }) only [Kon, push_cast, reduceIte, Nat.reduceEqDiff, Nat.reduceAdd, Nat.reduceMul, Nat.reduceSub, Nat.reduceLT, Nat.reduceLeDiff, Int.reduceLT, Int.reduceLE, Int.reduceAdd, Int.reduceSub, Int.reduceNeg, Int.reduceToNat, Int.reduceEq, reduceCtorEq, *]
    | (first | refine SelK_mk (by kernel_rfl) ?_ | refine AW_skip ?_ | refine AW_exit ?_ | refine AW_ret (Back_retR ?_))
      simp only [push_cast, reduceIte, Nat.reduceEqDiff, Nat.reduceAdd, Nat.reduceMul, Nat.reduceSub, Nat.reduceLT, Nat.reduceLeDiff, Int.reduceLT, Int.reduceLE, Int.reduceAdd, Int.reduceSub, Int.reduceNeg, Int.reduceToNat, Int.reduceEq, reduceCtorEq, *]
    | exact IsB_mk
    | first | apply GQ_mkT | apply GQ_mkTN | apply GQ_mkF | apply GQ_mkFN | apply GQ_mkB | apply GQ_mkBF
    | refine AW_block ?_
    | first | refine AW_condT rfl ?_ | refine AW_condF rfl ?_ | refine AW_condAny rfl ?_ ?_ | refine AW_condB rfl (fun _ => ?_) (fun _ => ?_) | refine AW_condN rfl (fun _ => ?_) (fun _ => ?_)
    | ((first | refine ite_introN (fun _ => ?_) (fun _ => ?_) | refine ite_intro (fun _ => ?_) (fun _ => ?_)) <;> try simp (config := { maxSteps := 2000000 }) only [Kon, push_cast, reduceIte, Nat.reduceEqDiff, Nat.reduceAdd, Nat.reduceMul, Nat.reduceSub, Nat.reduceLT, Nat.reduceLeDiff, Int.reduceLT, Int.reduceLE, Int.reduceAdd, Int.reduceSub, Int.reduceNeg, Int.reduceToNat, Int.reduceEq, reduceCtorEq, *])
    | refine And.intro trivial ?_
    | refine And.intro (by omega) ?_
    | refine AW_cond rfl (fun _ => ?_) (fun _ => ?_)
    | refine And.intro ?_ ?_
  refine AW_loopT (fun m T' L' => (m = 1 ∧ T' = [(12, .int .i64 0), (11, .int .i64 1), (10, .sl [.int .i64 n] 1 cap), (5, .ptr (L.length + 1) 0), (4, .ptr L.length 0)] ∧ L' = L ++ [.cells [.int .i64 0, .str [], .sl [] 0 (some 0)], .cells [.int .i64 2, .str name, .sl [] 0 (some 0)]]) ∨
    ∃ i, m = 0 ∧ T' = [(12, .int .i64 1), (11, .int .i64 1), (10, .sl [.int .i64 n] 1 cap), (5, .ptr (L.length + 1) 0), (4, .ptr L.length 0)] ∧ L' = L ++ [.cells [.int .i64 0, .str [], .sl [] 0 (some 0)], .cells [.int .i64 2, .str name, .gsl [.str (Lib.itoa n)] 1 i 1], .spare 1 1]) (n0 := 1) (Cut_same (by repeat' first | exact SubT_nil | refine SubT_cons rfl rfl ?_ | refine SubT_consF rfl rfl ?_) (by simp)) (.inl ⟨rfl, rfl, rfl⟩) ?_
  rintro _ _ _ (⟨rfl, rfl, rfl⟩ | ⟨i, rfl, rfl, rfl⟩)
  · have hl := itoa_len h0 h1
    repeat' first
      | refine AW_seq ?_
      | (first | refine AW_sreg (by kernel_rfl) ?_ | refine AW_sdreg (by kernel_rfl) ?_ | refine AW_dregM ?_ | refine Nx_in ?_ | refine NxI_in (fun _ => ?_) | refine AW_region ?_ | refine AW_dreg ?_ | refine fmt_k (by omega) h1 ?_ | refine CalK2_mk (fmt_k (by omega) h1 ⟨rfl, rfl⟩) (fmt_k (by omega) h1 ⟨rfl, rfl⟩) ?_ | refine CalK_mk (fmt_k (by omega) h1 ⟨rfl, rfl⟩) ?_)
        simp (config := { maxSteps := 2000000 }) only [Kon, push_cast, reduceIte, Nat.reduceEqDiff, Nat.reduceAdd, Nat.reduceMul, Nat.reduceSub, Nat.reduceLT, Nat.reduceLeDiff, Int.reduceLT, Int.reduceLE, Int.reduceAdd, Int.reduceSub, Int.reduceNeg, Int.reduceToNat, Int.reduceEq, reduceCtorEq, *]
      | (first | refine SelK_mk (by kernel_rfl) ?_ | refine AW_skip ?_ | refine AW_exit ?_ | refine AW_ret (Back_retR ?_))
        simp only [push_cast, reduceIte, Nat.reduceEqDiff, Nat.reduceAdd, Nat.reduceMul, Nat.reduceSub, Nat.reduceLT, Nat.reduceLeDiff, Int.reduceLT, Int.reduceLE, Int.reduceAdd, Int.reduceSub, Int.reduceNeg, Int.reduceToNat, Int.reduceEq, reduceCtorEq, *]
      | exact IsB_mk
      | first | apply GQ_mkT | apply GQ_mkTN | apply GQ_mkF | apply GQ_mkFN | apply GQ_mkB | apply GQ_mkBF
      | refine AW_block ?_
      | first | refine AW_condT rfl ?_ | refine AW_condF rfl ?_ | refine AW_condAny rfl ?_ ?_ | refine AW_condB rfl (fun _ => ?_) (fun _ => ?_) | refine AW_condN rfl (fun _ => ?_) (fun _ => ?_)
      | ((first | refine ite_introN (fun _ => ?_) (fun _ => ?_) | refine ite_intro (fun _ => ?_) (fun _ => ?_)) <;> try simp (config := { maxSteps := 2000000 }) only [Kon, push_cast, reduceIte, Nat.reduceEqDiff, Nat.reduceAdd, Nat.reduceMul, Nat.reduceSub, Nat.reduceLT, Nat.reduceLeDiff, Int.reduceLT, Int.reduceLE, Int.reduceAdd, Int.reduceSub, Int.reduceNeg, Int.reduceToNat, Int.reduceEq, reduceCtorEq, *])
      | refine And.intro trivial ?_
      | refine And.intro (by omega) ?_
      | refine AW_cond rfl (fun _ => ?_) (fun _ => ?_)
      | refine And.intro ?_ ?_
    exact Nxt_mk 0 _ _ (by omega) (Cut_same (by repeat' first | exact SubT_nil | refine SubT_cons rfl rfl ?_ | refine SubT_consF rfl rfl ?_) (by simp)) (.inr ⟨_, rfl, rfl, rfl⟩)
  · repeat' first
      | refine AW_seq ?_
      | (first | refine AW_sreg (by kernel_rfl) ?_ | refine AW_sdreg (by kernel_rfl) ?_ | refine AW_dregM ?_ | refine Nx_in ?_ | refine NxI_in (fun _ => ?_) | refine AW_region ?_ | refine AW_dreg ?_)
        simp (config := { maxSteps := 2000000 }) only [Kon, push_cast, reduceIte, Nat.reduceEqDiff, Nat.reduceAdd, Nat.reduceMul, Nat.reduceSub, Nat.reduceLT, Nat.reduceLeDiff, Int.reduceLT, Int.reduceLE, Int.reduceAdd, Int.reduceSub, Int.reduceNeg, Int.reduceToNat, Int.reduceEq, reduceCtorEq, *]
      | (first | refine SelK_mk (by kernel_rfl) ?_ | refine AW_skip ?_ | refine AW_exit ?_ | refine AW_ret (Back_retR ?_))
        simp only [push_cast, reduceIte, Nat.reduceEqDiff, Nat.reduceAdd, Nat.reduceMul, Nat.reduceSub, Nat.reduceLT, Nat.reduceLeDiff, Int.reduceLT, Int.reduceLE, Int.reduceAdd, Int.reduceSub, Int.reduceNeg, Int.reduceToNat, Int.reduceEq, reduceCtorEq, *]
      | exact IsB_mk
      | first | apply GQ_mkT | apply GQ_mkTN | apply GQ_mkF | apply GQ_mkFN | apply GQ_mkB | apply GQ_mkBF
      | refine AW_block ?_
      | first | refine AW_condT rfl ?_ | refine AW_condF rfl ?_ | refine AW_condAny rfl ?_ ?_ | refine AW_condB rfl (fun _ => ?_) (fun _ => ?_) | refine AW_condN rfl (fun _ => ?_) (fun _ => ?_)
      | ((first | refine ite_introN (fun _ => ?_) (fun _ => ?_) | refine ite_intro (fun _ => ?_) (fun _ => ?_)) <;> try simp (config := { maxSteps := 2000000 }) only [Kon, push_cast, reduceIte, Nat.reduceEqDiff, Nat.reduceAdd, Nat.reduceMul, Nat.reduceSub, Nat.reduceLT, Nat.reduceLeDiff, Int.reduceLT, Int.reduceLE, Int.reduceAdd, Int.reduceSub, Int.reduceNeg, Int.reduceToNat, Int.reduceEq, reduceCtorEq, *])
      | refine And.intro trivial ?_
      | refine And.intro (by omega) ?_
      | refine AW_cond rfl (fun _ => ?_) (fun _ => ?_)
      | refine And.intro ?_ ?_
    refine Fin_frz (Fin_pure ?_ ?_)
    · simp [AV.frz, AV.frzL, AV.refs, AV.refsL]
    · simpa [AV.frz, AV.frzL] using h.out

/-- A list of modifications: names of numbers. -/
def modA (name : List UInt8) (vs : List (List UInt8)) : List AV := [.int .i64 2, .str name, .sl (strs vs) vs.length none]
def nChanged : List UInt8 := [112, 119, 100, 67, 104, 97, 110, 103, 101, 100]
def nFailure : List UInt8 := [112, 119, 100, 70, 97, 105, 108, 117, 114, 101]
def nLocked : List UInt8 := [112, 119, 100, 76, 111, 99, 107, 101, 100]
def lockVals (lk : Int) : List (List UInt8) := if lk = -1 then [] else [Lib.itoa lk]
def modsA (fs : List Int) (lk ch : Int) : List AV := modA nChanged [Lib.itoa ch] ++ modA nFailure (failVals fs fs.length) ++ modA nLocked (lockVals lk)

theorem mods_k {fs : List Int} {cap : Option Nat} {lk ch : Int} (hp : fs.Pairwise (· ≤ ·)) (hl : fs.length ≤ 100) (hb : ∀ f ∈ fs, 0 ≤ f ∧ f ≤ 9223372036854775807) (hlk : -1 ≤ lk ∧ lk ≤ 9223372036854775807) (hch : 0 ≤ ch ∧ ch ≤ 9223372036854775807) {L : List Blk} {K : AV → List Blk → Prop} (h : K (.sl (modsA fs lk ch) 3 none) L) :
    ACall Tryd.prog 6 [.agg [.sl (ints fs) fs.length cap, .int .i64 lk, .int .i64 ch]] L K := by
  replace h := hid h
  refine ACall_fn c_policy_Mods_eq (by simp [c_policy_Mods]) ?_
  simp only [c_policy_Mods, initT]
  repeat' first
    | refine AW_seq ?_
    | (first | refine AW_sreg (by kernel_rfl) ?_ | refine AW_sdreg (by kernel_rfl) ?_ | refine AW_dregM ?_ | refine Nx_in ?_ | refine NxI_in (fun _ => ?_) | refine AW_region ?_ | refine AW_dreg ?_ | refine mod0_k ?_ | refine CalK2_mk (mod0_k ⟨rfl, rfl⟩) (mod0_k ⟨rfl, rfl⟩) ?_ | refine CalK_mk (mod0_k ⟨rfl, rfl⟩) ?_)
      simp (config := { maxSteps := 2000000 }) only [Kon, push_cast, reduceIte, Nat.reduceEqDiff, Nat.reduceAdd, Nat.reduceMul, Nat.reduceSub, Nat.reduceLT, Nat.reduceLeDiff, Int.reduceLT, Int.reduceLE, Int.reduceAdd, Int.reduceSub, Int.reduceNeg, Int.reduceToNat, Int.reduceEq, reduceCtorEq, *]
    | (first | refine SelK_mk (by kernel_rfl) ?_ | refine AW_skip ?_ | refine AW_exit ?_ | refine AW_ret (Back_retR ?_))
      simp only [push_cast, reduceIte, Nat.reduceEqDiff, Nat.reduceAdd, Nat.reduceMul, Nat.reduceSub, Nat.reduceLT, Nat.reduceLeDiff, Int.reduceLT, Int.reduceLE, Int.reduceAdd, Int.reduceSub, Int.reduceNeg, Int.reduceToNat, Int.reduceEq, reduceCtorEq, *]
    | exact IsB_mk
    | first | apply GQ_mkT | apply GQ_mkTN | apply GQ_mkF | apply GQ_mkFN | apply GQ_mkB | apply GQ_mkBF
    | refine AW_block ?_
    | first | refine AW_condT rfl ?_ | refine AW_condF rfl ?_ | refine AW_condAny rfl ?_ ?_ | refine AW_condB rfl (fun _ => ?_) (fun _ => ?_) | refine AW_condN rfl (fun _ => ?_) (fun _ => ?_)
    | ((first | refine ite_introN (fun _ => ?_) (fun _ => ?_) | refine ite_intro (fun _ => ?_) (fun _ => ?_)) <;> try simp (config := { maxSteps := 2000000 }) only [Kon, push_cast, reduceIte, Nat.reduceEqDiff, Nat.reduceAdd, Nat.reduceMul, Nat.reduceSub, Nat.reduceLT, Nat.reduceLeDiff, Int.reduceLT, Int.reduceLE, Int.reduceAdd, Int.reduceSub, Int.reduceNeg, Int.reduceToNat, Int.reduceEq, reduceCtorEq, *])
    | refine And.intro trivial ?_
    | refine And.intro (by omega) ?_
    | refine AW_cond rfl (fun _ => ?_) (fun _ => ?_)
    | refine And.intro ?_ ?_
  refine AW_growC (L.length + 1) 2 1 (by rw [getAppK]; rfl) rfl rfl ?_
  rw [setAppK]
  simp only [List.set_cons_succ, List.set_cons_zero, List.append_assoc, List.cons_append, List.nil_append, List.length_append, List.length_cons, List.length_nil, Nat.reduceAdd]
  refine AW_loopT (fun n T' L' => ∃ (k : Nat) (c : Int), n = fs.length - k ∧ k ≤ fs.length ∧ (c = if k = 0 then 0 else (cnt fs (k - 1) : Int)) ∧ T' = [(12, .int .i64 (k : Int)), (11, .int .i64 fs.length), (10, .sl (ints fs) fs.length cap), (4, .int .i64 c), (3, .ptr (L.length + 1) 0), (2, .sl [] 0 (some 0)), (1, .ptr L.length 0)] ∧
    L' = L ++ [.cells [.sl (ints fs) fs.length cap, .int .i64 lk, .int .i64 ch], .cells [.int .i64 2, .str nFailure, .gsl (strs (failVals fs k)) k (L.length + 2) 1], .spare k 1]) (Cut_same (by repeat' first | exact SubT_nil | refine SubT_cons rfl rfl ?_ | refine SubT_consF rfl rfl ?_) (by simp)) ⟨0, 0, rfl, Nat.zero_le _, rfl, rfl, rfl⟩ ?_
  rintro _ _ _ ⟨k, c, rfl, hk, hc, rfl, rfl⟩
  by_cases hlt : k < fs.length
  · have h1 : (k : Int) < (fs.length : Int) := by omega
    have h2 : IntKind.i64.wrap ((k : Int) + 1) = (k : Int) + 1 := wrap64_in (by omega) (by omega)
    have h4 : (fs.map (AV.int .i64)).getD k .undef = .int .i64 (fs.getD k 0) := by simp [hlt]
    have hf := hb (fs.getD k 0) (by rw [List.getD_eq_getElem?_getD, List.getElem?_eq_getElem hlt]; exact List.getElem_mem _)
    have l1 := itoa_len hf.1 hf.2
    have c1 := cnt_le fs k
    have l2 := itoa_len (n := (cnt fs k : Int)) (by omega) (by omega)
    obtain ⟨f, hfe⟩ : ∃ f, fs.getD k 0 = f := ⟨_, rfl⟩
    have hval : failVals fs (k + 1) = failVals fs k ++ [Lib.itoa f ++ [46] ++ Lib.itoa (cnt fs k)] := by rw [failVals_succ, failVal, hfe]
    by_cases hk0 : k = 0
    · subst hk0
      rw [hfe] at h4 hf l1
      have hw : IntKind.i64.wrap 1 = 1 := by decide
      have hc0 : (cnt fs 0 : Int) = 0 := by rw [cnt_zero]; rfl
      rw [hc0] at l2 hval
      replace h1 : (0 : Int) < (fs.length : Int) := by omega
      rw [if_pos rfl] at hc
      subst hc
      repeat' first
        | refine AW_seq ?_
        | (first | refine AW_sreg (by kernel_rfl) ?_ | refine AW_sdreg (by kernel_rfl) ?_ | refine AW_dregM ?_ | refine Nx_in ?_ | refine NxI_in (fun _ => ?_) | refine AW_region ?_ | refine AW_dreg ?_ | refine fmt_k (by omega) (by omega) ?_ | refine itoa_k (by omega) (by omega) ?_ | refine CalK2_mk (fmt_k (by omega) (by omega) ⟨rfl, rfl⟩) (fmt_k (by omega) (by omega) ⟨rfl, rfl⟩) ?_ | refine CalK2_mk (itoa_k (by omega) (by omega) ⟨rfl, rfl⟩) (itoa_k (by omega) (by omega) ⟨rfl, rfl⟩) ?_ | refine CalK_mk (fmt_k (by omega) (by omega) ⟨rfl, rfl⟩) ?_ | refine CalK_mk (itoa_k (by omega) (by omega) ⟨rfl, rfl⟩) ?_)
          simp (config := { maxSteps := 2000000 }) only [Kon, push_cast, reduceIte, Nat.reduceEqDiff, Nat.reduceAdd, Nat.reduceMul, Nat.reduceSub, Nat.reduceLT, Nat.reduceLeDiff, Int.reduceLT, Int.reduceLE, Int.reduceAdd, Int.reduceSub, Int.reduceNeg, Int.reduceToNat, Int.reduceEq, reduceCtorEq, *]
        | (first | refine SelK_mk (by kernel_rfl) ?_ | refine AW_skip ?_ | refine AW_exit ?_ | refine AW_ret (Back_retR ?_))
          simp only [push_cast, reduceIte, Nat.reduceEqDiff, Nat.reduceAdd, Nat.reduceMul, Nat.reduceSub, Nat.reduceLT, Nat.reduceLeDiff, Int.reduceLT, Int.reduceLE, Int.reduceAdd, Int.reduceSub, Int.reduceNeg, Int.reduceToNat, Int.reduceEq, reduceCtorEq, *]
        | exact IsB_mk
        | first | apply GQ_mkT | apply GQ_mkTN | apply GQ_mkF | apply GQ_mkFN | apply GQ_mkB | apply GQ_mkBF
        | refine AW_block ?_
        | first | refine AW_condT rfl ?_ | refine AW_condF rfl ?_ | refine AW_condAny rfl ?_ ?_ | refine AW_condB rfl (fun _ => ?_) (fun _ => ?_) | refine AW_condN rfl (fun _ => ?_) (fun _ => ?_)
        | ((first | refine ite_introN (fun _ => ?_) (fun _ => ?_) | refine ite_intro (fun _ => ?_) (fun _ => ?_)) <;> try simp (config := { maxSteps := 2000000 }) only [Kon, push_cast, reduceIte, Nat.reduceEqDiff, Nat.reduceAdd, Nat.reduceMul, Nat.reduceSub, Nat.reduceLT, Nat.reduceLeDiff, Int.reduceLT, Int.reduceLE, Int.reduceAdd, Int.reduceSub, Int.reduceNeg, Int.reduceToNat, Int.reduceEq, reduceCtorEq, *])
        | refine And.intro trivial ?_
        | refine And.intro (by omega) ?_
        | refine AW_cond rfl (fun _ => ?_) (fun _ => ?_)
        | refine And.intro ?_ ?_
      refine Nxt_mk _ _ _ (by omega) (Cut_same (by repeat' first | exact SubT_nil | refine SubT_cons rfl rfl ?_ | refine SubT_consF rfl rfl ?_) (by simp)) ⟨1, 0, rfl, hlt, by simp [cnt_zero], rfl, ?_⟩
      rw [hval]
      simp [strs]
    · have h3 : IntKind.i64.wrap ((k : Int) - 1) = (k : Int) - 1 := wrap64_in (by omega) (by omega)
      have h5 : (fs.map (AV.int .i64)).getD (k - 1) .undef = .int .i64 (fs.getD (k - 1) 0) := by simp [show k - 1 < fs.length by omega]
      have h6 : ((k : Int) - 1).toNat = k - 1 := by omega
      have c2 := cnt_le fs (k - 1)
      have h7 : IntKind.i64.wrap ((cnt fs (k - 1) : Int) + 1) = (cnt fs (k - 1) : Int) + 1 := wrap64_in (by omega) (by omega)
      have hk1 : k - 1 + 1 = k := by omega
      have hki : (k : Int) ≠ 0 := by omega
      obtain ⟨c0, hc0⟩ : ∃ c0, cnt fs (k - 1) = c0 := ⟨_, rfl⟩
      have hsame := cnt_same (fs := fs) (i := k - 1) (by omega)
      have hdiff := cnt_diff (fs := fs) (i := k - 1) hp (by omega)
      rw [hk1, hc0, hfe] at hsame
      rw [hk1, hfe] at hdiff
      rw [hc0] at h7 hc
      rw [if_neg hk0] at hc
      subst hc
      obtain ⟨g, hge⟩ : ∃ g, fs.getD (k - 1) 0 = g := ⟨_, rfl⟩
      rw [hge] at h5 hsame hdiff
      rw [hfe] at h4 hf l1
      clear hge hfe
      by_cases he : g = f
      · have hcn := hsame he
        rw [hcn] at hval l2 c1
        rw [show ((c0 + 1 : Nat) : Int) = (c0 : Int) + 1 by omega] at hval l2
        clear hsame hdiff
        subst he
        repeat' first
          | refine AW_seq ?_
          | (first | refine AW_sreg (by kernel_rfl) ?_ | refine AW_sdreg (by kernel_rfl) ?_ | refine AW_dregM ?_ | refine Nx_in ?_ | refine NxI_in (fun _ => ?_) | refine AW_region ?_ | refine AW_dreg ?_ | refine fmt_k (by omega) (by omega) ?_ | refine itoa_k (by omega) (by omega) ?_ | refine CalK2_mk (fmt_k (by omega) (by omega) ⟨rfl, rfl⟩) (fmt_k (by omega) (by omega) ⟨rfl, rfl⟩) ?_ | refine CalK2_mk (itoa_k (by omega) (by omega) ⟨rfl, rfl⟩) (itoa_k (by omega) (by omega) ⟨rfl, rfl⟩) ?_ | refine CalK_mk (fmt_k (by omega) (by omega) ⟨rfl, rfl⟩) ?_ | refine CalK_mk (itoa_k (by omega) (by omega) ⟨rfl, rfl⟩) ?_)
            simp (config := { maxSteps := 2000000 }) only [Kon, push_cast, reduceIte, Nat.reduceEqDiff, Nat.reduceAdd, Nat.reduceMul, Nat.reduceSub, Nat.reduceLT, Nat.reduceLeDiff, Int.reduceLT, Int.reduceLE, Int.reduceAdd, Int.reduceSub, Int.reduceNeg, Int.reduceToNat, Int.reduceEq, reduceCtorEq, *]
          | (first | refine SelK_mk (by kernel_rfl) ?_ | refine AW_skip ?_ | refine AW_exit ?_ | refine AW_ret (Back_retR ?_))
            simp only [push_cast, reduceIte, Nat.reduceEqDiff, Nat.reduceAdd, Nat.reduceMul, Nat.reduceSub, Nat.reduceLT, Nat.reduceLeDiff, Int.reduceLT, Int.reduceLE, Int.reduceAdd, Int.reduceSub, Int.reduceNeg, Int.reduceToNat, Int.reduceEq, reduceCtorEq, *]
          | exact IsB_mk
          | first | apply GQ_mkT | apply GQ_mkTN | apply GQ_mkF | apply GQ_mkFN | apply GQ_mkB | apply GQ_mkBF
          | refine AW_block ?_
          | first | refine AW_condT rfl ?_ | refine AW_condF rfl ?_ | refine AW_condAny rfl ?_ ?_ | refine AW_condB rfl (fun _ => ?_) (fun _ => ?_) | refine AW_condN rfl (fun _ => ?_) (fun _ => ?_)
          | ((first | refine ite_introN (fun _ => ?_) (fun _ => ?_) | refine ite_intro (fun _ => ?_) (fun _ => ?_)) <;> try simp (config := { maxSteps := 2000000 }) only [Kon, push_cast, reduceIte, Nat.reduceEqDiff, Nat.reduceAdd, Nat.reduceMul, Nat.reduceSub, Nat.reduceLT, Nat.reduceLeDiff, Int.reduceLT, Int.reduceLE, Int.reduceAdd, Int.reduceSub, Int.reduceNeg, Int.reduceToNat, Int.reduceEq, reduceCtorEq, *])
          | refine And.intro trivial ?_
          | refine And.intro (by omega) ?_
          | refine AW_cond rfl (fun _ => ?_) (fun _ => ?_)
          | refine And.intro ?_ ?_
        all_goals first
          | omega
          | skip
        refine Nxt_mk _ _ _ (by omega) (Cut_same (by repeat' first | exact SubT_nil | refine SubT_cons rfl rfl ?_ | refine SubT_consF rfl rfl ?_) (by simp)) ⟨k + 1, _, rfl, hlt, by simp [hcn], rfl, ?_⟩
        rw [hval]
        simp [strs]
      · have hcn := hdiff he
        have hc' : ((cnt fs k : Nat) : Int) = 0 := by rw [hcn]; rfl
        rw [hc'] at hval l2
        clear hsame hdiff
        repeat' first
          | refine AW_seq ?_
          | (first | refine AW_sreg (by kernel_rfl) ?_ | refine AW_sdreg (by kernel_rfl) ?_ | refine AW_dregM ?_ | refine Nx_in ?_ | refine NxI_in (fun _ => ?_) | refine AW_region ?_ | refine AW_dreg ?_ | refine fmt_k (by omega) (by omega) ?_ | refine itoa_k (by omega) (by omega) ?_ | refine CalK2_mk (fmt_k (by omega) (by omega) ⟨rfl, rfl⟩) (fmt_k (by omega) (by omega) ⟨rfl, rfl⟩) ?_ | refine CalK2_mk (itoa_k (by omega) (by omega) ⟨rfl, rfl⟩) (itoa_k (by omega) (by omega) ⟨rfl, rfl⟩) ?_ | refine CalK_mk (fmt_k (by omega) (by omega) ⟨rfl, rfl⟩) ?_ | refine CalK_mk (itoa_k (by omega) (by omega) ⟨rfl, rfl⟩) ?_)
            simp (config := { maxSteps := 2000000 }) only [Kon, push_cast, reduceIte, Nat.reduceEqDiff, Nat.reduceAdd, Nat.reduceMul, Nat.reduceSub, Nat.reduceLT, Nat.reduceLeDiff, Int.reduceLT, Int.reduceLE, Int.reduceAdd, Int.reduceSub, Int.reduceNeg, Int.reduceToNat, Int.reduceEq, reduceCtorEq, *]
          | (first | refine SelK_mk (by kernel_rfl) ?_ | refine AW_skip ?_ | refine AW_exit ?_ | refine AW_ret (Back_retR ?_))
            simp only [push_cast, reduceIte, Nat.reduceEqDiff, Nat.reduceAdd, Nat.reduceMul, Nat.reduceSub, Nat.reduceLT, Nat.reduceLeDiff, Int.reduceLT, Int.reduceLE, Int.reduceAdd, Int.reduceSub, Int.reduceNeg, Int.reduceToNat, Int.reduceEq, reduceCtorEq, *]
          | exact IsB_mk
          | first | apply GQ_mkT | apply GQ_mkTN | apply GQ_mkF | apply GQ_mkFN | apply GQ_mkB | apply GQ_mkBF
          | refine AW_block ?_
          | first | refine AW_condT rfl ?_ | refine AW_condF rfl ?_ | refine AW_condAny rfl ?_ ?_ | refine AW_condB rfl (fun _ => ?_) (fun _ => ?_) | refine AW_condN rfl (fun _ => ?_) (fun _ => ?_)
          | ((first | refine ite_introN (fun _ => ?_) (fun _ => ?_) | refine ite_intro (fun _ => ?_) (fun _ => ?_)) <;> try simp (config := { maxSteps := 2000000 }) only [Kon, push_cast, reduceIte, Nat.reduceEqDiff, Nat.reduceAdd, Nat.reduceMul, Nat.reduceSub, Nat.reduceLT, Nat.reduceLeDiff, Int.reduceLT, Int.reduceLE, Int.reduceAdd, Int.reduceSub, Int.reduceNeg, Int.reduceToNat, Int.reduceEq, reduceCtorEq, *])
          | refine And.intro trivial ?_
          | refine And.intro (by omega) ?_
          | refine AW_cond rfl (fun _ => ?_) (fun _ => ?_)
          | refine And.intro ?_ ?_
        all_goals first
          | omega
          | skip
        refine Nxt_mk _ _ _ (by omega) (Cut_same (by repeat' first | exact SubT_nil | refine SubT_cons rfl rfl ?_ | refine SubT_consF rfl rfl ?_) (by simp)) ⟨k + 1, _, rfl, hlt, by simp [hcn], rfl, ?_⟩
        rw [hval]
        simp [strs]
  · have hke : k = fs.length := by omega
    subst hke
    have h1 : ¬ (fs.length : Int) < (fs.length : Int) := by omega
    by_cases hl1 : lk = -1
    · subst hl1
      repeat' first
        | refine AW_seq ?_
        | (first | refine AW_sreg (by kernel_rfl) ?_ | refine AW_sdreg (by kernel_rfl) ?_ | refine AW_dregM ?_ | refine Nx_in ?_ | refine NxI_in (fun _ => ?_) | refine AW_region ?_ | refine AW_dreg ?_ | refine mod0_k ?_ | refine mod1_k hch.1 hch.2 ?_ | refine CalK2_mk (mod0_k ⟨rfl, rfl⟩) (mod0_k ⟨rfl, rfl⟩) ?_ | refine CalK2_mk (mod1_k hch.1 hch.2 ⟨rfl, rfl⟩) (mod1_k hch.1 hch.2 ⟨rfl, rfl⟩) ?_ | refine CalK_mk (mod0_k ⟨rfl, rfl⟩) ?_ | refine CalK_mk (mod1_k hch.1 hch.2 ⟨rfl, rfl⟩) ?_)
          simp (config := { maxSteps := 2000000 }) only [Kon, push_cast, reduceIte, Nat.reduceEqDiff, Nat.reduceAdd, Nat.reduceMul, Nat.reduceSub, Nat.reduceLT, Nat.reduceLeDiff, Int.reduceLT, Int.reduceLE, Int.reduceAdd, Int.reduceSub, Int.reduceNeg, Int.reduceToNat, Int.reduceEq, reduceCtorEq, *]
        | (first | refine SelK_mk (by kernel_rfl) ?_ | refine AW_skip ?_ | refine AW_exit ?_ | refine AW_ret (Back_retR ?_))
          simp only [push_cast, reduceIte, Nat.reduceEqDiff, Nat.reduceAdd, Nat.reduceMul, Nat.reduceSub, Nat.reduceLT, Nat.reduceLeDiff, Int.reduceLT, Int.reduceLE, Int.reduceAdd, Int.reduceSub, Int.reduceNeg, Int.reduceToNat, Int.reduceEq, reduceCtorEq, *]
        | exact IsB_mk
        | first | apply GQ_mkT | apply GQ_mkTN | apply GQ_mkF | apply GQ_mkFN | apply GQ_mkB | apply GQ_mkBF
        | refine AW_block ?_
        | first | refine AW_condT rfl ?_ | refine AW_condF rfl ?_ | refine AW_condAny rfl ?_ ?_ | refine AW_condB rfl (fun _ => ?_) (fun _ => ?_) | refine AW_condN rfl (fun _ => ?_) (fun _ => ?_)
        | ((first | refine ite_introN (fun _ => ?_) (fun _ => ?_) | refine ite_intro (fun _ => ?_) (fun _ => ?_)) <;> try simp (config := { maxSteps := 2000000 }) only [Kon, push_cast, reduceIte, Nat.reduceEqDiff, Nat.reduceAdd, Nat.reduceMul, Nat.reduceSub, Nat.reduceLT, Nat.reduceLeDiff, Int.reduceLT, Int.reduceLE, Int.reduceAdd, Int.reduceSub, Int.reduceNeg, Int.reduceToNat, Int.reduceEq, reduceCtorEq, *])
        | refine And.intro trivial ?_
        | refine And.intro (by omega) ?_
        | refine AW_cond rfl (fun _ => ?_) (fun _ => ?_)
        | refine And.intro ?_ ?_
      refine Fin_frz (Fin_pure ?_ ?_)
      · simp [AV.frz, AV.frzL, AV.refs, AV.refsL, frzL_strs, refs_strs]
      · simpa [AV.frz, AV.frzL, modsA, modA, lockVals, frzL_strs, failVals_length, nChanged, nFailure, nLocked] using h.out
    · repeat' first
        | refine AW_seq ?_
        | (first | refine AW_sreg (by kernel_rfl) ?_ | refine AW_sdreg (by kernel_rfl) ?_ | refine AW_dregM ?_ | refine Nx_in ?_ | refine NxI_in (fun _ => ?_) | refine AW_region ?_ | refine AW_dreg ?_ | refine mod0_k ?_ | refine mod1_k hch.1 hch.2 ?_ | refine mod1_k (by omega) hlk.2 ?_ | refine CalK2_mk (mod0_k ⟨rfl, rfl⟩) (mod0_k ⟨rfl, rfl⟩) ?_ | refine CalK2_mk (mod1_k hch.1 hch.2 ⟨rfl, rfl⟩) (mod1_k hch.1 hch.2 ⟨rfl, rfl⟩) ?_ | refine CalK2_mk (mod1_k (by omega) hlk.2 ⟨rfl, rfl⟩) (mod1_k (by omega) hlk.2 ⟨rfl, rfl⟩) ?_ | refine CalK_mk (mod0_k ⟨rfl, rfl⟩) ?_ | refine CalK_mk (mod1_k hch.1 hch.2 ⟨rfl, rfl⟩) ?_ | refine CalK_mk (mod1_k (by omega) hlk.2 ⟨rfl, rfl⟩) ?_)
          simp (config := { maxSteps := 2000000 }) only [Kon, push_cast, reduceIte, Nat.reduceEqDiff, Nat.reduceAdd, Nat.reduceMul, Nat.reduceSub, Nat.reduceLT, Nat.reduceLeDiff, Int.reduceLT, Int.reduceLE, Int.reduceAdd, Int.reduceSub, Int.reduceNeg, Int.reduceToNat, Int.reduceEq, reduceCtorEq, *]
        | (first | refine SelK_mk (by kernel_rfl) ?_ | refine AW_skip ?_ | refine AW_exit ?_ | refine AW_ret (Back_retR ?_))
          simp only [push_cast, reduceIte, Nat.reduceEqDiff, Nat.reduceAdd, Nat.reduceMul, Nat.reduceSub, Nat.reduceLT, Nat.reduceLeDiff, Int.reduceLT, Int.reduceLE, Int.reduceAdd, Int.reduceSub, Int.reduceNeg, Int.reduceToNat, Int.reduceEq, reduceCtorEq, *]
        | exact IsB_mk
        | first | apply GQ_mkT | apply GQ_mkTN | apply GQ_mkF | apply GQ_mkFN | apply GQ_mkB | apply GQ_mkBF
        | refine AW_block ?_
        | first | refine AW_condT rfl ?_ | refine AW_condF rfl ?_ | refine AW_condAny rfl ?_ ?_ | refine AW_condB rfl (fun _ => ?_) (fun _ => ?_) | refine AW_condN rfl (fun _ => ?_) (fun _ => ?_)
        | ((first | refine ite_introN (fun _ => ?_) (fun _ => ?_) | refine ite_intro (fun _ => ?_) (fun _ => ?_)) <;> try simp (config := { maxSteps := 2000000 }) only [Kon, push_cast, reduceIte, Nat.reduceEqDiff, Nat.reduceAdd, Nat.reduceMul, Nat.reduceSub, Nat.reduceLT, Nat.reduceLeDiff, Int.reduceLT, Int.reduceLE, Int.reduceAdd, Int.reduceSub, Int.reduceNeg, Int.reduceToNat, Int.reduceEq, reduceCtorEq, *])
        | refine And.intro trivial ?_
        | refine And.intro (by omega) ?_
        | refine AW_cond rfl (fun _ => ?_) (fun _ => ?_)
        | refine And.intro ?_ ?_
      refine Fin_frz (Fin_pure ?_ ?_)
      · simp [AV.frz, AV.frzL, AV.refs, AV.refsL, frzL_strs, refs_strs]
      · simpa [AV.frz, AV.frzL, modsA, modA, lockVals, hl1, frzL_strs, failVals_length, nChanged, nFailure, nLocked] using h.out
end Go.Proofs.YtafghkbedkjpmaaDoor.Av
