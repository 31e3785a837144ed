/- Numbers as texts: the walks. -/
import Derived.Test.YtpednpndahgleaaGreatDoorCodeN
import Derived.Test.YtpednpndahgleaaGreatDoorNumP
import Derived.Test.YtpednpndahgleaaGreatDoorAvLf
import Derived.Test.YtpednpndahgleaaGreatDoorAvV
import Derived.Test.YtpednpndahgleaaGreatDoorShelf
set_option linter.unusedSimpArgs false
set_option linter.unusedVariables false
namespace Go.Proofs.YtpednpndahgleaaGreatDoor.Av
open Go
set_option maxHeartbeats 8000000
set_option maxRecDepth 100000

theorem pow_glob : globOf 3 = some (Lib.pow10Tab.map (AV.int .u64)) := by rfl
theorem pow_named : Tryz.prog.globalNamed "internal/strconv.uint64pow10" = some 3 := by kernel_rfl

theorem fmt_k {n : Int} (hn : I64 n) {L : List Blk} {K : AV → List Blk → Prop} (h : K (.str (Lib.itoa n)) L) : ACall Tryz.prog 7 [.int .i64 n, .int .i64 10] L K :=
  ACall_lift Tryz.func7 rfl (by kernel_rfl) (fun w0 S0 E w vs hR hv => by
    simp only [VRL, VR] at hv
    obtain ⟨_, _, rfl, rfl, _, _, rfl, rfl, rfl⟩ := hv
    refine (Tryz.strconv_FormatInt_10 n hn.1 hn.2 w (hR.table pow_named pow_glob (by simp [Lib.pow10Tab]))).mono fun e w' ⟨he, k, os, hw⟩ => ⟨_, he, by simp [VR], by subst hw; exact Grew.of_grow w k os⟩) h

theorem grew_below {w w' : World} (h : RowKit.Below w.heap.size w w') : Grew w w' := ⟨fun b hb => h.block b hb, h.size, h.os, h.tape, h.output⟩

theorem err_cell {w0 : World} {S0 : Nat → Prop} {E : Env} {L : List Blk} {w : World} (hR : Rel w0 S0 E L w) {g : Nat} {t : TypeId} (hp : globOf g = some [.iface t .undef]) : ∃ x, w.cell? ⟨g, 0, none⟩ = some (.iface t x) := by
  have hm := globOf_mem hp
  obtain ⟨v, h1, h2⟩ := (hR.glob.env hm).get (i := 0) (a := .iface t .undef) rfl
  simp only [VR] at h2
  obtain ⟨x, rfl, _⟩ := h2
  exact ⟨x, by simpa using hR.mem _ _ _ h1⟩

theorem parse_ok {l : List UInt8} {n : Int} (hl : (l.length : Int) ≤ 1000000) (hp : Lib.parseIntB 64 l = .ok n) {L : List Blk} {K : AV → List Blk → Prop} (h : K (.tup [.int .i64 n, .nilif]) L) : ACall Tryz.prog 67 [.str l, .int .i64 10, .int .i64 64] L K :=
  ACall_lift Tryz.func67 rfl (by kernel_rfl) (fun w0 S0 E w vs hR hv => by
    simp only [VRL, VR] at hv
    obtain ⟨_, _, rfl, rfl, _, _, rfl, rfl, _, _, rfl, rfl, rfl⟩ := hv
    refine (Tryz.strconv_ParseInt_10_at64_ok ⟨⟨l⟩⟩ (show l.length ≤ _ by omega) n hp w).mono fun e w' ⟨he, hw⟩ => ⟨_, he, by simp [VR, VRL], ?_⟩
    rcases hw with rfl | ⟨t, rfl⟩
    · exact Grew.refl _
    · exact grew_below (Lib.bytesWorld_below _ _ _)) h

theorem parse_no {l : List UInt8} (hl : (l.length : Int) ≤ 1000000) (hp : ∀ n, Lib.parseIntB 64 l ≠ .ok n) {L : List Blk} {K : AV → List Blk → Prop} (h : K (.tup [.int .i64 (numV l), .iface 184 .undef]) L) : ACall Tryz.prog 67 [.str l, .int .i64 10, .int .i64 64] L K :=
  ACall_lift Tryz.func67 rfl (by kernel_rfl) (fun w0 S0 E w vs hR hv => by
    simp only [VRL, VR] at hv
    obtain ⟨_, _, rfl, rfl, _, _, rfl, rfl, _, _, rfl, rfl, rfl⟩ := hv
    match hq : Lib.parseIntB 64 l with
    | .ok n => exact absurd hq (hp n)
    | .syntax =>
      obtain ⟨x, hx⟩ := err_cell hR (g := 7) rfl
      refine (Tryz.strconv_ParseInt_10_at64_syntax ⟨⟨l⟩⟩ (show l.length ≤ _ by omega) hq _ w hx (.inr ⟨_, _, rfl⟩)).mono fun e w' ⟨N, he, _, _, hw⟩ => ⟨_, he, ?_, grew_below hw⟩
      have e0 : numV l = 0 := by simp [numV, hq]
      rw [e0]
      simp [VR, VRL]
      exact ⟨_, _, ⟨rfl, rfl⟩, rfl, _, rfl, _, rfl⟩
    | .range =>
      obtain ⟨x, hx⟩ := err_cell hR (g := 8) rfl
      refine (Tryz.strconv_ParseInt_10_at64_range ⟨⟨l⟩⟩ (show l.length ≤ _ by omega) hq _ w hx (.inr ⟨_, _, rfl⟩)).mono fun e w' ⟨N, he, _, _, hw⟩ => ⟨_, he, ?_, grew_below hw⟩
      have e0 : numV l = Lib.intSat 64 l := by simp [numV, hq]
      rw [e0]
      simp [VR, VRL]
      exact ⟨_, _, ⟨rfl, rfl⟩, rfl, _, rfl, _, rfl⟩) h

theorem number_k {l : List UInt8} (hl : (l.length : Int) ≤ 1000000) {L : List Blk} {K : AV → List Blk → Prop} (h : K (.tup [.int .i64 (numV l), .bool (numOk l)]) L) : ACall Tryz.prog 31 [.str l] L K := by
  replace h := hid h
  refine ACall_fn c_syntax_number_eq (by simp [c_syntax_number]) ?_
  simp only [c_syntax_number, initT]
  by_cases hp : ∃ n, Lib.parseIntB 64 l = .ok n
  · obtain ⟨n, hp⟩ := hp
    have hr := hid (parse_range hp)
    have e1 := hid (show numV l = n by simp [numV, hp])
    have e2 := hid (show numOk l = decide (Lib.itoa n = l) by simp [numOk, hp])
    replace hp := hid hp
    repeat' first
      | refine AW_seq ?_
      | (first | refine AW_sreg (by kernel_rfl) ?_ | refine AW_sdreg (by kernel_rfl) ?_ | refine AW_dregM ?_ | refine Nx_in ?_ | refine NxI_in (fun _ => ?_) | refine AW_region ?_ | refine AW_dreg ?_ | refine parse_ok hl hp.out ?_ | refine fmt_k hr.out ?_ | refine CalK2_mk (parse_ok hl hp.out ⟨rfl, rfl⟩) (parse_ok hl hp.out ⟨rfl, rfl⟩) ?_ | refine CalK2_mk (fmt_k hr.out ⟨rfl, rfl⟩) (fmt_k hr.out ⟨rfl, rfl⟩) ?_ | refine CalK_mk (parse_ok hl hp.out ⟨rfl, rfl⟩) ?_ | refine CalK_mk (fmt_k hr.out ⟨rfl, rfl⟩) ?_)
        simp (config := { maxSteps := 2000000 }) only [Kon, push_cast, reduceIte, Nat.reduceEqDiff, Nat.reduceAdd, Nat.reduceMul, Nat.reduceSub, Nat.reduceLT, Nat.reduceLeDiff, Int.reduceLT, Int.reduceLE, Int.reduceAdd, Int.reduceSub, Int.reduceNeg, Int.reduceToNat, Int.reduceEq, reduceCtorEq, *]
      | (first | refine SelK_mk (by kernel_rfl) ?_ | refine AW_skip ?_ | refine AW_exit ?_ | refine AW_ret (Back_retR ?_))
        simp only [push_cast, reduceIte, Nat.reduceEqDiff, Nat.reduceAdd, Nat.reduceMul, Nat.reduceSub, Nat.reduceLT, Nat.reduceLeDiff, Int.reduceLT, Int.reduceLE, Int.reduceAdd, Int.reduceSub, Int.reduceNeg, Int.reduceToNat, Int.reduceEq, reduceCtorEq, *]
      | exact IsB_mk
      | first | apply GQ_mkT | apply GQ_mkTN | apply GQ_mkF | apply GQ_mkFN | apply GQ_mkB | apply GQ_mkBF
      | refine AW_block ?_
      | first | refine AW_condT rfl ?_ | refine AW_condF rfl ?_ | refine AW_condAny rfl ?_ ?_ | refine AW_condB rfl (fun _ => ?_) (fun _ => ?_) | refine AW_condN rfl (fun _ => ?_) (fun _ => ?_)
      | ((first | refine ite_introN (fun _ => ?_) (fun _ => ?_) | refine ite_intro (fun _ => ?_) (fun _ => ?_)) <;> try simp (config := { maxSteps := 2000000 }) only [Kon, push_cast, reduceIte, Nat.reduceEqDiff, Nat.reduceAdd, Nat.reduceMul, Nat.reduceSub, Nat.reduceLT, Nat.reduceLeDiff, Int.reduceLT, Int.reduceLE, Int.reduceAdd, Int.reduceSub, Int.reduceNeg, Int.reduceToNat, Int.reduceEq, reduceCtorEq, *])
      | refine And.intro trivial ?_
      | refine And.intro (by omega) ?_
      | refine AW_cond rfl (fun _ => ?_) (fun _ => ?_)
      | refine And.intro ?_ ?_
    refine Fin_same ?_
    have h := h.out
    rw [e1.out, e2.out] at h
    exact h
  · have hp' := hid (show ∀ n, Lib.parseIntB 64 l ≠ .ok n from fun n e => hp ⟨n, e⟩)
    have e2 := hid (show numOk l = false by
      unfold numOk
      split
      · rename_i n hn; exact absurd ⟨n, hn⟩ hp
      · rfl)
    clear hp
    repeat' first
      | refine AW_seq ?_
      | (first | refine AW_sreg (by kernel_rfl) ?_ | refine AW_sdreg (by kernel_rfl) ?_ | refine AW_dregM ?_ | refine Nx_in ?_ | refine NxI_in (fun _ => ?_) | refine AW_region ?_ | refine AW_dreg ?_ | refine parse_no hl hp'.out ?_ | refine CalK2_mk (parse_no hl hp'.out ⟨rfl, rfl⟩) (parse_no hl hp'.out ⟨rfl, rfl⟩) ?_ | refine CalK_mk (parse_no hl hp'.out ⟨rfl, rfl⟩) ?_)
        simp (config := { maxSteps := 2000000 }) only [Kon, push_cast, reduceIte, Nat.reduceEqDiff, Nat.reduceAdd, Nat.reduceMul, Nat.reduceSub, Nat.reduceLT, Nat.reduceLeDiff, Int.reduceLT, Int.reduceLE, Int.reduceAdd, Int.reduceSub, Int.reduceNeg, Int.reduceToNat, Int.reduceEq, reduceCtorEq, *]
      | (first | refine SelK_mk (by kernel_rfl) ?_ | refine AW_skip ?_ | refine AW_exit ?_ | refine AW_ret (Back_retR ?_))
        simp only [push_cast, reduceIte, Nat.reduceEqDiff, Nat.reduceAdd, Nat.reduceMul, Nat.reduceSub, Nat.reduceLT, Nat.reduceLeDiff, Int.reduceLT, Int.reduceLE, Int.reduceAdd, Int.reduceSub, Int.reduceNeg, Int.reduceToNat, Int.reduceEq, reduceCtorEq, *]
      | exact IsB_mk
      | first | apply GQ_mkT | apply GQ_mkTN | apply GQ_mkF | apply GQ_mkFN | apply GQ_mkB | apply GQ_mkBF
      | refine AW_block ?_
      | first | refine AW_condT rfl ?_ | refine AW_condF rfl ?_ | refine AW_condAny rfl ?_ ?_ | refine AW_condB rfl (fun _ => ?_) (fun _ => ?_) | refine AW_condN rfl (fun _ => ?_) (fun _ => ?_)
      | ((first | refine ite_introN (fun _ => ?_) (fun _ => ?_) | refine ite_intro (fun _ => ?_) (fun _ => ?_)) <;> try simp (config := { maxSteps := 2000000 }) only [Kon, push_cast, reduceIte, Nat.reduceEqDiff, Nat.reduceAdd, Nat.reduceMul, Nat.reduceSub, Nat.reduceLT, Nat.reduceLeDiff, Int.reduceLT, Int.reduceLE, Int.reduceAdd, Int.reduceSub, Int.reduceNeg, Int.reduceToNat, Int.reduceEq, reduceCtorEq, *])
      | refine And.intro trivial ?_
      | refine And.intro (by omega) ?_
      | refine AW_cond rfl (fun _ => ?_) (fun _ => ?_)
      | refine And.intro ?_ ?_
    refine Fin_same ?_
    have h := h.out
    rw [e2.out] at h
    exact h

theorem isNaN64_k {n : Int} {L : List Blk} {K : AV → List Blk → Prop} (h : K (.bool false) L) : ACall Tryz.prog 71 [.int .i64 n] L K := by
  replace h := hid h
  refine ACall_fn c_cmp_isNaN_int64_eq (by simp [c_cmp_isNaN_int64]) ?_
  simp only [c_cmp_isNaN_int64, initT]
  repeat' first
    | refine AW_seq ?_
    | (first | refine AW_sreg (by kernel_rfl) ?_ | refine AW_sdreg (by kernel_rfl) ?_ | refine AW_dregM ?_ | refine Nx_in ?_ | refine NxI_in (fun _ => ?_) | refine AW_region ?_ | refine AW_dreg ?_)
      simp (config := { maxSteps := 2000000 }) only [Kon, push_cast, reduceIte, Nat.reduceEqDiff, Nat.reduceAdd, Nat.reduceMul, Nat.reduceSub, Nat.reduceLT, Nat.reduceLeDiff, Int.reduceLT, Int.reduceLE, Int.reduceAdd, Int.reduceSub, Int.reduceNeg, Int.reduceToNat, Int.reduceEq, reduceCtorEq, *]
    | (first | refine SelK_mk (by kernel_rfl) ?_ | refine AW_skip ?_ | refine AW_exit ?_ | refine AW_ret (Back_retR ?_))
      simp only [push_cast, reduceIte, Nat.reduceEqDiff, Nat.reduceAdd, Nat.reduceMul, Nat.reduceSub, Nat.reduceLT, Nat.reduceLeDiff, Int.reduceLT, Int.reduceLE, Int.reduceAdd, Int.reduceSub, Int.reduceNeg, Int.reduceToNat, Int.reduceEq, reduceCtorEq, *]
    | exact IsB_mk
    | first | apply GQ_mkT | apply GQ_mkTN | apply GQ_mkF | apply GQ_mkFN | apply GQ_mkB | apply GQ_mkBF
    | refine AW_block ?_
    | first | refine AW_condT rfl ?_ | refine AW_condF rfl ?_ | refine AW_condAny rfl ?_ ?_ | refine AW_condB rfl (fun _ => ?_) (fun _ => ?_) | refine AW_condN rfl (fun _ => ?_) (fun _ => ?_)
    | ((first | refine ite_introN (fun _ => ?_) (fun _ => ?_) | refine ite_intro (fun _ => ?_) (fun _ => ?_)) <;> try simp (config := { maxSteps := 2000000 }) only [Kon, push_cast, reduceIte, Nat.reduceEqDiff, Nat.reduceAdd, Nat.reduceMul, Nat.reduceSub, Nat.reduceLT, Nat.reduceLeDiff, Int.reduceLT, Int.reduceLE, Int.reduceAdd, Int.reduceSub, Int.reduceNeg, Int.reduceToNat, Int.reduceEq, reduceCtorEq, *])
    | refine And.intro trivial ?_
    | refine And.intro (by omega) ?_
    | refine AW_cond rfl (fun _ => ?_) (fun _ => ?_)
    | refine And.intro ?_ ?_
  refine Fin_same ?_
  exact h.out

def cmpI (m n : Int) : Int := if m < n then -1 else if n < m then 1 else 0
theorem cmp64_k {m n : Int} {L : List Blk} {K : AV → List Blk → Prop} (h : K (.int .i64 (cmpI m n)) L) : ACall Tryz.prog 34 [.int .i64 m, .int .i64 n] L K := by
  replace h := hid h
  refine ACall_fn c_cmp_Compare_int64_eq (by simp [c_cmp_Compare_int64]) ?_
  simp only [c_cmp_Compare_int64, initT]
  by_cases h1 : m < n
  · have e := hid (show cmpI m n = -1 by simp [cmpI, h1])
    repeat' first
      | refine AW_seq ?_
      | (first | refine AW_sreg (by kernel_rfl) ?_ | refine AW_sdreg (by kernel_rfl) ?_ | refine AW_dregM ?_ | refine Nx_in ?_ | refine NxI_in (fun _ => ?_) | refine AW_region ?_ | refine AW_dreg ?_ | refine isNaN64_k ?_ | refine CalK2_mk (isNaN64_k ⟨rfl, rfl⟩) (isNaN64_k ⟨rfl, rfl⟩) ?_ | refine CalK_mk (isNaN64_k ⟨rfl, rfl⟩) ?_)
        simp (config := { maxSteps := 2000000 }) only [Kon, push_cast, reduceIte, Nat.reduceEqDiff, Nat.reduceAdd, Nat.reduceMul, Nat.reduceSub, Nat.reduceLT, Nat.reduceLeDiff, Int.reduceLT, Int.reduceLE, Int.reduceAdd, Int.reduceSub, Int.reduceNeg, Int.reduceToNat, Int.reduceEq, reduceCtorEq, *]
      | (first | refine SelK_mk (by kernel_rfl) ?_ | refine AW_skip ?_ | refine AW_exit ?_ | refine AW_ret (Back_retR ?_))
        simp only [push_cast, reduceIte, Nat.reduceEqDiff, Nat.reduceAdd, Nat.reduceMul, Nat.reduceSub, Nat.reduceLT, Nat.reduceLeDiff, Int.reduceLT, Int.reduceLE, Int.reduceAdd, Int.reduceSub, Int.reduceNeg, Int.reduceToNat, Int.reduceEq, reduceCtorEq, *]
      | exact IsB_mk
      | first | apply GQ_mkT | apply GQ_mkTN | apply GQ_mkF | apply GQ_mkFN | apply GQ_mkB | apply GQ_mkBF
      | refine AW_block ?_
      | first | refine AW_condT rfl ?_ | refine AW_condF rfl ?_ | refine AW_condAny rfl ?_ ?_ | refine AW_condB rfl (fun _ => ?_) (fun _ => ?_) | refine AW_condN rfl (fun _ => ?_) (fun _ => ?_)
      | ((first | refine ite_introN (fun _ => ?_) (fun _ => ?_) | refine ite_intro (fun _ => ?_) (fun _ => ?_)) <;> try simp (config := { maxSteps := 2000000 }) only [Kon, push_cast, reduceIte, Nat.reduceEqDiff, Nat.reduceAdd, Nat.reduceMul, Nat.reduceSub, Nat.reduceLT, Nat.reduceLeDiff, Int.reduceLT, Int.reduceLE, Int.reduceAdd, Int.reduceSub, Int.reduceNeg, Int.reduceToNat, Int.reduceEq, reduceCtorEq, *])
      | refine And.intro trivial ?_
      | refine And.intro (by omega) ?_
      | refine AW_cond rfl (fun _ => ?_) (fun _ => ?_)
      | refine And.intro ?_ ?_
    refine Fin_same ?_
    have h := h.out
    rw [e.out] at h
    exact h
  · by_cases h2 : n < m
    · have e := hid (show cmpI m n = 1 by simp [cmpI, h1, h2])
      repeat' first
        | refine AW_seq ?_
        | (first | refine AW_sreg (by kernel_rfl) ?_ | refine AW_sdreg (by kernel_rfl) ?_ | refine AW_dregM ?_ | refine Nx_in ?_ | refine NxI_in (fun _ => ?_) | refine AW_region ?_ | refine AW_dreg ?_ | refine isNaN64_k ?_ | refine CalK2_mk (isNaN64_k ⟨rfl, rfl⟩) (isNaN64_k ⟨rfl, rfl⟩) ?_ | refine CalK_mk (isNaN64_k ⟨rfl, rfl⟩) ?_)
          simp (config := { maxSteps := 2000000 }) only [Kon, push_cast, reduceIte, Nat.reduceEqDiff, Nat.reduceAdd, Nat.reduceMul, Nat.reduceSub, Nat.reduceLT, Nat.reduceLeDiff, Int.reduceLT, Int.reduceLE, Int.reduceAdd, Int.reduceSub, Int.reduceNeg, Int.reduceToNat, Int.reduceEq, reduceCtorEq, *]
        | (first | refine SelK_mk (by kernel_rfl) ?_ | refine AW_skip ?_ | refine AW_exit ?_ | refine AW_ret (Back_retR ?_))
          simp only [push_cast, reduceIte, Nat.reduceEqDiff, Nat.reduceAdd, Nat.reduceMul, Nat.reduceSub, Nat.reduceLT, Nat.reduceLeDiff, Int.reduceLT, Int.reduceLE, Int.reduceAdd, Int.reduceSub, Int.reduceNeg, Int.reduceToNat, Int.reduceEq, reduceCtorEq, *]
        | exact IsB_mk
        | first | apply GQ_mkT | apply GQ_mkTN | apply GQ_mkF | apply GQ_mkFN | apply GQ_mkB | apply GQ_mkBF
        | refine AW_block ?_
        | first | refine AW_condT rfl ?_ | refine AW_condF rfl ?_ | refine AW_condAny rfl ?_ ?_ | refine AW_condB rfl (fun _ => ?_) (fun _ => ?_) | refine AW_condN rfl (fun _ => ?_) (fun _ => ?_)
        | ((first | refine ite_introN (fun _ => ?_) (fun _ => ?_) | refine ite_intro (fun _ => ?_) (fun _ => ?_)) <;> try simp (config := { maxSteps := 2000000 }) only [Kon, push_cast, reduceIte, Nat.reduceEqDiff, Nat.reduceAdd, Nat.reduceMul, Nat.reduceSub, Nat.reduceLT, Nat.reduceLeDiff, Int.reduceLT, Int.reduceLE, Int.reduceAdd, Int.reduceSub, Int.reduceNeg, Int.reduceToNat, Int.reduceEq, reduceCtorEq, *])
        | refine And.intro trivial ?_
        | refine And.intro (by omega) ?_
        | refine AW_cond rfl (fun _ => ?_) (fun _ => ?_)
        | refine And.intro ?_ ?_
      refine Fin_same ?_
      have h := h.out
      rw [e.out] at h
      exact h
    · have e := hid (show cmpI m n = 0 by simp [cmpI, h1, h2])
      repeat' first
        | refine AW_seq ?_
        | (first | refine AW_sreg (by kernel_rfl) ?_ | refine AW_sdreg (by kernel_rfl) ?_ | refine AW_dregM ?_ | refine Nx_in ?_ | refine NxI_in (fun _ => ?_) | refine AW_region ?_ | refine AW_dreg ?_ | refine isNaN64_k ?_ | refine CalK2_mk (isNaN64_k ⟨rfl, rfl⟩) (isNaN64_k ⟨rfl, rfl⟩) ?_ | refine CalK_mk (isNaN64_k ⟨rfl, rfl⟩) ?_)
          simp (config := { maxSteps := 2000000 }) only [Kon, push_cast, reduceIte, Nat.reduceEqDiff, Nat.reduceAdd, Nat.reduceMul, Nat.reduceSub, Nat.reduceLT, Nat.reduceLeDiff, Int.reduceLT, Int.reduceLE, Int.reduceAdd, Int.reduceSub, Int.reduceNeg, Int.reduceToNat, Int.reduceEq, reduceCtorEq, *]
        | (first | refine SelK_mk (by kernel_rfl) ?_ | refine AW_skip ?_ | refine AW_exit ?_ | refine AW_ret (Back_retR ?_))
          simp only [push_cast, reduceIte, Nat.reduceEqDiff, Nat.reduceAdd, Nat.reduceMul, Nat.reduceSub, Nat.reduceLT, Nat.reduceLeDiff, Int.reduceLT, Int.reduceLE, Int.reduceAdd, Int.reduceSub, Int.reduceNeg, Int.reduceToNat, Int.reduceEq, reduceCtorEq, *]
        | exact IsB_mk
        | first | apply GQ_mkT | apply GQ_mkTN | apply GQ_mkF | apply GQ_mkFN | apply GQ_mkB | apply GQ_mkBF
        | refine AW_block ?_
        | first | refine AW_condT rfl ?_ | refine AW_condF rfl ?_ | refine AW_condAny rfl ?_ ?_ | refine AW_condB rfl (fun _ => ?_) (fun _ => ?_) | refine AW_condN rfl (fun _ => ?_) (fun _ => ?_)
        | ((first | refine ite_introN (fun _ => ?_) (fun _ => ?_) | refine ite_intro (fun _ => ?_) (fun _ => ?_)) <;> try simp (config := { maxSteps := 2000000 }) only [Kon, push_cast, reduceIte, Nat.reduceEqDiff, Nat.reduceAdd, Nat.reduceMul, Nat.reduceSub, Nat.reduceLT, Nat.reduceLeDiff, Int.reduceLT, Int.reduceLE, Int.reduceAdd, Int.reduceSub, Int.reduceNeg, Int.reduceToNat, Int.reduceEq, reduceCtorEq, *])
        | refine And.intro trivial ?_
        | refine And.intro (by omega) ?_
        | refine AW_cond rfl (fun _ => ?_) (fun _ => ?_)
        | refine And.intro ?_ ?_
      refine Fin_same ?_
      have h := h.out
      rw [e.out] at h
      exact h

theorem norm4_ok {l : List UInt8} (hl : (l.length : Int) ≤ 4096) (ho : numOk l = true) {L : List Blk} {K : AV → List Blk → Prop} (h : K (.tup [.str l, .bool true]) L) : ACall Tryz.prog 8 [.int .i64 4, .str l] L K := by
  replace h := hid h
  refine ACall_fn c_syntax_Norm_eq (by simp [c_syntax_Norm]) ?_
  simp only [c_syntax_Norm, initT]
  have hl2 : (l.length : Int) ≤ 1000000 := by omega
  have hl3 : ¬ (4096 : Int) < (l.length : Int) := by omega
  repeat' first
    | refine AW_seq ?_
    | (first | refine AW_sreg (by kernel_rfl) ?_ | refine AW_sdreg (by kernel_rfl) ?_ | refine AW_dregM ?_ | refine Nx_in ?_ | refine NxI_in (fun _ => ?_) | refine AW_region ?_ | refine AW_dreg ?_ | refine number_k hl2 ?_ | refine CalK2_mk (number_k hl2 ⟨rfl, rfl⟩) (number_k hl2 ⟨rfl, rfl⟩) ?_ | refine CalK_mk (number_k hl2 ⟨rfl, rfl⟩) ?_)
      simp (config := { maxSteps := 2000000 }) only [Kon, push_cast, reduceIte, Nat.reduceEqDiff, Nat.reduceAdd, Nat.reduceMul, Nat.reduceSub, Nat.reduceLT, Nat.reduceLeDiff, Int.reduceLT, Int.reduceLE, Int.reduceAdd, Int.reduceSub, Int.reduceNeg, Int.reduceToNat, Int.reduceEq, reduceCtorEq, *]
    | (first | refine SelK_mk (by kernel_rfl) ?_ | refine AW_skip ?_ | refine AW_exit ?_ | refine AW_ret (Back_retR ?_))
      simp only [push_cast, reduceIte, Nat.reduceEqDiff, Nat.reduceAdd, Nat.reduceMul, Nat.reduceSub, Nat.reduceLT, Nat.reduceLeDiff, Int.reduceLT, Int.reduceLE, Int.reduceAdd, Int.reduceSub, Int.reduceNeg, Int.reduceToNat, Int.reduceEq, reduceCtorEq, *]
    | exact IsB_mk
    | first | apply GQ_mkT | apply GQ_mkTN | apply GQ_mkF | apply GQ_mkFN | apply GQ_mkB | apply GQ_mkBF
    | refine AW_block ?_
    | first | refine AW_condT rfl ?_ | refine AW_condF rfl ?_ | refine AW_condAny rfl ?_ ?_ | refine AW_condB rfl (fun _ => ?_) (fun _ => ?_) | refine AW_condN rfl (fun _ => ?_) (fun _ => ?_)
    | ((first | refine ite_introN (fun _ => ?_) (fun _ => ?_) | refine ite_intro (fun _ => ?_) (fun _ => ?_)) <;> try simp (config := { maxSteps := 2000000 }) only [Kon, push_cast, reduceIte, Nat.reduceEqDiff, Nat.reduceAdd, Nat.reduceMul, Nat.reduceSub, Nat.reduceLT, Nat.reduceLeDiff, Int.reduceLT, Int.reduceLE, Int.reduceAdd, Int.reduceSub, Int.reduceNeg, Int.reduceToNat, Int.reduceEq, reduceCtorEq, *])
    | refine And.intro trivial ?_
    | refine And.intro (by omega) ?_
    | refine AW_cond rfl (fun _ => ?_) (fun _ => ?_)
    | refine And.intro ?_ ?_
  refine Fin_same ?_
  exact h.out

theorem norm4_no {l : List UInt8} (hl : (l.length : Int) ≤ 4096) (ho : numOk l = false) {L : List Blk} {K : AV → List Blk → Prop} (h : K (.tup [.str [], .bool false]) L) : ACall Tryz.prog 8 [.int .i64 4, .str l] L K := by
  replace h := hid h
  refine ACall_fn c_syntax_Norm_eq (by simp [c_syntax_Norm]) ?_
  simp only [c_syntax_Norm, initT]
  have hl2 : (l.length : Int) ≤ 1000000 := by omega
  have hl3 : ¬ (4096 : Int) < (l.length : Int) := by omega
  repeat' first
    | refine AW_seq ?_
    | (first | refine AW_sreg (by kernel_rfl) ?_ | refine AW_sdreg (by kernel_rfl) ?_ | refine AW_dregM ?_ | refine Nx_in ?_ | refine NxI_in (fun _ => ?_) | refine AW_region ?_ | refine AW_dreg ?_ | refine number_k hl2 ?_ | refine CalK2_mk (number_k hl2 ⟨rfl, rfl⟩) (number_k hl2 ⟨rfl, rfl⟩) ?_ | refine CalK_mk (number_k hl2 ⟨rfl, rfl⟩) ?_)
      simp (config := { maxSteps := 2000000 }) only [Kon, push_cast, reduceIte, Nat.reduceEqDiff, Nat.reduceAdd, Nat.reduceMul, Nat.reduceSub, Nat.reduceLT, Nat.reduceLeDiff, Int.reduceLT, Int.reduceLE, Int.reduceAdd, Int.reduceSub, Int.reduceNeg, Int.reduceToNat, Int.reduceEq, reduceCtorEq, *]
    | (first | refine SelK_mk (by kernel_rfl) ?_ | refine AW_skip ?_ | refine AW_exit ?_ | refine AW_ret (Back_retR ?_))
      simp only [push_cast, reduceIte, Nat.reduceEqDiff, Nat.reduceAdd, Nat.reduceMul, Nat.reduceSub, Nat.reduceLT, Nat.reduceLeDiff, Int.reduceLT, Int.reduceLE, Int.reduceAdd, Int.reduceSub, Int.reduceNeg, Int.reduceToNat, Int.reduceEq, reduceCtorEq, *]
    | exact IsB_mk
    | first | apply GQ_mkT | apply GQ_mkTN | apply GQ_mkF | apply GQ_mkFN | apply GQ_mkB | apply GQ_mkBF
    | refine AW_block ?_
    | first | refine AW_condT rfl ?_ | refine AW_condF rfl ?_ | refine AW_condAny rfl ?_ ?_ | refine AW_condB rfl (fun _ => ?_) (fun _ => ?_) | refine AW_condN rfl (fun _ => ?_) (fun _ => ?_)
    | ((first | refine ite_introN (fun _ => ?_) (fun _ => ?_) | refine ite_intro (fun _ => ?_) (fun _ => ?_)) <;> try simp (config := { maxSteps := 2000000 }) only [Kon, push_cast, reduceIte, Nat.reduceEqDiff, Nat.reduceAdd, Nat.reduceMul, Nat.reduceSub, Nat.reduceLT, Nat.reduceLeDiff, Int.reduceLT, Int.reduceLE, Int.reduceAdd, Int.reduceSub, Int.reduceNeg, Int.reduceToNat, Int.reduceEq, reduceCtorEq, *])
    | refine And.intro trivial ?_
    | refine And.intro (by omega) ?_
    | refine AW_cond rfl (fun _ => ?_) (fun _ => ?_)
    | refine And.intro ?_ ?_
  refine Fin_same ?_
  exact h.out

theorem order4_k {a b : List UInt8} {m n : Int} (ha : (a.length : Int) ≤ 4096) (hb : (b.length : Int) ≤ 4096) (oa : numOk a = true) (ob : numOk b = true) (va : numV a = m) (vb : numV b = n) {L : List Blk} {K : AV → List Blk → Prop} (h : K (.tup [.int .i64 (cmpI m n), .bool true]) L) : ACall Tryz.prog 9 [.int .i64 4, .str a, .str b] L K := by
  replace h := hid h
  refine ACall_fn c_syntax_Order_eq (by simp [c_syntax_Order]) ?_
  simp only [c_syntax_Order, initT]
  have ha2 : (a.length : Int) ≤ 1000000 := by omega
  have hb2 : (b.length : Int) ≤ 1000000 := by omega
  repeat' first
    | refine AW_seq ?_
    | (first | refine AW_sreg (by kernel_rfl) ?_ | refine AW_sdreg (by kernel_rfl) ?_ | refine AW_dregM ?_ | refine Nx_in ?_ | refine NxI_in (fun _ => ?_) | refine AW_region ?_ | refine AW_dreg ?_ | refine norm4_ok ha oa ?_ | refine norm4_ok hb ob ?_ | refine number_k ha2 ?_ | refine number_k hb2 ?_ | refine cmp64_k ?_ | refine CalK2_mk (norm4_ok ha oa ⟨rfl, rfl⟩) (norm4_ok ha oa ⟨rfl, rfl⟩) ?_ | refine CalK2_mk (norm4_ok hb ob ⟨rfl, rfl⟩) (norm4_ok hb ob ⟨rfl, rfl⟩) ?_ | refine CalK2_mk (number_k ha2 ⟨rfl, rfl⟩) (number_k ha2 ⟨rfl, rfl⟩) ?_ | refine CalK2_mk (number_k hb2 ⟨rfl, rfl⟩) (number_k hb2 ⟨rfl, rfl⟩) ?_ | refine CalK2_mk (cmp64_k ⟨rfl, rfl⟩) (cmp64_k ⟨rfl, rfl⟩) ?_ | refine CalK_mk (norm4_ok ha oa ⟨rfl, rfl⟩) ?_ | refine CalK_mk (norm4_ok hb ob ⟨rfl, rfl⟩) ?_ | refine CalK_mk (number_k ha2 ⟨rfl, rfl⟩) ?_ | refine CalK_mk (number_k hb2 ⟨rfl, rfl⟩) ?_ | refine CalK_mk (cmp64_k ⟨rfl, rfl⟩) ?_)
      simp (config := { maxSteps := 2000000 }) only [Kon, push_cast, reduceIte, Nat.reduceEqDiff, Nat.reduceAdd, Nat.reduceMul, Nat.reduceSub, Nat.reduceLT, Nat.reduceLeDiff, Int.reduceLT, Int.reduceLE, Int.reduceAdd, Int.reduceSub, Int.reduceNeg, Int.reduceToNat, Int.reduceEq, reduceCtorEq, *]
    | (first | refine SelK_mk (by kernel_rfl) ?_ | refine AW_skip ?_ | refine AW_exit ?_ | refine AW_ret (Back_retR ?_))
      simp only [push_cast, reduceIte, Nat.reduceEqDiff, Nat.reduceAdd, Nat.reduceMul, Nat.reduceSub, Nat.reduceLT, Nat.reduceLeDiff, Int.reduceLT, Int.reduceLE, Int.reduceAdd, Int.reduceSub, Int.reduceNeg, Int.reduceToNat, Int.reduceEq, reduceCtorEq, *]
    | exact IsB_mk
    | first | apply GQ_mkT | apply GQ_mkTN | apply GQ_mkF | apply GQ_mkFN | apply GQ_mkB | apply GQ_mkBF
    | refine AW_block ?_
    | first | refine AW_condT rfl ?_ | refine AW_condF rfl ?_ | refine AW_condAny rfl ?_ ?_ | refine AW_condB rfl (fun _ => ?_) (fun _ => ?_) | refine AW_condN rfl (fun _ => ?_) (fun _ => ?_)
    | ((first | refine ite_introN (fun _ => ?_) (fun _ => ?_) | refine ite_intro (fun _ => ?_) (fun _ => ?_)) <;> try simp (config := { maxSteps := 2000000 }) only [Kon, push_cast, reduceIte, Nat.reduceEqDiff, Nat.reduceAdd, Nat.reduceMul, Nat.reduceSub, Nat.reduceLT, Nat.reduceLeDiff, Int.reduceLT, Int.reduceLE, Int.reduceAdd, Int.reduceSub, Int.reduceNeg, Int.reduceToNat, Int.reduceEq, reduceCtorEq, *])
    | refine And.intro trivial ?_
    | refine And.intro (by omega) ?_
    | refine AW_cond rfl (fun _ => ?_) (fun _ => ?_)
    | refine And.intro ?_ ?_
  refine Fin_same ?_
  exact h.out
end Go.Proofs.YtpednpndahgleaaGreatDoor.Av
