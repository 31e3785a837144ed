/- The document's names: what is a type. -/
import Derived.Test.YtffnflplocbpiaaGreatDoorQCodeF
import Derived.Test.YtffnflplocbpiaaGreatDoorQD1
import Derived.Test.YtffnflplocbpiaaGreatDoorQP5
import Derived.Test.YtffnflplocbpiaaGreatDoorQD2
set_option linter.unusedSimpArgs false
set_option linter.unusedVariables false
namespace Go.Proofs.YtffnflplocbpiaaGreatDoor.Av
open Go
set_option maxHeartbeats 8000000
set_option maxRecDepth 100000

theorem rin_k {l : List UInt8} {x : UInt8} (hn : l.length ≤ 1000000) {L : List Blk} {K : AV → List Blk → Prop} (h : K (.bool (l.contains x)) L) :
    ACall Tryz.prog 96 [.int .u8 x.toNat, .str l] L K := by
  replace h := hid h
  refine ACall_fn c_ref09_in_eq (by simp [c_ref09_in]) ?_
  simp only [c_ref09_in, initT]
  refine wk ?_
  refine AW_loopT (fun n T' L' => ∃ (i : Nat), n = l.length - i ∧ i ≤ l.length ∧ Hid (∀ j, j < i → l.getD j 0 ≠ x) ∧ T' = [(5, .int .i64 (i : Int)), (0, .int .u8 x.toNat), (1, .str l)] ∧ L = L') (Cut_same (by repeat' first | exact SubT_nil | refine SubT_cons rfl rfl ?_ | refine SubT_consF rfl rfl ?_) (Nat.le_refl _)) ⟨0, rfl, Nat.zero_le _, hid (by simp), rfl, rfl⟩ ?_
  rintro _ _ _ ⟨i, rfl, hi, hno, rfl, rfl⟩
  by_cases hlt : i < l.length
  · have h1 : (i : Int) < (l.length : Int) := by omega
    have h2 : IntKind.i64.wrap ((i : Int) + 1) = (i : Int) + 1 := wrap64_in (by omega) (by omega)
    obtain ⟨p, hp⟩ : ∃ p, l.getD i 0 = p := ⟨_, rfl⟩
    by_cases hpq : p = x
    · have hc : l.contains x = true := by
        rw [List.contains_iff_mem, ← hpq, ← hp, List.getD_eq_getElem?_getD, List.getElem?_eq_getElem hlt]
        exact List.getElem_mem _
      have h' := h.out
      rw [hc] at h'
      replace h' := hid h'
      clear hc
      subst hpq
      refine wk ?_
      exact Fin_same h'.out
    · have k1 : ¬ (p.toNat : Int) = (x.toNat : Int) := fun e => hpq ((u8_int p x).1 e)
      have hp' := hid hp
      refine wk ?_
      refine Nxt_mk _ _ _ (by omega) (Cut_same (by repeat' first | exact SubT_nil | refine SubT_cons rfl rfl ?_ | refine SubT_consF rfl rfl ?_) (Nat.le_refl _)) ⟨i + 1, rfl, hlt, hid fun j hj => ?_, rfl, rfl⟩
      rcases Nat.lt_or_ge j i with e | e
      · exact hno.out j e
      · have : j = i := by omega
        subst this
        rw [hp]; exact hpq
  · have hke : i = l.length := by omega
    subst hke
    have h1 : ¬ (l.length : Int) < (l.length : Int) := by omega
    have hc : l.contains x = false := by
      rw [← Bool.not_eq_true, List.contains_iff_mem]
      intro hm
      obtain ⟨j, hj, e⟩ := List.mem_iff_getElem.1 hm
      exact hno.out j hj (by simp [hj, e])
    have h' := h.out
    rw [hc] at h'
    replace h' := hid h'
    clear hc
    refine wk ?_
    exact Fin_same h'.out

abbrev lettersB : List UInt8 := [97, 98, 99, 100, 101, 102, 103, 104, 105, 106, 107, 108, 109, 110, 111, 112, 113, 114, 115, 116, 117, 118, 119, 120, 121, 122]
abbrev digsB : List UInt8 := [48, 49, 50, 51, 52, 53, 54, 55, 56, 57, 45]
theorem let_all : ∀ n : _root_.Fin 256, lettersB.contains (lowB (UInt8.ofNat n.val)) = isLet (n.val : Int) ∧ (lettersB.contains (lowB (UInt8.ofNat n.val)) || digsB.contains (lowB (UInt8.ofNat n.val))) = typC (n.val : Int) := by decide +kernel
theorem let_low (c : UInt8) : lettersB.contains (lowB c) = isLet (c.toNat : Int) ∧ (lettersB.contains (lowB c) || digsB.contains (lowB c)) = typC (c.toNat : Int) := by
  have := let_all ⟨c.toNat, c.toNat_lt⟩
  simpa using this
/-- May the byte at place j stand in a type? -/
def okC (j : Nat) (c : UInt8) : Bool := lettersB.contains (lowB c) || (decide (0 < j) && digsB.contains (lowB c))
theorem typS_iff (s : List UInt8) : typS s = true ↔ (1 ≤ s.length ∧ s.length ≤ 32) ∧ ∀ j, j < s.length → okC j (s.getD j 0) = true := by
  simp only [typS, Bool.and_eq_true, decide_eq_true_eq, List.all_eq_true]
  constructor
  · rintro ⟨⟨⟨h1, h2⟩, h3⟩, h4⟩
    refine ⟨⟨h1, h2⟩, fun j hj => ?_⟩
    obtain ⟨e1, e2⟩ := let_low (s.getD j 0)
    by_cases h0 : j = 0
    · subst h0
      rw [okC, e1, h3]; rfl
    · have hm : s.getD j 0 ∈ s := by simp [hj]
      have := h4 _ hm
      rw [← e2] at this
      rw [okC, show decide (0 < j) = true by simp; omega, Bool.true_and]
      exact this
  · rintro ⟨⟨h1, h2⟩, h3⟩
    refine ⟨⟨⟨h1, h2⟩, ?_⟩, fun c hc => ?_⟩
    · have := h3 0 (by omega)
      rw [okC] at this
      simp only [Nat.lt_irrefl, decide_false, Bool.false_and, Bool.or_false] at this
      rw [← (let_low _).1]; exact this
    · obtain ⟨j, hj, rfl⟩ := List.mem_iff_getElem.1 hc
      have := h3 j hj
      have e : s.getD j 0 = s[j] := by simp [hj]
      rw [e, okC] at this
      rw [← (let_low _).2]
      cases hl : lettersB.contains (lowB s[j]) with
      | true => rfl
      | false =>
        rw [hl, Bool.false_or, Bool.and_eq_true] at this
        rw [this.2]; rfl

theorem rtype_k {s : List UInt8} (hs : (s.length : Int) ≤ 100000) {L : List Blk} {K : AV → List Blk → Prop} (h : K (.bool (typS s)) L) : ACall Tryz.prog 65 [.str s] L K := by
  replace h := hid h
  obtain ⟨t, ht⟩ : ∃ t, foldS s = t := ⟨_, rfl⟩
  have htl : t.length = s.length := by rw [← ht]; simp [foldS]
  have hg : ∀ j, j < s.length → t.getD j 0 = lowB (s.getD j 0) := fun j hj => by rw [← ht]; simp [foldS, hj]
  replace htl := hid htl
  replace hg := hid hg
  have hit := hid (typS_iff s)
  refine ACall_fn c_ref09_Type_eq (by simp [c_ref09_Type]) ?_
  simp only [c_ref09_Type, initT]
  refine wk ?_
  refine rfold_k hs ?_
  rw [ht]
  refine sk ?_
  refine wk ?_
  refine AW_loopT (fun n T' L' => ∃ (i : Nat) (b : Bool), n = s.length + 1 - i ∧ i ≤ s.length ∧ Hid (b = true ↔ (1 ≤ s.length ∧ s.length ≤ 32) ∧ ∀ j, j < i → okC j (s.getD j 0) = true) ∧ T' = [(5, .int .i64 (i : Int)), (4, .bool b), (3, .str t)] ∧ L = L') (Cut_same (by repeat' first | exact SubT_nil | refine SubT_cons rfl rfl ?_ | refine SubT_consF rfl rfl ?_) (Nat.le_refl _)) ⟨0, _, rfl, Nat.zero_le _, hid (by have := htl.out; simp; omega), rfl, rfl⟩ ?_
  rintro _ _ _ ⟨i, b, rfl, hi, hb, rfl, rfl⟩
  have htl' := htl.out
  by_cases hlt : i < s.length
  · have g1 : (i : Int) < (t.length : Int) := by omega
    have g2 : IntKind.i64.wrap ((i : Int) + 1) = (i : Int) + 1 := wrap64_in (by omega) (by omega)
    have g3 := hg.out i hlt
    obtain ⟨c, hc⟩ : ∃ c, s.getD i 0 = c := ⟨_, rfl⟩
    rw [hc] at g3
    replace hc := hid hc
    clear htl'
    cases b with
    | false =>
      have hf : typS s = false := by
        rw [← Bool.not_eq_true, hit.out]
        intro ⟨q1, q2⟩
        have := hb.out.2 ⟨q1, fun j hj => q2 j (by omega)⟩
        cases this
      have h' := h.out
      rw [hf] at h'
      replace h' := hid h'
      clear hf
      refine wk ?_
      exact Fin_same h'.out
    | true =>
      have hnext : okC i c = true ↔ ((1 ≤ s.length ∧ s.length ≤ 32) ∧ ∀ j, j < i + 1 → okC j (s.getD j 0) = true) := by
        have hb1 := hb.out.1 rfl
        constructor
        · intro e
          refine ⟨hb1.1, fun j hj => ?_⟩
          rcases Nat.lt_or_ge j i with q | q
          · exact hb1.2 j q
          · have : j = i := by omega
            subst this; rw [hc.out]; exact e
        · rintro ⟨_, e⟩
          have := e i (by omega)
          rwa [hc.out] at this
      replace hnext := hid hnext
      have hok : okC i c = (lettersB.contains (lowB c) || (decide (0 < i) && digsB.contains (lowB c))) := rfl
      replace hok := hid hok
      refine wk ?_
      refine rin_k (by simp) ?_
      cases hl : lettersB.contains (lowB c) with
      | true =>
        have hk := hid (show okC i c = true by rw [hok.out, hl]; rfl)
        refine sk ?_
        refine wk ?_
        exact Nxt_mk _ _ _ (by omega) (Cut_same (by repeat' first | exact SubT_nil | refine SubT_cons rfl rfl ?_ | refine SubT_consF rfl rfl ?_ | refine SubT_cons rfl (congrArg (AV.int _) (by omega)) ?_ | refine SubT_cons rfl (by first | (simp_all; done) | (simp_all; omega) | (simp_all; intros; omega)) ?_) (Nat.le_refl _)) ⟨i + 1, true, rfl, hlt, hid (by rw [← hnext.out, hk.out]), rfl, rfl⟩
      | false =>
        by_cases h0 : i = 0
        · have hk := hid (show okC i c = false by rw [hok.out, hl, h0]; rfl)
          have k0 : ¬ (0 : Int) < (i : Int) := by omega
          clear h0
          refine sk ?_
          refine wk ?_
          exact Nxt_mk _ _ _ (by omega) (Cut_same (by repeat' first | exact SubT_nil | refine SubT_cons rfl rfl ?_ | refine SubT_consF rfl rfl ?_ | refine SubT_cons rfl (congrArg (AV.int _) (by omega)) ?_ | refine SubT_cons rfl (by first | (simp_all; done) | (simp_all; omega) | (simp_all; intros; omega)) ?_) (Nat.le_refl _)) ⟨i + 1, false, rfl, hlt, hid (by rw [← hnext.out, hk.out]), rfl, rfl⟩
        · have hk := hid (show okC i c = digsB.contains (lowB c) by rw [hok.out, hl, show decide (0 < i) = true by simp; omega]; simp)
          have k0 : (0 : Int) < (i : Int) := by omega
          clear h0
          refine sk ?_
          repeat' first
            | refine AW_seq ?_
            | (first | refine AW_sreg (by kernel_rfl) ?_ | refine AW_sdreg (by kernel_rfl) ?_ | refine AW_dregM ?_ | refine Nx_in ?_ | refine NxI_in (fun _ => ?_) | refine AW_region ?_ | refine AW_dreg ?_)
              simp (config := { maxSteps := 2000000 }) only [Kon, push_cast, reduceIte, Nat.reduceEqDiff, Nat.reduceAdd, Nat.reduceMul, Nat.reduceSub, Nat.reduceLT, Nat.reduceLeDiff, Int.reduceLT, Int.reduceLE, Int.reduceAdd, Int.reduceSub, Int.reduceNeg, Int.reduceToNat, Int.reduceEq, reduceCtorEq, *]
            | (first | refine SelK_mk (by kernel_rfl) ?_ | refine AW_skip ?_ | refine AW_exit ?_ | refine AW_ret (Back_retR ?_))
              simp only [push_cast, reduceIte, Nat.reduceEqDiff, Nat.reduceAdd, Nat.reduceMul, Nat.reduceSub, Nat.reduceLT, Nat.reduceLeDiff, Int.reduceLT, Int.reduceLE, Int.reduceAdd, Int.reduceSub, Int.reduceNeg, Int.reduceToNat, Int.reduceEq, reduceCtorEq, *]
            | exact IsB_mk
            | first | apply GQ_mkT | apply GQ_mkTN | apply GQ_mkF | apply GQ_mkFN | apply GQ_mkB | apply GQ_mkBF
            | refine AW_block ?_
            | first | refine AW_condT rfl ?_ | refine AW_condF rfl ?_ | refine AW_condAny rfl ?_ ?_ | refine AW_condB rfl (fun _ => ?_) (fun _ => ?_) | refine AW_condN rfl (fun _ => ?_) (fun _ => ?_)
            | ((first | refine ite_introN (fun _ => ?_) (fun _ => ?_) | refine ite_intro (fun _ => ?_) (fun _ => ?_)) <;> try simp (config := { maxSteps := 2000000 }) only [Kon, push_cast, reduceIte, Nat.reduceEqDiff, Nat.reduceAdd, Nat.reduceMul, Nat.reduceSub, Nat.reduceLT, Nat.reduceLeDiff, Int.reduceLT, Int.reduceLE, Int.reduceAdd, Int.reduceSub, Int.reduceNeg, Int.reduceToNat, Int.reduceEq, reduceCtorEq, *])
            | refine And.intro trivial ?_
            | refine And.intro (by omega) ?_
            | refine AW_cond rfl (fun _ => ?_) (fun _ => ?_)
            | refine And.intro ?_ ?_
          refine CalK_mk (rin_k (by simp) ⟨rfl, rfl⟩) ?_
          simp only [Kon, push_cast, reduceIte, Nat.reduceEqDiff, Nat.reduceAdd, Nat.reduceMul, Nat.reduceSub, Nat.reduceLT, Nat.reduceLeDiff, Int.reduceLT, Int.reduceLE, Int.reduceAdd, Int.reduceSub, Int.reduceNeg, Int.reduceToNat, Int.reduceEq, reduceCtorEq, *]
          repeat' first
            | refine AW_seq ?_
            | (first | refine AW_sreg (by kernel_rfl) ?_ | refine AW_sdreg (by kernel_rfl) ?_ | refine AW_dregM ?_ | refine Nx_in ?_ | refine NxI_in (fun _ => ?_) | refine AW_region ?_ | refine AW_dreg ?_)
              simp (config := { maxSteps := 2000000 }) only [Kon, push_cast, reduceIte, Nat.reduceEqDiff, Nat.reduceAdd, Nat.reduceMul, Nat.reduceSub, Nat.reduceLT, Nat.reduceLeDiff, Int.reduceLT, Int.reduceLE, Int.reduceAdd, Int.reduceSub, Int.reduceNeg, Int.reduceToNat, Int.reduceEq, reduceCtorEq, *]
            | (first | refine SelK_mk (by kernel_rfl) ?_ | refine AW_skip ?_ | refine AW_exit ?_ | refine AW_ret (Back_retR ?_))
              simp only [push_cast, reduceIte, Nat.reduceEqDiff, Nat.reduceAdd, Nat.reduceMul, Nat.reduceSub, Nat.reduceLT, Nat.reduceLeDiff, Int.reduceLT, Int.reduceLE, Int.reduceAdd, Int.reduceSub, Int.reduceNeg, Int.reduceToNat, Int.reduceEq, reduceCtorEq, *]
            | exact IsB_mk
            | first | apply GQ_mkT | apply GQ_mkTN | apply GQ_mkF | apply GQ_mkFN | apply GQ_mkB | apply GQ_mkBF
            | refine AW_block ?_
            | first | refine AW_condT rfl ?_ | refine AW_condF rfl ?_ | refine AW_condAny rfl ?_ ?_ | refine AW_condB rfl (fun _ => ?_) (fun _ => ?_) | refine AW_condN rfl (fun _ => ?_) (fun _ => ?_)
            | ((first | refine ite_introN (fun _ => ?_) (fun _ => ?_) | refine ite_intro (fun _ => ?_) (fun _ => ?_)) <;> try simp (config := { maxSteps := 2000000 }) only [Kon, push_cast, reduceIte, Nat.reduceEqDiff, Nat.reduceAdd, Nat.reduceMul, Nat.reduceSub, Nat.reduceLT, Nat.reduceLeDiff, Int.reduceLT, Int.reduceLE, Int.reduceAdd, Int.reduceSub, Int.reduceNeg, Int.reduceToNat, Int.reduceEq, reduceCtorEq, *])
            | refine And.intro trivial ?_
            | refine And.intro (by omega) ?_
            | refine AW_cond rfl (fun _ => ?_) (fun _ => ?_)
            | refine And.intro ?_ ?_
          exact Nxt_mk _ _ _ (by omega) (Cut_same (by repeat' first | exact SubT_nil | refine SubT_cons rfl rfl ?_ | refine SubT_consF rfl rfl ?_ | refine SubT_cons rfl (congrArg (AV.int _) (by omega)) ?_ | refine SubT_cons rfl (by first | (simp_all; done) | (simp_all; omega) | (simp_all; intros; omega)) ?_) (Nat.le_refl _)) ⟨i + 1, digsB.contains (lowB c), rfl, hlt, hid (by rw [← hnext.out, hk.out]), rfl, rfl⟩
  · have hke : i = s.length := by omega
    subst hke
    have g1 : ¬ (s.length : Int) < (t.length : Int) := by omega
    have hfin : b = typS s := by
      have e := hb.out.trans hit.out.symm
      cases b <;> cases hs' : typS s <;> simp_all
    have h' := h.out
    rw [← hfin] at h'
    replace h' := hid h'
    clear hfin
    clear htl'
    refine wk ?_
    exact Fin_same h'.out
end Go.Proofs.YtffnflplocbpiaaGreatDoor.Av

namespace Go.Proofs.YtffnflplocbpiaaGreatDoor.Av
open Go
set_option maxHeartbeats 8000000
set_option maxRecDepth 100000

theorem rhas_k {r : List Ava} {typ : List UInt8} {cap : Option Nat} (hn : r.length ≤ 100000) (h1 : ∀ a ∈ r, (a.1.length : Int) ≤ 100000) (h2 : (typ.length : Int) ≤ 100000) {L : List Blk} {K : AV → List Blk → Prop} (h : K (.bool (hasT r typ)) L) :
    ACall Tryz.prog 66 [rdnA r cap, .str typ] L K := by
  replace h := hid h
  replace h1 := hid h1
  refine ACall_fn c_ref09_has_eq (by simp [c_ref09_has]) ?_
  simp only [c_ref09_has, initT]
  refine wk ?_
  refine AW_loopT (fun n T' L' => ∃ (k : Nat) (Z : List Blk), n = r.length - k ∧ k ≤ r.length ∧ Hid (hasT (r.take k) typ = false) ∧ T' = [(9, .int .i64 (k : Int)), (8, .int .i64 r.length), (7, rdnA r cap), (1, .str typ)] ∧ L' = L ++ Z) (Cut_same (by repeat' first | exact SubT_nil | refine SubT_cons rfl rfl ?_ | refine SubT_consF rfl rfl ?_) (by simp)) ⟨0, [], rfl, Nat.zero_le _, hid rfl, rfl, by simp⟩ ?_
  rintro _ _ _ ⟨k, Z, rfl, hk, hf, rfl, rfl⟩
  by_cases hlt : k < r.length
  · have g1 : (k : Int) < (r.length : Int) := by omega
    have g2 : IntKind.i64.wrap ((k : Int) + 1) = (k : Int) + 1 := wrap64_in (by omega) (by omega)
    have e1 := avasA_at hlt
    have e2 : k * 2 + 2 ≤ (avasA r).length := by rw [avasA_len]; omega
    obtain ⟨⟨ty, va⟩, ha⟩ : ∃ a, r.getD k ([], []) = a := ⟨_, rfl⟩
    have ham : (ty, va) ∈ r := by rw [← ha]; simp [hlt]
    have htk : r.take (k + 1) = r.take k ++ [(ty, va)] := by rw [List.take_succ_eq_append_getElem hlt, ← ha]; simp [hlt]
    rw [ha] at e1
    simp only [avaA] at e1
    have hs : hasT (r.take (k + 1)) typ = decide (foldS ty = foldS typ) := by
      have := hf.out
      simp only [hasT] at this ⊢
      rw [htk, List.any_append, this]; simp
    have ha1 := h1.out _ ham
    simp only at ha1
    have hall : foldS ty = foldS typ → hasT r typ = true := fun e => List.any_eq_true.2 ⟨_, ham, by simpa using e⟩
    replace hall := hid hall
    replace hs := hid hs
    clear ha ham htk
    by_cases hq : foldS ty = foldS typ
    · have h' := h.out
      rw [hall.out hq] at h'
      replace h' := hid h'
      have kk1 := @hid _ (fun L K => rfold_k ha1 (L := L) (K := K))
      have kk2 := @hid _ (fun L K => rfold_k h2 (L := L) (K := K))
      refine wk ?_
      exact Fin_pure rfl h'.out
    · have kk1 := @hid _ (fun L K => rfold_k ha1 (L := L) (K := K))
      have kk2 := @hid _ (fun L K => rfold_k h2 (L := L) (K := K))
      refine wk ?_
      exact Nxt_mk _ _ _ (by omega) (Cut_same (by repeat' first | exact SubT_nil | refine SubT_cons rfl rfl ?_ | refine SubT_consF rfl rfl ?_ | refine SubT_cons rfl (congrArg (AV.int _) (by omega)) ?_ | refine SubT_cons rfl (by first | (simp_all; done) | (simp_all; omega) | (simp_all; intros; omega)) ?_) (by simp)) ⟨k + 1, _, rfl, hlt, hid (by rw [hs.out]; simpa using hq), rfl, rfl⟩
  · have hke : k = r.length := by omega
    subst hke
    have g1 : ¬ (r.length : Int) < (r.length : Int) := by omega
    have hn' := hf.out
    rw [List.take_length] at hn'
    have h' := h.out
    rw [hn'] at h'
    replace h' := hid h'
    clear hn'
    refine wk ?_
    exact Fin_pure rfl h'.out
end Go.Proofs.YtffnflplocbpiaaGreatDoor.Av

namespace Go.Proofs.YtffnflplocbpiaaGreatDoor.Av
open Go
set_option maxHeartbeats 8000000
set_option maxRecDepth 100000

theorem rwritten_k {s : List UInt8} (hs : s.length ≤ 100000) {L : List Blk} {K : AV → List Blk → Prop} (h : K (.str (writS s)) L) : ACall Tryz.prog 98 [.str s] L K := by
  replace h := hid h
  refine ACall_fn c_ref09_written_eq (by simp [c_ref09_written]) ?_
  simp only [c_ref09_written, initT]
  refine wk ?_
  refine AW_grow (l := []) (n := 0) 3 1 rfl (Nat.zero_mul 1).symm ?_
  refine AW_loopT (fun n T' L' => ∃ (i m : Nat) (b : List UInt8), n = s.length - i ∧ i ≤ s.length ∧ m ≤ 3 * i ∧ Hid (m = b.length ∧ b ++ wrL s.length i (s.drop i) = writS s) ∧ T' = [(4, .int .i64 (i : Int)), (3, .gsl (u8s b) m L.length 1), (0, .str s)] ∧ L' = L ++ [.spare m 1]) (Cut_same (by repeat' first | exact SubT_nil | refine SubT_cons rfl rfl ?_ | refine SubT_consF rfl rfl ?_) (by simp)) ⟨0, 0, [], rfl, Nat.zero_le _, by omega, hid ⟨rfl, rfl⟩, rfl, rfl⟩ ?_
  rintro _ _ _ ⟨i, m, b, rfl, hi, hm, hb, rfl, rfl⟩
  by_cases hlt : i < s.length
  · have g1 : (i : Int) < (s.length : Int) := by omega
    have g2 : IntKind.i64.wrap ((i : Int) + 1) = (i : Int) + 1 := wrap64_in (by omega) (by omega)
    obtain ⟨c, hc⟩ : ∃ c, s.getD i 0 = c := ⟨_, rfl⟩
    have hdr := drop1 hlt
    rw [hc] at hdr
    have hb2 := hb.out.2
    rw [hdr] at hb2
    simp only [wrL] at hb2
    clear hdr
    replace hb2 := hid hb2
    obtain ⟨p1, hp1⟩ : ∃ p, ([34, 43, 44, 59, 60, 62, 92] : List UInt8).contains c = p := ⟨_, rfl⟩
    obtain ⟨p2, hp2⟩ : ∃ p, ([32, 35] : List UInt8).contains c = p := ⟨_, rfl⟩
    have hq1 : p1 = true ↔ c ∈ ([34, 43, 44, 59, 60, 62, 92] : List UInt8) := by rw [← hp1, List.contains_iff_mem]
    have hq2 : p2 = true ↔ (c = 32 ∨ c = 35) := by rw [← hp2, List.contains_iff_mem]; simp
    replace hq1 := hid hq1
    replace hq2 := hid hq2
    repeat' first
      | refine AW_seq ?_
      | (first | refine AW_sreg (by kernel_rfl) ?_ | refine AW_sdreg (by kernel_rfl) ?_ | refine AW_dregM ?_ | refine Nx_in ?_ | refine NxI_in (fun _ => ?_) | refine AW_region ?_ | refine AW_dreg ?_ | refine rin_k (by simp) ?_ | refine CalK2_mk (rin_k (by simp) ⟨rfl, rfl⟩) (rin_k (by simp) ⟨rfl, rfl⟩) ?_ | refine CalK_mk (rin_k (by simp) ⟨rfl, rfl⟩) ?_)
        simp (config := { maxSteps := 2000000 }) only [Kon, push_cast, reduceIte, Nat.reduceEqDiff, Nat.reduceAdd, Nat.reduceMul, Nat.reduceSub, Nat.reduceLT, Nat.reduceLeDiff, Int.reduceLT, Int.reduceLE, Int.reduceAdd, Int.reduceSub, Int.reduceNeg, Int.reduceToNat, Int.reduceEq, reduceCtorEq, *]
      | (first | refine SelK_mk (by kernel_rfl) ?_ | refine AW_skip ?_ | refine AW_exit ?_ | refine AW_ret (Back_retR ?_))
        simp only [push_cast, reduceIte, Nat.reduceEqDiff, Nat.reduceAdd, Nat.reduceMul, Nat.reduceSub, Nat.reduceLT, Nat.reduceLeDiff, Int.reduceLT, Int.reduceLE, Int.reduceAdd, Int.reduceSub, Int.reduceNeg, Int.reduceToNat, Int.reduceEq, reduceCtorEq, *]
      | exact IsB_mk
      | first | apply GQ_mkT | apply GQ_mkTN | apply GQ_mkF | apply GQ_mkFN | apply GQ_mkB | apply GQ_mkBF
      | refine AW_block ?_
      | first | refine AW_condT rfl ?_ | refine AW_condF rfl ?_ | refine AW_condAny rfl ?_ ?_ | refine AW_condB rfl (fun _ => ?_) (fun _ => ?_) | refine AW_condN rfl (fun _ => ?_) (fun _ => ?_)
      | ((first | refine ite_introN (fun _ => ?_) (fun _ => ?_) | refine ite_intro (fun _ => ?_) (fun _ => ?_)) <;> try simp (config := { maxSteps := 2000000 }) only [Kon, push_cast, reduceIte, Nat.reduceEqDiff, Nat.reduceAdd, Nat.reduceMul, Nat.reduceSub, Nat.reduceLT, Nat.reduceLeDiff, Int.reduceLT, Int.reduceLE, Int.reduceAdd, Int.reduceSub, Int.reduceNeg, Int.reduceToNat, Int.reduceEq, reduceCtorEq, *])
      | refine And.intro trivial ?_
      | refine And.intro (by omega) ?_
      | refine AW_cond rfl (fun _ => ?_) (fun _ => ?_)
      | refine And.intro ?_ ?_
    · rfl
    · omega
    · rename_i h0
      have hc0 := (u8_int c 0).1 h0
      rw [show u8s b ++ AV.frzL (u8s [92, 48, 48]) = u8s (b ++ [92, 48, 48]) by simp [u8s, AV.frzL, AV.frz]]
      refine Nxt_mk _ _ _ (by omega) (Cut_same (by repeat' first | exact SubT_nil | refine SubT_cons rfl rfl ?_ | refine SubT_consF rfl rfl ?_ | refine SubT_cons rfl (congrArg (AV.int _) (by omega)) ?_ | refine SubT_cons rfl (by first | (simp_all; done) | (simp_all; omega) | (simp_all; intros; omega)) ?_) (by simp)) ⟨i + 1, m + 3, b ++ [92, 48, 48], rfl, hlt, by omega, hid ⟨by simp [hb.out.1], ?_⟩, rfl, rfl⟩
      rw [← hb2.out, wrB, if_pos hc0, List.append_assoc]
    · rename_i h0 h1
      have hc0 : ¬ c = 0 := fun e => h0 ((u8_int c 0).2 e)
      have hq : (i = 0 ∧ (c = 32 ∨ c = 35)) ∨ (i + 1 = s.length ∧ c = 32) ∨ c ∈ [34, 43, 44, 59, 60, 62, 92] := by
        simp only [Bool.or_eq_true, Bool.and_eq_true, decide_eq_true_eq] at h1
        rcases h1 with (e | ⟨e1, e2⟩) | ⟨e1, e2⟩
        · exact .inr (.inr (hq1.out.1 e))
        · exact .inl ⟨by omega, hq2.out.1 e2⟩
        · exact .inr (.inl ⟨by omega, (u8_int c 32).1 e2⟩)
      rw [show u8s b ++ [AV.int IntKind.u8 92, AV.int IntKind.u8 (c.toNat : Int)] = u8s (b ++ [92, c]) by simp [u8s]]
      refine Nxt_mk _ _ _ (by omega) (Cut_same (by repeat' first | exact SubT_nil | refine SubT_cons rfl rfl ?_ | refine SubT_consF rfl rfl ?_ | refine SubT_cons rfl (congrArg (AV.int _) (by omega)) ?_ | refine SubT_cons rfl (by first | (simp_all; done) | (simp_all; omega) | (simp_all; intros; omega)) ?_) (by simp)) ⟨i + 1, m + 1 + 1, b ++ [92, c], rfl, hlt, by omega, hid ⟨by simp [hb.out.1], ?_⟩, rfl, rfl⟩
      rw [← hb2.out, wrB, if_neg hc0, if_pos hq, List.append_assoc]
    · rename_i h0 h1
      have hc0 : ¬ c = 0 := fun e => h0 ((u8_int c 0).2 e)
      have hq : ¬ ((i = 0 ∧ (c = 32 ∨ c = 35)) ∨ (i + 1 = s.length ∧ c = 32) ∨ c ∈ [34, 43, 44, 59, 60, 62, 92]) := fun hq => by
        rw [← Bool.not_eq_true] at h1
        refine h1 ?_
        simp only [Bool.or_eq_true, Bool.and_eq_true, decide_eq_true_eq]
        rcases hq with ⟨e1, e2⟩ | ⟨e1, e2⟩ | e
        · exact .inl (.inr ⟨by omega, hq2.out.2 e2⟩)
        · exact .inr ⟨by omega, (u8_int c 32).2 e2⟩
        · exact .inl (.inl (hq1.out.2 e))
      rw [show u8s b ++ [AV.int IntKind.u8 (c.toNat : Int)] = u8s (b ++ [c]) by simp [u8s]]
      refine Nxt_mk _ _ _ (by omega) (Cut_same (by repeat' first | exact SubT_nil | refine SubT_cons rfl rfl ?_ | refine SubT_consF rfl rfl ?_ | refine SubT_cons rfl (congrArg (AV.int _) (by omega)) ?_ | refine SubT_cons rfl (by first | (simp_all; done) | (simp_all; omega) | (simp_all; intros; omega)) ?_) (by simp)) ⟨i + 1, m + 1, b ++ [c], rfl, hlt, by omega, hid ⟨by simp [hb.out.1], ?_⟩, rfl, rfl⟩
      rw [← hb2.out, wrB, if_neg hc0, if_neg hq, List.append_assoc]
  · have hke : i = s.length := by omega
    subst hke
    have g1 : ¬ (s.length : Int) < (s.length : Int) := by omega
    have e1 := u8s_all b
    have e2 := u8s_back b
    have e := hb.out.2
    rw [List.drop_length, wrL, List.append_nil] at e
    have h' := h.out
    rw [← e] at h'
    replace h' := hid h'
    clear e
    refine wk ?_
    exact Fin_pure rfl h'.out
end Go.Proofs.YtffnflplocbpiaaGreatDoor.Av

namespace Go.Proofs.YtffnflplocbpiaaGreatDoor.Av
open Go
set_option maxHeartbeats 8000000
set_option maxRecDepth 100000

def digV (n : Nat) : Nat := if n < 10 then 48 + n else 87 + n
theorem rdigit_k {n : Nat} (hn : n < 16) {L : List Blk} {K : AV → List Blk → Prop} (h : K (.int .u8 (digV n : Nat)) L) : ACall Tryz.prog 118 [.int .u8 n] L K := by
  unfold digV at h
  refine ACall_fn c_ref01_digit_eq (by simp [c_ref01_digit]) ?_
  simp only [c_ref01_digit, initT]
  by_cases h1 : n < 10
  · rw [if_pos h1] at h
    replace h := hid h
    have k1 : (n : Int) < 10 := by omega
    have k2 : IntKind.u8.wrap (48 + (n : Int)) = 48 + (n : Int) := wrapU8_in (by omega) (by omega)
    clear h1
    refine wk ?_
    refine Fin_same ?_
    simpa using h.out
  · rw [if_neg h1] at h
    replace h := hid h
    have k1 : ¬ (n : Int) < 10 := by omega
    have k2 : IntKind.u8.wrap (97 + (n : Int)) = 97 + (n : Int) := wrapU8_in (by omega) (by omega)
    have k3 : IntKind.u8.wrap (97 + (n : Int) - 10) = 97 + (n : Int) - 10 := wrapU8_in (by omega) (by omega)
    clear h1
    refine wk ?_
    refine Fin_same ?_
    have := h.out
    rwa [show ((87 + n : Nat) : Int) = 97 + (n : Int) - 10 by omega] at this
/-- Which byte two digits, folded, are of. -/
theorem hex_dig : ∀ (a : _root_.Fin 256) (x : _root_.Fin 16), (digV x.val = (lowB (UInt8.ofNat a.val)).toNat) ↔ hexV (UInt8.ofNat a.val) = some x.val := by decide +kernel
end Go.Proofs.YtffnflplocbpiaaGreatDoor.Av

namespace Go.Proofs.YtffnflplocbpiaaGreatDoor.Av
open Go
set_option maxHeartbeats 8000000
set_option maxRecDepth 100000

theorem hexm {a : UInt8} {x : Nat} (hx : x < 16) : ((digV x : Nat) : Int) = ((lowB a).toNat : Int) ↔ hexV a = some x := by
  have := hex_dig ⟨a.toNat, a.toNat_lt⟩ ⟨x, hx⟩
  simp only [UInt8.ofNat_toNat] at this
  rw [← this]; omega
/-- Are two digits those of k? -/
def hexK (a b : UInt8) (k : Nat) : Prop := hexV a = some (k / 16) ∧ hexV b = some (k % 16)
theorem hexK_some {a b : UInt8} {k : Nat} (h : hexK a b k) : hex2 a b = some (UInt8.ofNat k) := by
  obtain ⟨h1, h2⟩ := h
  simp only [hex2, h1, h2]
  congr 2; omega
theorem hexK_none {a b : UInt8} (h : ∀ j, j < 256 → ¬ hexK a b j) : hex2 a b = none := by
  unfold hex2
  rcases h1 : hexV a with _ | x
  · rfl
  · rcases h2 : hexV b with _ | y
    · rfl
    · have := hexV_lt h1
      have := hexV_lt h2
      exact absurd ⟨by rw [h1]; congr 1; omega, by rw [h2]; congr 1; omega⟩ (h (16 * x + y) (by omega))
theorem runhex2_k {a b : UInt8} {L : List Blk} {K : AV → List Blk → Prop} (h : K (hexR a b) L) : ACall Tryz.prog 97 [.str [a, b]] L K := by
  obtain ⟨p, hp⟩ : ∃ p, lowB a = p := ⟨_, rfl⟩
  obtain ⟨q, hq⟩ : ∃ q, lowB b = q := ⟨_, rfl⟩
  have hf : foldS [a, b] = [p, q] := by simp [foldS, hp, hq]
  have hl : [p, q].length = 2 := rfl
  have hl' : [a, b].length = 2 := rfl
  have ha : [p, q].getD 0 0 = p := rfl
  have hb : [p, q].getD 1 0 = q := rfl
  have d1 : Int.tmod 2 2 = 0 := by decide
  replace h := hid h
  refine ACall_fn c_ref01_Unhex_eq (by simp [c_ref01_Unhex]) ?_
  simp only [c_ref01_Unhex, initT]
  refine wk ?_
  refine rfold_k (by simp) ?_
  rw [hf]
  refine sk ?_
  refine wk ?_
  refine AW_grow (l := []) (n := 0) 4 1 rfl (Nat.zero_mul 1).symm ?_
  refine AW_loopT (fun n T' L' => (n = 1 ∧ T' = [(6, .int .i64 0), (4, .gsl [] 0 L.length 1), (5, .str [p, q]), (0, .str [a, b])] ∧ L' = L ++ [.spare 0 1]) ∨ (n = 0 ∧ ∃ (x : UInt8) (w : List AV), Hid (hex2 a b = some x ∧ w = u8s [x]) ∧ T' = [(6, .int .i64 2), (4, .gsl w 1 L.length 1), (5, .str [p, q]), (0, .str [a, b])] ∧ L' = L ++ [.spare 1 1])) (n0 := 1) (T0 := [(6, .int .i64 0), (4, .gsl [] 0 L.length 1), (5, .str [p, q]), (0, .str [a, b])]) (L0 := L ++ [.spare 0 1]) (Cut_same (by repeat' first | exact SubT_nil | refine SubT_cons rfl rfl ?_ | refine SubT_consF rfl rfl ?_) (by simp)) (.inl ⟨rfl, rfl, rfl⟩) ?_
  rintro _ _ _ (⟨rfl, rfl, rfl⟩ | ⟨rfl, x, w, hx, rfl, rfl⟩)
  · refine wk ?_
    refine AW_loopT (fun n T' L' => (∃ k : Nat, n = 257 - k ∧ k ≤ 256 ∧ Hid (∀ j, j < k → ¬ hexK a b j) ∧ T' = [(8, .int .i64 (k : Int)), (7, .bool false), (6, .int .i64 0), (4, .gsl [] 0 L.length 1), (5, .str [p, q]), (0, .str [a, b])] ∧ L' = L ++ [.spare 0 1]) ∨ (n = 0 ∧ ∃ (x : UInt8) (k : Nat) (w : List AV), k ≤ 256 ∧ Hid (hex2 a b = some x ∧ w = u8s [x]) ∧ T' = [(8, .int .i64 (k : Int)), (7, .bool true), (6, .int .i64 0), (4, .gsl w 1 L.length 1), (5, .str [p, q]), (0, .str [a, b])] ∧ L' = L ++ [.spare 1 1])) (n0 := 257) (T0 := [(8, .int .i64 0), (7, .bool false), (6, .int .i64 0), (4, .gsl [] 0 L.length 1), (5, .str [p, q]), (0, .str [a, b])]) (L0 := L ++ [.spare 0 1]) (Cut_same (by repeat' first | exact SubT_nil | refine SubT_cons rfl rfl ?_ | refine SubT_consF rfl rfl ?_) (by simp)) (.inl ⟨0, rfl, by omega, hid (by simp), rfl, rfl⟩) ?_
    rintro _ _ _ (⟨k, rfl, hk, hno, rfl, rfl⟩ | ⟨rfl, x, k, w, hk, hx, rfl, rfl⟩)
    · by_cases hlt : k < 256
      · have g1 : (k : Int) < 256 := by omega
        have g2 : IntKind.i64.wrap ((k : Int) + 1) = (k : Int) + 1 := wrap64_in (by omega) (by omega)
        have g3 : IntKind.u8.wrap (k : Int) = (k : Int) := wrapU8_in (by omega) (by omega)
        obtain ⟨u, hu⟩ : ∃ u, k / 16 = u := ⟨_, rfl⟩
        obtain ⟨v, hv⟩ : ∃ v, k % 16 = v := ⟨_, rfl⟩
        have hu16 : u < 16 := by omega
        have hv16 : v < 16 := by omega
        have g4 : IntKind.i64.wrap (Int.tdiv (k : Int) 16) = (u : Int) := by
          rw [Int.tdiv_eq_ediv_of_nonneg (by omega), wrap64_in (by omega) (by omega)]; omega
        have g5 : IntKind.u8.wrap (u : Int) = (u : Int) := wrapU8_in (by omega) (by omega)
        have g6 : Int.tmod (k : Int) 16 = (v : Int) := by
          rw [Int.tmod_eq_emod_of_nonneg (by omega)]; omega
        have g7 : IntKind.u8.wrap (v : Int) = (v : Int) := wrapU8_in (by omega) (by omega)
        have m1 := hexm (a := a) hu16
        have m2 := hexm (a := b) hv16
        rw [hp] at m1
        rw [hq] at m2
        have mk : hexK a b k ↔ hexV a = some u ∧ hexV b = some v := by unfold hexK; rw [hu, hv]
        replace hu := hid hu
        replace hv := hid hv
        replace mk := hid mk
        have nxt := hid fun (e : ¬ hexK a b k) => show ∀ j, j < k + 1 → ¬ hexK a b j from fun j hj => by
          rcases Nat.lt_or_ge j k with e' | e'
          · exact hno.out j e'
          · rw [show j = k by omega]; exact e
        by_cases h1 : hexV a = some u
        · have k1 := m1.2 h1
          by_cases h2 : hexV b = some v
          · have k2 := m2.2 h2
            have hx := hexK_some (mk.out.2 ⟨h1, h2⟩)
            have hkk : ((UInt8.ofNat k).toNat : Int) = (k : Int) := by simp; omega
            replace hkk := hid hkk
            replace hx := hid hx
            clear m1 m2 h1 h2
            have kk1 := @hid _ (fun L K => rdigit_k hu16 (L := L) (K := K))
            have kk2 := @hid _ (fun L K => rdigit_k hv16 (L := L) (K := K))
            refine wk ?_
            refine Nxt_mk _ _ _ (by omega) (Cut_same (by repeat' first | exact SubT_nil | refine SubT_cons rfl rfl ?_ | refine SubT_consF rfl rfl ?_ | refine SubT_cons rfl (congrArg (AV.int _) (by omega)) ?_ | refine SubT_cons rfl (by first | (simp_all; done) | (simp_all; omega) | (simp_all; intros; omega)) ?_) (by simp)) (.inr ⟨rfl, UInt8.ofNat k, k + 1, _, by omega, hid ⟨hx.out, ?_⟩, rfl, rfl⟩)
            simp only [u8s, List.map, hkk.out]
          · have k2 : ¬ ((digV v : Nat) : Int) = (q.toNat : Int) := fun e => h2 (m2.1 e)
            have hn := hid (nxt.out fun e => h2 (mk.out.1 e).2)
            clear m1 m2 h1 h2
            have kk1 := @hid _ (fun L K => rdigit_k hu16 (L := L) (K := K))
            have kk2 := @hid _ (fun L K => rdigit_k hv16 (L := L) (K := K))
            refine wk ?_
            exact Nxt_mk _ _ _ (by omega) (Cut_same (by repeat' first | exact SubT_nil | refine SubT_cons rfl rfl ?_ | refine SubT_consF rfl rfl ?_ | refine SubT_cons rfl (congrArg (AV.int _) (by omega)) ?_ | refine SubT_cons rfl (by first | (simp_all; done) | (simp_all; omega) | (simp_all; intros; omega)) ?_) (by simp)) (.inl ⟨k + 1, rfl, by omega, hn, rfl, rfl⟩)
        · have k1 : ¬ ((digV u : Nat) : Int) = (p.toNat : Int) := fun e => h1 (m1.1 e)
          have hn := hid (nxt.out fun e => h1 (mk.out.1 e).1)
          clear m1 m2 h1
          have kk1 := @hid _ (fun L K => rdigit_k hu16 (L := L) (K := K))
          refine wk ?_
          exact Nxt_mk _ _ _ (by omega) (Cut_same (by repeat' first | exact SubT_nil | refine SubT_cons rfl rfl ?_ | refine SubT_consF rfl rfl ?_ | refine SubT_cons rfl (congrArg (AV.int _) (by omega)) ?_ | refine SubT_cons rfl (by first | (simp_all; done) | (simp_all; omega) | (simp_all; intros; omega)) ?_) (by simp)) (.inl ⟨k + 1, rfl, by omega, hn, rfl, rfl⟩)
      · have hke : k = 256 := by omega
        subst hke
        have h' := h.out
        simp only [hexR, hexK_none hno.out] at h'
        replace h' := hid h'
        have g1 : ¬ ((256 : Nat) : Int) < 256 := by omega
        refine wk ?_
        exact Fin_pure rfl h'.out
    · by_cases hlt : (k : Int) < 256
      · refine wk ?_
        exact Nxt_mk _ _ _ (by omega) (Cut_same (by repeat' first | exact SubT_nil | refine SubT_cons rfl rfl ?_ | refine SubT_consF rfl rfl ?_ | refine SubT_cons rfl (congrArg (AV.int _) (by omega)) ?_ | refine SubT_cons rfl (by first | (simp_all; done) | (simp_all; omega) | (simp_all; intros; omega)) ?_) (by simp)) (.inr ⟨rfl, x, w, hx, rfl, rfl⟩)
      · refine wk ?_
        exact Nxt_mk _ _ _ (by omega) (Cut_same (by repeat' first | exact SubT_nil | refine SubT_cons rfl rfl ?_ | refine SubT_consF rfl rfl ?_ | refine SubT_cons rfl (congrArg (AV.int _) (by omega)) ?_ | refine SubT_cons rfl (by first | (simp_all; done) | (simp_all; omega) | (simp_all; intros; omega)) ?_) (by simp)) (.inr ⟨rfl, x, w, hx, rfl, rfl⟩)
  · have h' := h.out
    simp only [hexR, hx.out.1] at h'
    replace h' := hid h'
    rw [hx.out.2]
    have e1 := u8s_all [x]
    have e2 := u8s_back [x]
    refine wk ?_
    exact Fin_pure rfl h'.out
end Go.Proofs.YtffnflplocbpiaaGreatDoor.Av

namespace Go.Proofs.YtffnflplocbpiaaGreatDoor.Av
open Go
set_option maxHeartbeats 8000000
set_option maxRecDepth 100000

/-- The value at the front that may be one, and what is behind it. -/
def valQ (b : List UInt8) (bl : Bool) (s : List UInt8) : Option (List UInt8 × List UInt8) := match valL b bl s with
  | some (v, r, true) => some (v, r)
  | _ => none
def valP (n : Nat) (o : Option (List UInt8 × List UInt8)) : AV := match o with
  | none => .tup [.str [], .int .i64 0, .bool false]
  | some (v, r) => .tup [.str v, .int .i64 ((n - r.length : Nat) : Int), .bool true]
theorem valQ_stop {b s : List UInt8} {c : UInt8} (h : c = 44 ∨ c = 43) : valQ b false (c :: s) = some (b, c :: s) := by simp only [valQ, valL_stop h]; rfl
theorem valQ_stopT {b s : List UInt8} {c : UInt8} (h : c = 44 ∨ c = 43) : valQ b true (c :: s) = none := by simp only [valQ, valL_stop h]; rfl
theorem valQ_nil {b : List UInt8} : valQ b false [] = some (b, []) := by simp only [valQ, valL_nil]; rfl
theorem valQ_nilT {b : List UInt8} : valQ b true [] = none := by simp only [valQ, valL_nil]; rfl
theorem valQ_bad {b s : List UInt8} {bl : Bool} {c : UInt8} (h : ¬ (c = 44 ∨ c = 43)) (h2 : c ≠ 92) (hb : c = 0 ∨ c ∈ ([34, 59, 60, 62] : List UInt8) ∨ (b = [] ∧ (c = 32 ∨ c = 35))) : valQ b bl (c :: s) = none := by
  simp only [valQ, valL_plain h h2, if_pos hb]
theorem valQ_plain {b s : List UInt8} {bl : Bool} {c : UInt8} (h : ¬ (c = 44 ∨ c = 43)) (h2 : c ≠ 92) (hb : ¬ (c = 0 ∨ c ∈ ([34, 59, 60, 62] : List UInt8) ∨ (b = [] ∧ (c = 32 ∨ c = 35)))) : valQ b bl (c :: s) = valQ (b ++ [c]) (decide (c = 32)) s := by
  simp only [valQ, valL_plain h h2, if_neg hb]

theorem rinSp_k {x : UInt8} {L : List Blk} {K : AV → List Blk → Prop} (h : K (.bool (specB.contains x)) L) : ACall Tryz.prog 96 [.int .u8 x.toNat, .str specB] L K := rin_k (by simp) h
theorem rin4_k {a b c d x : UInt8} {L : List Blk} {K : AV → List Blk → Prop} (h : K (.bool ([a, b, c, d].contains x)) L) : ACall Tryz.prog 96 [.int .u8 x.toNat, .str [a, b, c, d]] L K := rin_k (by simp) h
theorem rin2_k {a b x : UInt8} {L : List Blk} {K : AV → List Blk → Prop} (h : K (.bool ([a, b].contains x)) L) : ACall Tryz.prog 96 [.int .u8 x.toNat, .str [a, b]] L K := rin_k (by simp) h
theorem rvalue_k {s : List UInt8} {at0 : Nat} (hs : s.length ≤ 100000) (hat : at0 ≤ s.length) {L : List Blk} {K : AV → List Blk → Prop} (h : K (valP s.length (valQ [] false (s.drop at0))) L) : ACall Tryz.prog 67 [.str s, .int .i64 (at0 : Int)] L K := by
  obtain ⟨R, hR⟩ : ∃ R, valQ [] false (s.drop at0) = R := ⟨_, rfl⟩
  rw [hR] at h
  replace h := hid h
  refine ACall_fn c_ref09_value_eq (by simp [c_ref09_value]) ?_
  simp only [c_ref09_value, initT]
  refine wk ?_
  refine AW_grow (l := []) (n := 0) 7 1 rfl (Nat.zero_mul 1).symm ?_
  refine AW_loopT (fun n T' L' => ∃ (i m : Nat) (b : List UInt8) (bl fb : Bool), n = s.length - i ∧ i ≤ s.length ∧ m ≤ i ∧ Hid (m = b.length ∧ valQ b bl (s.drop i) = R ∧ (bl = true → i < s.length ∧ s.getD i 0 ≠ 44 ∧ s.getD i 0 ≠ 43) ∧ (fb = true ↔ b = [])) ∧ T' = [(8, .bool fb), (1, .int .i64 (i : Int)), (7, .gsl (u8s b) m L.length 1), (0, .str s)] ∧ L' = L ++ [.spare m 1]) (Cut_same (by repeat' first | exact SubT_nil | refine SubT_cons rfl rfl ?_ | refine SubT_consF rfl rfl ?_) (by simp)) ⟨at0, 0, [], false, true, rfl, hat, by omega, hid ⟨rfl, hR, by simp, by simp⟩, rfl, rfl⟩ ?_
  rintro _ _ _ ⟨i, m, b, bl, fb, rfl, hi, hm, hI, rfl, rfl⟩
  have e1 := u8s_all b
  have e2 := u8s_back b
  by_cases hlt : i < s.length
  · have g1 : (i : Int) < (s.length : Int) := by omega
    have g2 : IntKind.i64.wrap ((i : Int) + 1) = (i : Int) + 1 := wrap64_in (by omega) (by omega)
    obtain ⟨c, hc⟩ : ∃ c, s.getD i 0 = c := ⟨_, rfl⟩
    have hdr := drop1 hlt
    rw [hc] at hdr
    have hb2 := hI.out.2.1
    rw [hdr] at hb2
    by_cases hcc : c = 44 ∨ c = 43
    · have hbl : bl = false := by
        cases bl with
        | false => rfl
        | true =>
          obtain ⟨_, n1, n2⟩ := hI.out.2.2.1 rfl
          rw [hc] at n1 n2
          rcases hcc with e | e
          · exact absurd e n1
          · exact absurd e n2
      subst hbl
      rw [valQ_stop hcc] at hb2
      have h' := h.out
      rw [← hb2] at h'
      simp only [valP] at h'
      rw [← hdr, List.length_drop, show s.length - (s.length - i) = i by omega] at h'
      replace h' := hid h'
      have k1 : ((c.toNat : Int) = 44) ∨ ((c.toNat : Int) = 43) := hcc.imp (u8_int c 44).2 (u8_int c 43).2
      clear hb2 hcc hdr
      rcases k1 with k1 | k1
      · refine wk ?_
        exact Fin_pure rfl h'.out
      · refine wk ?_
        exact Fin_pure rfl h'.out
    · have k1 : ¬ (c.toNat : Int) = 44 := fun e => hcc (.inl ((u8_int c 44).1 e))
      have k2 : ¬ (c.toNat : Int) = 43 := fun e => hcc (.inr ((u8_int c 43).1 e))
      by_cases h92 : c = 92
      · subst h92
        have g3 : IntKind.i64.wrap ((i : Int) + 1 + 1) = (i : Int) + 1 + 1 := wrap64_in (by omega) (by omega)
        have g4 : IntKind.i64.wrap ((i : Int) + 1 + 2) = (i : Int) + 1 + 2 := wrap64_in (by omega) (by omega)
        have t1 : ((i : Int) + 1).toNat = i + 1 := by omega
        have t3 : ((i : Int) + 1 + 2).toNat = i + 3 := by omega
        by_cases h1 : i + 1 < s.length
        · have f1 : (i : Int) + 1 < (s.length : Int) := by omega
          have f0 : ¬ (i : Int) + 1 = (s.length : Int) := by omega
          obtain ⟨d, hd⟩ : ∃ d, s.getD (i + 1) 0 = d := ⟨_, rfl⟩
          have hdr1 := drop1 h1
          rw [hd] at hdr1
          rw [hdr1] at hb2
          by_cases hsp : d ∈ specB
          · simp only [valQ, valL_esc1 hsp] at hb2
            have f2 : specB.contains d = true := List.contains_iff_mem.2 hsp
            clear hdr hdr1 hcc
            replace hb2 := hid hb2
            have kk1 := @hid _ @rinSp_k
            have kk2 := @hid _ @rin4_k
            have kk3 := @hid _ @rin2_k
            refine wk ?_
            rw [show u8s b ++ [AV.int IntKind.u8 (d.toNat : Int)] = u8s (b ++ [d]) by simp [u8s]]
            exact Nxt_mk _ _ _ (by omega) (Cut_same (by repeat' first | exact SubT_nil | refine SubT_cons rfl rfl ?_ | refine SubT_consF rfl rfl ?_ | refine SubT_cons rfl (congrArg (AV.int _) (by omega)) ?_ | refine SubT_cons rfl (by first | (simp_all; done) | (simp_all; omega) | (simp_all; intros; omega)) ?_) (by simp)) ⟨i + 1 + 1, m + 1, b ++ [d], false, false, rfl, h1, by omega, hid ⟨by simp [hI.out.1], hb2.out, by simp, by simp⟩, rfl, rfl⟩
          · have f2 : specB.contains d = false := by
              rw [← Bool.not_eq_true, List.contains_iff_mem]; exact hsp
            by_cases h2 : i + 2 < s.length
            · have f3 : ¬ (s.length : Int) < (i : Int) + 1 + 2 := by omega
              have f4 : (i : Int) + 1 ≤ (i : Int) + 1 + 2 := by omega
              have f5 : (i : Int) + 1 + 2 ≤ (s.length : Int) := by omega
              have f6 : (0 : Int) ≤ (i : Int) + 1 := by omega
              obtain ⟨e, he⟩ : ∃ e, s.getD (i + 2) 0 = e := ⟨_, rfl⟩
              have hdr2 := drop1 h2
              rw [he] at hdr2
              rw [hdr2] at hb2
              simp only [valQ, valL_hex hsp] at hb2
              have hcut : (s.drop (i + 1)).take (i + 3 - (i + 1)) = [d, e] := by
                rw [hdr1, hdr2, show i + 3 - (i + 1) = 2 by omega]; rfl
              clear hdr hdr1 hdr2 hcc
              replace hb2 := hid hb2
              have kk1 := @hid _ @rinSp_k
              have kk2 := @hid _ @rin4_k
              have kk3 := @hid _ @rin2_k
              refine wk ?_
              refine runhex2_k ?_
              rcases hx : hex2 d e with _ | x
              · rw [show hexR d e = .tup [.str [], .bool false] by simp only [hexR, hx]]
                have h' := h.out
                rw [← hb2.out, hx] at h'
                simp only [valP] at h'
                replace h' := hid h'
                clear hx
                refine sk ?_
                refine wk ?_
                exact Fin_pure rfl h'.out
              · rw [show hexR d e = .tup [.str [x], .bool true] by simp only [hexR, hx]]
                have hb3 := hb2.out
                rw [hx] at hb3
                simp only at hb3
                replace hb3 := hid hb3
                have q1 : [x].getD 0 0 = x := rfl
                clear hx hb2
                refine sk ?_
                refine wk ?_
                rw [show u8s b ++ [AV.int IntKind.u8 (x.toNat : Int)] = u8s (b ++ [x]) by simp [u8s]]
                exact Nxt_mk _ _ _ (by omega) (Cut_same (by repeat' first | exact SubT_nil | refine SubT_cons rfl rfl ?_ | refine SubT_consF rfl rfl ?_ | refine SubT_cons rfl (congrArg (AV.int _) (by omega)) ?_ | refine SubT_cons rfl (by first | (simp_all; done) | (simp_all; omega) | (simp_all; intros; omega)) ?_) (by simp)) ⟨i + 1 + 2, m + 1, b ++ [x], false, false, rfl, h2, by omega, hid ⟨by simp [hI.out.1], hb3.out, by simp, by simp⟩, rfl, rfl⟩
            · have f3 : (s.length : Int) < (i : Int) + 1 + 2 := by omega
              have hnil : s.drop (i + 1 + 1) = [] := List.drop_eq_nil_of_le (by omega)
              rw [hnil] at hb2
              simp only [valQ, valL_esc2 hsp] at hb2
              have h' := h.out
              rw [← hb2] at h'
              replace h' := hid h'
              clear hdr hdr1 hb2 hcc
              have kk1 := @hid _ @rinSp_k
              have kk2 := @hid _ @rin4_k
              have kk3 := @hid _ @rin2_k
              refine wk ?_
              exact Fin_pure rfl h'.out
        · have f1 : ¬ (i : Int) + 1 < (s.length : Int) := by omega
          have f0 : (i : Int) + 1 = (s.length : Int) := by omega
          have f3 : (s.length : Int) < (s.length : Int) + 2 := by omega
          have f4 : ¬ (s.length : Int) < (s.length : Int) := by omega
          have g5 : IntKind.i64.wrap (s.length : Int) = (s.length : Int) := wrap64_in (by omega) (by omega)
          have g6 : IntKind.i64.wrap ((s.length : Int) + 2) = (s.length : Int) + 2 := wrap64_in (by omega) (by omega)
          have hnil : s.drop (i + 1) = [] := List.drop_eq_nil_of_le (by omega)
          rw [hnil] at hb2
          simp only [valQ, valL_esc0] at hb2
          have h' := h.out
          rw [← hb2] at h'
          replace h' := hid h'
          clear hdr hb2 hcc
          have kk1 := @hid _ @rinSp_k
          have kk2 := @hid _ @rin4_k
          have kk3 := @hid _ @rin2_k
          refine wk ?_
          exact Fin_pure rfl h'.out
      · have k3 : ¬ (c.toNat : Int) = 92 := fun e => h92 ((u8_int c 92).1 e)
        obtain ⟨p1, hp1⟩ : ∃ p, ([34, 59, 60, 62] : List UInt8).contains c = p := ⟨_, rfl⟩
        obtain ⟨p2, hp2⟩ : ∃ p, ([32, 35] : List UInt8).contains c = p := ⟨_, rfl⟩
        have hq1 : p1 = true ↔ c ∈ ([34, 59, 60, 62] : List UInt8) := by rw [← hp1, List.contains_iff_mem]
        have hq2 : p2 = true ↔ (c = 32 ∨ c = 35) := by rw [← hp2, List.contains_iff_mem]; simp
        replace hq1 := hid hq1
        replace hq2 := hid hq2
        have h0 := hid (u8_int c 0)
        have h32 := hid (u8_int c 32)
        have hfb := hid hI.out.2.2.2
        obtain ⟨lst, hlst⟩ : ∃ lst : Bool, decide (i + 1 < s.length → s.getD (i + 1) 0 = 44 ∨ s.getD (i + 1) 0 = 43) = lst := ⟨_, rfl⟩
        have hbad := hid fun (e : c = 0 ∨ c ∈ ([34, 59, 60, 62] : List UInt8) ∨ (b = [] ∧ (c = 32 ∨ c = 35))) => (show R = none by rw [← hb2, valQ_bad hcc h92 e])
        have hend := hid fun (e : lst = true ∧ c = 32) => (show R = none by
          by_cases eb : c = 0 ∨ c ∈ ([34, 59, 60, 62] : List UInt8) ∨ (b = [] ∧ (c = 32 ∨ c = 35))
          · exact hbad.out eb
          · rw [← hb2, valQ_plain hcc h92 eb, e.2]
            have el := of_decide_eq_true (hlst.trans e.1)
            simp only [decide_true]
            by_cases h1 : i + 1 < s.length
            · rw [drop1 h1, valQ_stopT (el h1)]
            · rw [List.drop_eq_nil_of_le (by omega), valQ_nilT])
        have hgo := hid fun (e : ¬ (c = 0 ∨ c ∈ ([34, 59, 60, 62] : List UInt8) ∨ (b = [] ∧ (c = 32 ∨ c = 35)))) => (show valQ (b ++ [c]) (decide (c = 32)) (s.drop (i + 1)) = R by rw [← hb2, valQ_plain hcc h92 e])
        replace hlst := hid hlst
        clear hdr hb2 hcc
        have bad : R = none → Fin L (.tup [.str [], .int .i64 0, .bool false]) (L ++ [.spare m 1]) K := fun e => Fin_pure rfl (by have h' := h.out; rwa [e] at h')
        replace bad := hid bad
        by_cases h1 : i + 1 < s.length
        · have f1 : (i : Int) + 1 < (s.length : Int) := by omega
          have f0 : ¬ (i : Int) + 1 = (s.length : Int) := by omega
          have t1 : ((i : Int) + 1).toNat = i + 1 := by omega
          obtain ⟨d, hd⟩ : ∃ d, s.getD (i + 1) 0 = d := ⟨_, rfl⟩
          have hlst2 := hid (show lst = true ↔ ((d.toNat : Int) = 44 ∨ (d.toNat : Int) = 43) by
            rw [← hlst.out, decide_eq_true_eq, hd, show (44 : Int) = ((44 : UInt8).toNat : Int) from rfl, show (43 : Int) = ((43 : UInt8).toNat : Int) from rfl, u8_int, u8_int]
            exact ⟨fun e => e h1, fun e _ => e⟩)
          repeat' first
            | refine AW_seq ?_
            | (first | refine AW_sreg (by kernel_rfl) ?_ | refine AW_sdreg (by kernel_rfl) ?_ | refine AW_dregM ?_ | refine Nx_in ?_ | refine NxI_in (fun _ => ?_) | refine AW_region ?_ | refine AW_dreg ?_ | refine rin_k (by simp) ?_ | refine CalK2_mk (rin_k (by simp) ⟨rfl, rfl⟩) (rin_k (by simp) ⟨rfl, rfl⟩) ?_ | refine CalK_mk (rin_k (by simp) ⟨rfl, rfl⟩) ?_)
              simp (config := { maxSteps := 2000000 }) only [Kon, push_cast, reduceIte, Nat.reduceEqDiff, Nat.reduceAdd, Nat.reduceMul, Nat.reduceSub, Nat.reduceLT, Nat.reduceLeDiff, Int.reduceLT, Int.reduceLE, Int.reduceAdd, Int.reduceSub, Int.reduceNeg, Int.reduceToNat, Int.reduceEq, reduceCtorEq, *]
            | (first | refine SelK_mk (by kernel_rfl) ?_ | refine AW_skip ?_ | refine AW_exit ?_ | refine AW_ret (Back_retR ?_))
              simp only [push_cast, reduceIte, Nat.reduceEqDiff, Nat.reduceAdd, Nat.reduceMul, Nat.reduceSub, Nat.reduceLT, Nat.reduceLeDiff, Int.reduceLT, Int.reduceLE, Int.reduceAdd, Int.reduceSub, Int.reduceNeg, Int.reduceToNat, Int.reduceEq, reduceCtorEq, *]
            | exact IsB_mk
            | first | apply GQ_mkT | apply GQ_mkTN | apply GQ_mkF | apply GQ_mkFN | apply GQ_mkB | apply GQ_mkBF
            | refine AW_block ?_
            | first | refine AW_condT rfl ?_ | refine AW_condF rfl ?_ | refine AW_condAny rfl ?_ ?_ | refine AW_condB rfl (fun _ => ?_) (fun _ => ?_) | refine AW_condN rfl (fun _ => ?_) (fun _ => ?_)
            | ((first | refine ite_introN (fun _ => ?_) (fun _ => ?_) | refine ite_intro (fun _ => ?_) (fun _ => ?_)) <;> try simp (config := { maxSteps := 2000000 }) only [Kon, push_cast, reduceIte, Nat.reduceEqDiff, Nat.reduceAdd, Nat.reduceMul, Nat.reduceSub, Nat.reduceLT, Nat.reduceLeDiff, Int.reduceLT, Int.reduceLE, Int.reduceAdd, Int.reduceSub, Int.reduceNeg, Int.reduceToNat, Int.reduceEq, reduceCtorEq, *])
            | refine And.intro trivial ?_
            | refine And.intro (by omega) ?_
            | refine AW_cond rfl (fun _ => ?_) (fun _ => ?_)
            | refine And.intro ?_ ?_
          · rename_i hx
            refine bad.out ?_
            simp only [Bool.or_eq_true, Bool.and_eq_true, decide_eq_true_eq] at hx
            rcases hx with ((e | e) | ⟨e, e'⟩) | e
            · exact hbad.out (.inl (h0.out.1 e))
            · exact hbad.out (.inr (.inl (hq1.out.1 e)))
            · exact hbad.out (.inr (.inr ⟨hfb.out.1 e, hq2.out.1 e'⟩))
            · exact hend.out ⟨hlst2.out.2 e.1, h32.out.1 e.2⟩
          · rename_i hx
            rw [← Bool.not_eq_true] at hx
            simp only [Bool.or_eq_true, Bool.and_eq_true, decide_eq_true_eq] at hx
            rw [show u8s b ++ [AV.int IntKind.u8 (c.toNat : Int)] = u8s (b ++ [c]) by simp [u8s]]
            refine Nxt_mk _ _ _ (by omega) (Cut_same (by repeat' first | exact SubT_nil | refine SubT_cons rfl rfl ?_ | refine SubT_consF rfl rfl ?_ | refine SubT_cons rfl (congrArg (AV.int _) (by omega)) ?_ | refine SubT_cons rfl (by first | (simp_all; done) | (simp_all; omega) | (simp_all; intros; omega)) ?_) (by simp)) ⟨i + 1, m + 1, b ++ [c], decide (c = 32), false, rfl, hlt, by omega, hid ⟨by simp [hI.out.1], ?_, fun e => ?_, by simp⟩, rfl, rfl⟩
            · refine hgo.out fun e => hx ?_
              rcases e with e | e | ⟨e, e'⟩
              · exact .inl (.inl (.inl (h0.out.2 e)))
              · exact .inl (.inl (.inr (hq1.out.2 e)))
              · exact .inl (.inr ⟨hfb.out.2 e, hq2.out.2 e'⟩)
            · have e32 := h32.out.2 (of_decide_eq_true e)
              refine ⟨h1, ?_, ?_⟩
              · intro e4
                exact hx (.inr ⟨.inl (by rw [← hd, e4]; rfl), e32⟩)
              · intro e4
                exact hx (.inr ⟨.inr (by rw [← hd, e4]; rfl), e32⟩)
        · have f1 : ¬ (i : Int) + 1 < (s.length : Int) := by omega
          have f0 : (i : Int) + 1 = (s.length : Int) := by omega
          have g5 : IntKind.i64.wrap (s.length : Int) = (s.length : Int) := wrap64_in (by omega) (by omega)
          have hlst2 := hid (show lst = true by rw [← hlst.out, decide_eq_true_eq]; exact fun e => absurd e h1)
          repeat' first
            | refine AW_seq ?_
            | (first | refine AW_sreg (by kernel_rfl) ?_ | refine AW_sdreg (by kernel_rfl) ?_ | refine AW_dregM ?_ | refine Nx_in ?_ | refine NxI_in (fun _ => ?_) | refine AW_region ?_ | refine AW_dreg ?_ | refine rin_k (by simp) ?_ | refine CalK2_mk (rin_k (by simp) ⟨rfl, rfl⟩) (rin_k (by simp) ⟨rfl, rfl⟩) ?_ | refine CalK_mk (rin_k (by simp) ⟨rfl, rfl⟩) ?_)
              simp (config := { maxSteps := 2000000 }) only [Kon, push_cast, reduceIte, Nat.reduceEqDiff, Nat.reduceAdd, Nat.reduceMul, Nat.reduceSub, Nat.reduceLT, Nat.reduceLeDiff, Int.reduceLT, Int.reduceLE, Int.reduceAdd, Int.reduceSub, Int.reduceNeg, Int.reduceToNat, Int.reduceEq, reduceCtorEq, *]
            | (first | refine SelK_mk (by kernel_rfl) ?_ | refine AW_skip ?_ | refine AW_exit ?_ | refine AW_ret (Back_retR ?_))
              simp only [push_cast, reduceIte, Nat.reduceEqDiff, Nat.reduceAdd, Nat.reduceMul, Nat.reduceSub, Nat.reduceLT, Nat.reduceLeDiff, Int.reduceLT, Int.reduceLE, Int.reduceAdd, Int.reduceSub, Int.reduceNeg, Int.reduceToNat, Int.reduceEq, reduceCtorEq, *]
            | exact IsB_mk
            | first | apply GQ_mkT | apply GQ_mkTN | apply GQ_mkF | apply GQ_mkFN | apply GQ_mkB | apply GQ_mkBF
            | refine AW_block ?_
            | first | refine AW_condT rfl ?_ | refine AW_condF rfl ?_ | refine AW_condAny rfl ?_ ?_ | refine AW_condB rfl (fun _ => ?_) (fun _ => ?_) | refine AW_condN rfl (fun _ => ?_) (fun _ => ?_)
            | ((first | refine ite_introN (fun _ => ?_) (fun _ => ?_) | refine ite_intro (fun _ => ?_) (fun _ => ?_)) <;> try simp (config := { maxSteps := 2000000 }) only [Kon, push_cast, reduceIte, Nat.reduceEqDiff, Nat.reduceAdd, Nat.reduceMul, Nat.reduceSub, Nat.reduceLT, Nat.reduceLeDiff, Int.reduceLT, Int.reduceLE, Int.reduceAdd, Int.reduceSub, Int.reduceNeg, Int.reduceToNat, Int.reduceEq, reduceCtorEq, *])
            | refine And.intro trivial ?_
            | refine And.intro (by omega) ?_
            | refine AW_cond rfl (fun _ => ?_) (fun _ => ?_)
            | refine And.intro ?_ ?_
          · rename_i hx
            refine bad.out ?_
            simp only [Bool.or_eq_true, Bool.and_eq_true, decide_eq_true_eq] at hx
            rcases hx with ((e | e) | ⟨e, e'⟩) | e
            · exact hbad.out (.inl (h0.out.1 e))
            · exact hbad.out (.inr (.inl (hq1.out.1 e)))
            · exact hbad.out (.inr (.inr ⟨hfb.out.1 e, hq2.out.1 e'⟩))
            · exact hend.out ⟨hlst2.out, h32.out.1 e⟩
          · rename_i hx
            rw [← Bool.not_eq_true] at hx
            simp only [Bool.or_eq_true, Bool.and_eq_true, decide_eq_true_eq] at hx
            rw [show u8s b ++ [AV.int IntKind.u8 (c.toNat : Int)] = u8s (b ++ [c]) by simp [u8s]]
            refine Nxt_mk _ _ _ (by omega) (Cut_same (by repeat' first | exact SubT_nil | refine SubT_cons rfl rfl ?_ | refine SubT_consF rfl rfl ?_ | refine SubT_cons rfl (congrArg (AV.int _) (by omega)) ?_ | refine SubT_cons rfl (by first | (simp_all; done) | (simp_all; omega) | (simp_all; intros; omega)) ?_) (by simp)) ⟨i + 1, m + 1, b ++ [c], decide (c = 32), false, rfl, hlt, by omega, hid ⟨by simp [hI.out.1], ?_, fun e => ?_, by simp⟩, rfl, rfl⟩
            · refine hgo.out fun e => hx ?_
              rcases e with e | e | ⟨e, e'⟩
              · exact .inl (.inl (.inl (h0.out.2 e)))
              · exact .inl (.inl (.inr (hq1.out.2 e)))
              · exact .inl (.inr ⟨hfb.out.2 e, hq2.out.2 e'⟩)
            · have e32 := h32.out.2 (of_decide_eq_true e)
              exact absurd (.inr e32) hx
  · have hke : i = s.length := by omega
    subst hke
    have g1 : ¬ (s.length : Int) < (s.length : Int) := by omega
    have hbl : bl = false := by
      cases bl with
      | false => rfl
      | true => exact absurd (hI.out.2.2.1 rfl).1 (by omega)
    subst hbl
    have h' := h.out
    rw [← hI.out.2.1, List.drop_length, valQ_nil] at h'
    simp only [valP, List.length_nil, Nat.sub_zero] at h'
    replace h' := hid h'
    refine wk ?_
    exact Fin_pure rfl h'.out
end Go.Proofs.YtffnflplocbpiaaGreatDoor.Av

namespace Go.Proofs.YtffnflplocbpiaaGreatDoor.Av
open Go
set_option maxHeartbeats 8000000
set_option maxRecDepth 100000

theorem valL_suf : ∀ (n : Nat) {s b : List UInt8} {bl : Bool} {v r : List UInt8} {ok : Bool}, s.length ≤ n → valL b bl s = some (v, r, ok) → r <:+ s := by
  intro n
  induction n with
  | zero =>
    intro s b bl v r ok hn h
    obtain rfl := List.length_eq_zero_iff.1 (Nat.le_zero.1 hn)
    rw [valL_nil] at h; cases h; exact List.suffix_refl _
  | succ n ih =>
    intro s b bl v r ok hn h
    cases s with
    | nil => rw [valL_nil] at h; cases h; exact List.suffix_refl _
    | cons c s =>
      simp only [List.length_cons] at hn
      by_cases hc : c = 44 ∨ c = 43
      · rw [valL_stop hc] at h; cases h; exact List.suffix_refl _
      by_cases h92 : c = 92
      · subst h92
        cases s with
        | nil => rw [valL_esc0] at h; cases h
        | cons d s =>
          by_cases hd : d ∈ specB
          · rw [valL_esc1 hd] at h
            exact (ih (by simp at hn; omega) h).trans ((List.suffix_cons _ _).trans (List.suffix_cons _ _))
          · cases s with
            | nil => rw [valL_esc2 hd] at h; cases h
            | cons e s =>
              rw [valL_hex hd] at h
              split at h
              · cases h
              · exact (ih (by simp at hn; omega) h).trans ((List.suffix_cons _ _).trans ((List.suffix_cons _ _).trans (List.suffix_cons _ _)))
      · rw [valL_plain hc h92] at h
        split at h
        · cases h
        · exact (ih (by omega) h).trans (List.suffix_cons _ _)
theorem valQ_some {s v r : List UInt8} (h : valQ [] false s = some (v, r)) : valL [] false s = some (v, r, true) := by
  unfold valQ at h
  split at h
  · rename_i e; cases h; exact e
  · cases h
theorem parF_step (f : Nat) (out : List Rdn) (now : Rdn) (s : List UInt8) : parF (f + 1) out now s = if out.length = 32 ∨ now.length = 8 then ([], 9) else match cutE s with
    | none => ([], 4)
    | some (typ, rest) => if typS typ = false then ([], 4) else if hasT now typ = true then ([], 21) else match valQ [] false rest with
      | none => ([], 4)
      | some (v, r2) => match r2 with
        | [] => (out ++ [now ++ [(typ, v)]], 0)
        | c :: s' => if c = 44 then parF f (out ++ [now ++ [(typ, v)]]) [] s' else parF f out (now ++ [(typ, v)]) s' := by
  rw [parF]
  congr 1
  rcases cutE s with _ | ⟨typ, rest⟩
  · rfl
  · simp only
    congr 1
    congr 1
    unfold valQ
    rcases valL [] false rest with _ | ⟨v, r2, ok⟩
    · rfl
    · cases ok <;> rfl
theorem cutE_scan {s : List UInt8} {i j : Nat} (hij : i ≤ j) (hj : j < s.length) (hc : s.getD j 0 ≠ 61) (h : cutE (s.drop i) = (cutE (s.drop j)).map fun p => ((s.drop i).take (j - i) ++ p.1, p.2)) :
    cutE (s.drop i) = (cutE (s.drop (j + 1))).map fun p => ((s.drop i).take (j + 1 - i) ++ p.1, p.2) := by
  rw [h, drop1 hj]
  simp only [cutE, if_neg hc]
  have ht : (s.drop i).take (j + 1 - i) = (s.drop i).take (j - i) ++ [s.getD j 0] := by
    rw [show j + 1 - i = (j - i) + 1 by omega, List.take_succ_eq_append_getElem (by simp; omega)]
    congr 2
    simp [show i + (j - i) = j by omega, hj]
  rw [ht]
  rcases cutE (s.drop (j + 1)) with _ | ⟨a, b⟩
  · rfl
  · simp
theorem rhasG_k {r : Rdn} {typ : List UInt8} {i n : Nat} (hr : r.length = n) (hn : n ≤ 8) (h1 : ∀ a ∈ r, a.1.length ≤ 32) (h2 : typ.length ≤ 4096) {L : List Blk} {K : AV → List Blk → Prop} (h : K (.bool (hasT r typ)) L) :
    ACall Tryz.prog 66 [.gsl (avasA r) n i 2, .str typ] L K := by
  subst hr
  exact ACall_frz (by simpa only [AV.frzL, AV.frz, avasA_frz] using rhas_k (cap := none) (by omega) (fun a ha => by have := h1 a ha; omega) (by omega) h)
theorem rvalueZ_k {s : List UInt8} {z : Int} {at0 : Nat} (hz : z = (at0 : Int)) (hs : s.length ≤ 100000) (hat : at0 ≤ s.length) {L : List Blk} {K : AV → List Blk → Prop} (h : K (valP s.length (valQ [] false (s.drop at0))) L) : ACall Tryz.prog 67 [.str s, .int .i64 z] L K := by
  subst hz; exact rvalue_k hs hat h

theorem rparse_k {s : List UInt8} {L : List Blk} {K : AV → List Blk → Prop} (h : K (parA (parS s)) L) : ACall Tryz.prog 46 [.str s] L K := by
  refine ACall_fn c_ref09_Parse_eq (by simp [c_ref09_Parse]) ?_
  simp only [c_ref09_Parse, initT]
  by_cases h1 : 4096 < s.length
  · have f1 : (4096 : Int) < (s.length : Int) := by omega
    rw [parS, if_pos h1] at h
    replace h := hid h
    clear h1
    refine wk ?_
    exact Fin_frz (Fin_same h.out)
  have f1 : ¬ (4096 : Int) < (s.length : Int) := by omega
  rw [parS, if_neg h1] at h
  have hs := hid (show s.length ≤ 4096 by omega)
  clear h1
  obtain ⟨R, hR⟩ : ∃ R, (if s = [] then ([], 0) else parF (s.length + 1) [] [] s) = R := ⟨_, rfl⟩
  rw [hR] at h
  replace h := hid h
  replace hR := hid hR
  refine wk ?_
  refine AW_grow (l := []) (n := 0) 4 1 rfl (Nat.zero_mul 1).symm ?_
  refine AW_loopT (fun n T' L' => ∃ (f m i : Nat) (out : List Rdn) (X : List Blk), f = n ∧ i ≤ s.length ∧ m ≤ 32 ∧ Hid (s ≠ [] → s.length - i < f ∧ parF f out [] (s.drop i) = R) ∧ Hid (s = [] → out = []) ∧ Hid (m = out.length) ∧ L'[L.length]? = some (.spare m 1) ∧ T' = [(5, .int .i64 (i : Int)), (4, .gsl (out.map rdnF) m L.length 1), (0, .str s)] ∧ L' = L ++ X) (Cut_same (by repeat' first | exact SubT_nil | refine SubT_cons rfl rfl ?_ | refine SubT_consF rfl rfl ?_) (by simp)) ⟨s.length + 1, 0, 0, [], [.spare 0 1], rfl, Nat.zero_le _, by omega, hid (fun e => ⟨by omega, by have := hR.out; rw [if_neg e] at this; simpa using this⟩), hid (fun _ => rfl), hid rfl, by simp, rfl, rfl⟩ ?_
  rintro _ _ _ ⟨f, m, i, out, X, rfl, hi, hm32, hI, hI0, hm, ho, rfl, rfl⟩
  by_cases h0 : s = []
  · have h' := h.out
    rw [← hR.out, if_pos h0] at h'
    replace h' := hid h'
    have f2 : ¬ (0 : Int) < (s.length : Int) := by rw [h0]; simp
    clear h0
    refine wk ?_
    exact Fin_frz (Fin_pure rfl h'.out)
  obtain ⟨hf, hp⟩ := hI.out h0
  have f2 : (0 : Int) < (s.length : Int) := by have := List.length_pos_iff.2 h0; omega
  clear hI hI0 hR h0
  have hB : L.length < (L ++ X).length := (List.getElem?_eq_some_iff.1 ho).1
  by_cases hlim : m = 32
  · obtain ⟨f, rfl⟩ : ∃ g, f = g + 1 := ⟨f - 1, by omega⟩
    rw [parF_step, if_pos (.inl (by rw [← hm.out]; exact hlim))] at hp
    have h' := h.out
    rw [← hp] at h'
    replace h' := hid h'
    have k : (m : Int) = 32 := by omega
    clear hp hlim hf
    refine wk ?_
    exact err_fin h'.out
  have k1 : ¬ (m : Int) = 32 := by omega
  replace hp := hid hp
  refine wk ?_
  refine AW_loopT (fun n T' L' => ∃ (g i : Nat) (now : Rdn) (v : AV) (Z : List Blk), g = n ∧ g ≤ f ∧ i ≤ s.length ∧ now.length ≤ 8 ∧ Hid (s.length - i < g ∧ parF g out now (s.drop i) = R ∧ (∀ a ∈ now, a.1.length ≤ 32) ∧ NowV L.length now v L') ∧ L'[L.length]? = some (.spare m 1) ∧ X.length ≤ Z.length ∧ T' = [(6, v), (5, .int .i64 (i : Int)), (4, .gsl (out.map rdnF) m L.length 1), (0, .str s)] ∧ L' = L ++ Z) (Cut_same (by repeat' first | exact SubT_nil | refine SubT_cons rfl rfl ?_ | refine SubT_consF rfl rfl ?_) (by simp)) ⟨f, i, [], _, X, rfl, Nat.le_refl _, hi, by simp, hid ⟨hf, hp.out, by simp, .inl ⟨rfl, rfl, rfl⟩⟩, ho, Nat.le_refl _, rfl, rfl⟩ ?_
  clear hp hf ho hi
  rintro _ _ _ ⟨g, i, now, v, X1, rfl, hgf, hi, hn8, hI, ho, hXZ, rfl, rfl⟩
  obtain ⟨hf, hp, ht, hv⟩ := hI.out
  clear hI
  obtain ⟨g, rfl⟩ : ∃ g', g = g' + 1 := ⟨g - 1, by omega⟩
  have hB1 : L.length < (L ++ X1).length := (List.getElem?_eq_some_iff.1 ho).1
  refine AW_nilg 6 2 L.length rfl hB1 hv fun p Y hBi hpi => ?_
  rw [List.append_assoc] at hpi ⊢
  have ho2 : (L ++ (X1 ++ Y))[L.length]? = some (.spare m 1) := by rw [← List.append_assoc, List.getElem?_append_left hB1]; exact ho
  have hXZ2 : X.length ≤ (X1 ++ Y).length := by simp; omega
  generalize X1 ++ Y = Z at hpi ho2 hXZ2 ⊢
  clear ho hB1 hv hXZ X1 Y
  replace hXZ2 := hid hXZ2
  have hpl := (List.getElem?_eq_some_iff.1 hpi).1
  have hol := (List.getElem?_eq_some_iff.1 ho2).1
  have hz : p - L.length ≠ 0 := by omega
  obtain ⟨c, hc⟩ : ∃ c : Nat, now.length = c := ⟨_, rfl⟩
  rw [parF_step] at hp
  rw [hc] at hp hpi hn8 ⊢
  rw [List.length_append] at hpl hol
  replace hz := hid hz
  replace hpl := hid hpl
  replace hol := hid hol
  by_cases hlim2 : c = 8
  · rw [if_pos (.inr hlim2)] at hp
    have h' := h.out
    rw [← hp] at h'
    replace h' := hid h'
    have k : (c : Int) = 8 := by omega
    clear hp hlim2
    refine wk ?_
    exact err_fin h'.out
  rw [if_neg (by rw [← hm.out]; omega)] at hp
  have k2 : ¬ (c : Int) = 8 := by omega
  replace hp := hid hp
  replace ht := hid ht
  replace hf := hid hf
  refine wk ?_
  refine AW_loopT (fun n T' L' => ∃ j : Nat, n = s.length - j ∧ i ≤ j ∧ j ≤ s.length ∧ Hid (cutE (s.drop i) = (cutE (s.drop j)).map fun p => ((s.drop i).take (j - i) ++ p.1, p.2)) ∧ T' = [(7, .int .i64 (j : Int)), (6, .gsl (avasA now) c p 2), (5, .int .i64 (i : Int)), (4, .gsl (out.map rdnF) m L.length 1), (0, .str s)] ∧ L' = L ++ Z) (Cut_same (by repeat' first | exact SubT_nil | refine SubT_cons rfl rfl ?_ | refine SubT_consF rfl rfl ?_) (by simp)) ⟨i, rfl, Nat.le_refl _, hi, hid (by rcases cutE (s.drop i) with _ | ⟨a, b⟩ <;> simp), rfl, rfl⟩ ?_
  rintro _ _ _ ⟨j, rfl, hij, hj, hcut, rfl, rfl⟩
  by_cases hjl : j < s.length
  rotate_left
  · have hje : j = s.length := by omega
    subst hje
    have g1 : ¬ (s.length : Int) < (s.length : Int) := by omega
    have e := hcut.out
    rw [List.drop_length] at e
    simp only [cutE, Option.map_none] at e
    have h' := h.out
    rw [← hp.out, e] at h'
    simp only at h'
    replace h' := hid h'
    clear e
    refine wk ?_
    exact err_fin h'.out
  have g1 : (j : Int) < (s.length : Int) := by omega
  have g2 : IntKind.i64.wrap ((j : Int) + 1) = (j : Int) + 1 := wrap64_in (by omega) (by omega)
  obtain ⟨x, hx⟩ : ∃ x, s.getD j 0 = x := ⟨_, rfl⟩
  by_cases h61 : x = 61
  rotate_left
  · have g3 : ¬ (x.toNat : Int) = 61 := fun e => h61 ((u8_int x 61).1 e)
    have hcut' := hid (cutE_scan hij hjl (by rw [hx]; exact h61) hcut.out)
    clear h61
    refine wk ?_
    exact Nxt_mk _ _ _ (by omega) (Cut_same (by repeat' first | exact SubT_nil | refine SubT_cons rfl rfl ?_ | refine SubT_consF rfl rfl ?_ | refine SubT_cons rfl (congrArg (AV.int _) (by omega)) ?_ | refine SubT_cons rfl (by first | (simp_all; done) | (simp_all; omega) | (simp_all; intros; omega)) ?_) (by simp)) ⟨j + 1, rfl, by omega, hjl, hcut', rfl, rfl⟩
  subst h61
  have g3 : ((61 : UInt8).toNat : Int) = 61 := rfl
  have hcutS : cutE (s.drop i) = some ((s.drop i).take (j - i), s.drop (j + 1)) := by
    rw [hcut.out, drop1 hjl, hx]
    simp [cutE]
  clear hcut
  obtain ⟨typ, htyp⟩ : ∃ t, (s.drop i).take (j - i) = t := ⟨_, rfl⟩
  have htl : typ.length ≤ 4096 := by rw [← htyp]; have := hs.out; simp; omega
  have htl3 : (typ.length : Int) ≤ 100000 := by omega
  rw [htyp] at hcutS
  have hp2 := hp.out
  rw [hcutS] at hp2
  simp only at hp2
  have g4 : ¬ (j : Int) = (s.length : Int) := by omega
  have g5 : (i : Int) ≤ (j : Int) := by omega
  have g6 : (j : Int) ≤ (s.length : Int) := by omega
  replace hp2 := hid hp2
  clear hcutS hp
  cases hty : typS typ with
  | false =>
    have h' := h.out
    rw [← hp2.out, if_pos hty] at h'
    replace h' := hid h'
    have kk1 := @hid _ (fun L K => rtype_k htl3 (L := L) (K := K))
    refine wk ?_
    exact err_fin h'.out
  | true =>
  have hp3 := hp2.out
  rw [if_neg (by rw [hty]; simp)] at hp3
  replace hp3 := hid hp3
  clear hp2
  have hpn := hid (show p ≠ L.length + Z.length by have := hpl.out; omega)
  have b1 : ∀ b, (L ++ (Z ++ [b]))[p]? = some (.spare c 2) := fun b => by
    rw [← List.append_assoc, List.getElem?_append_left (List.getElem?_eq_some_iff.1 hpi).1]; exact hpi
  have b2 : ∀ A b, (L ++ (Z ++ [b])).set p A = L ++ (Z.set (p - L.length) A ++ [b]) := fun A b => by
    rw [List.set_append_right _ _ (by omega), List.set_append_left _ _ (by have := hpl.out; omega)]
  have b3 : ∀ A b, (L ++ (Z.set (p - L.length) A ++ [b]))[L.length]? = some (.spare m 1) := fun A b => by
    rw [← b2, List.getElem?_set_ne (by omega), ← List.append_assoc, List.getElem?_append_left (List.getElem?_eq_some_iff.1 ho2).1]; exact ho2
  have b4 : ∀ A b, (L ++ (Z.set (p - L.length) A ++ [b]))[p]? = some A := fun A b => by
    rw [← b2, List.getElem?_set, if_pos rfl, if_pos (by have := hpl.out; simp; omega)]
  have hsl : (i : Int).toNat = i := by omega
  have kk1 := @hid _ (fun L K => rtype_k htl3 (L := L) (K := K))
  refine wk ?_
  refine rhasG_k hc hn8 ht.out (by omega) ?_
  cases hha : hasT now typ with
  | true =>
    have h' := h.out
    rw [← hp3.out, if_pos hha] at h'
    replace h' := hid h'
    refine sk ?_
    refine wk ?_
    exact err_fin h'.out
  | false =>
  have hp4 := hp3.out
  rw [if_neg (by rw [hha]; simp)] at hp4
  replace hp4 := hid hp4
  clear hp3
  refine sk ?_
  refine wk ?_
  refine rvalueZ_k (at0 := j + 1) (by omega) (by have := hs.out; omega) hjl ?_
  rcases hvl : valQ [] false (s.drop (j + 1)) with _ | ⟨w, r2⟩
  · have h' := h.out
    rw [← hp4.out, hvl] at h'
    simp only at h'
    replace h' := hid h'
    simp only [valP]
    refine sk ?_
    refine wk ?_
    exact err_fin h'.out
  have hp5 := hp4.out
  rw [hvl] at hp5
  simp only at hp5
  have hsuf := valL_suf _ (Nat.le_refl _) (valQ_some hvl)
  have hsd : r2 = s.drop (s.length - r2.length) := List.suffix_iff_eq_drop.1 (hsuf.trans (List.drop_suffix _ _))
  have hl2 : r2.length ≤ s.length - (j + 1) := by have := hsuf.length_le; simpa using this
  obtain ⟨t, ht0⟩ : ∃ t, s.length - r2.length = t := ⟨_, rfl⟩
  rw [ht0] at hsd
  have htj : j < t := by omega
  have hts : t ≤ s.length := by omega
  simp only [valP, ht0]
  replace hp5 := hid hp5
  clear hp4 hvl hsuf
  replace hsd := hid hsd
  have q1 : (c + 1) * 32 ≤ 140737488355328 := by omega
  have q2 : c + 1 ≤ 140737488355328 := by omega
  have q3 : (m + 1) * 24 ≤ 140737488355328 := by omega
  have q4 : m + 1 ≤ 140737488355328 := by omega
  have e1 : avasA now ++ [AV.str typ, AV.str w] = avasA (now ++ [(typ, w)]) := (avasA_app _ _ _).symm
  have e2 : out.map rdnF ++ [AV.sl (AV.frzL (avasA now ++ [AV.str typ, AV.str w])) (c + 1) none] = (out ++ [now ++ [(typ, w)]]).map rdnF := by
    rw [e1, avasA_frz, List.map_append]
    simp [hc]
  have e3 : (out ++ [now ++ [(typ, w)]]).length = m + 1 := by simp [hm.out]
  have e4 : (now ++ [(typ, w)]).length = c + 1 := by simp [hc]
  have e5 : ∀ a ∈ now ++ [(typ, w)], a.1.length ≤ 32 := fun a ha => by
    rcases List.mem_append.1 ha with h | h
    · exact ht.out a h
    · rw [List.mem_singleton.1 h]; exact typS_len hty
  have s4 : ∀ (W : List Blk) A, (L ++ W).set L.length A = L ++ W.set 0 A := fun W A => by rw [List.set_append_right _ _ (Nat.le_refl _), Nat.sub_self]
  have g7 : IntKind.i64.wrap ((t : Int) + 1) = (t : Int) + 1 := wrap64_in (by have := hs.out; omega) (by have := hs.out; omega)
  replace e1 := hid e1
  replace e2 := hid e2
  replace e3 := hid e3
  replace e4 := hid e4
  replace e5 := hid e5
  cases r2 with
  | nil =>
    have h' := h.out
    rw [← hp5.out] at h'
    simp only at h'
    replace h' := hid h'
    have hte : t = s.length := by simp at ht0; omega
    subst hte
    refine sk ?_
    refine wk ?_
    rw [e2.out]
    refine Fin_frz (Fin_pure ?_ ?_)
    · simp only [AV.frz, AV.frzL, rdns_frz, AV.refs, AV.refsL, rdns_refs, Bool.and_self]
    · simp only [AV.frz, AV.frzL, rdns_frz]
      have := h'.out
      simp only [parA, e3.out] at this
      exact this
  | cons x s' =>
    simp only at hp5
    have htl2 : t < s.length := by simp at ht0 hl2; omega
    have k3 : ¬ (t : Int) = (s.length : Int) := by omega
    have k4 : (t : Int) < (s.length : Int) := by omega
    have hxd := hsd.out
    rw [drop1 htl2] at hxd
    obtain ⟨hx1, hx2⟩ := List.cons.inj hxd
    have hx3 := hx1.symm
    replace hx2 := hid hx2
    clear hxd hx1
    by_cases hx : x = 44
    · subst hx
      refine sk ?_
      refine wk ?_
      rw [e2.out]
      refine Nxt_mk _ _ _ ?_ (Cut_same (by repeat' first | exact SubT_nil | refine SubT_cons rfl rfl ?_ | refine SubT_consF rfl rfl ?_) ?_) ⟨g, m + 1, t + 1, out ++ [now ++ [(typ, w)]], _, rfl, htl2, ?_, hid fun _ => ⟨?_, ?_⟩, hid fun e => ?_, hid e3.out.symm, ?_, rfl, rfl⟩
      · omega
      · simp
      · have := hm.out; omega
      · have := hf.out; omega
      · rw [← hx2.out, ← hp5.out, if_pos rfl]
      · rw [e] at htl2; simp at htl2
      · rw [← s4, List.getElem?_set, if_pos rfl, if_pos (by simp)]
    · have q6 : ¬ (x.toNat : Int) = 44 := fun e => hx ((u8_int x 44).1 e)
      refine sk ?_
      refine wk ?_
      rw [e1.out]
      refine Nxt_mk _ _ _ ?_ (Cut_same (by repeat' first | exact SubT_nil | refine SubT_cons rfl rfl ?_ | refine SubT_consF rfl rfl ?_) ?_) ⟨g, t + 1, now ++ [(typ, w)], _, _, rfl, ?_, htl2, ?_, hid ⟨?_, ?_, e5.out, .inr ⟨p, hBi, by rw [e4.out], by rw [e4.out]; exact b4 _ _⟩⟩, b3 _ _, ?_, rfl, rfl⟩
      · omega
      · have := hXZ2.out; simp; omega
      · omega
      · rw [e4.out]; omega
      · have := hf.out; omega
      · rw [← hx2.out, ← hp5.out, if_neg hx]
      · have := hXZ2.out; simp; omega
end Go.Proofs.YtffnflplocbpiaaGreatDoor.Av
