/- The document's syntaxes: which of two values is ahead. -/
import Derived.Test.YtffnflplocbpiaaGreatDoorQR3
import Derived.Test.YtffnflplocbpiaaGreatDoorQSyP
set_option linter.unusedSimpArgs false
set_option linter.unusedVariables false
namespace Go.Proofs.YtffnflplocbpiaaGreatDoor.Av
open Go
set_option maxHeartbeats 8000000
set_option maxRecDepth 100000

theorem aheadP_k {a b : List UInt8} (ha : 0 < a.length) (hb : 0 < b.length) (h1 : a.getD 0 0 ≠ 45) (h2 : b.getD 0 0 ≠ 45) {L : List Blk} {K : AV → List Blk → Prop} (h : K (.bool (aheadP a b)) L) : ACall Tryz.prog 29 [.str a, .str b] L K := by
  unfold aheadP at h
  obtain ⟨x, hx⟩ : ∃ x, a.getD 0 0 = x := ⟨_, rfl⟩
  obtain ⟨y, hy⟩ : ∃ y, b.getD 0 0 = y := ⟨_, rfl⟩
  rw [hx] at h1
  rw [hy] at h2
  have k1 : ¬ (x.toNat : Int) = 45 := fun e => h1 ((u8_int x 45).1 e)
  have k2 : ¬ (y.toNat : Int) = 45 := fun e => h2 ((u8_int y 45).1 e)
  have g1 : (0 : Int) < (a.length : Int) := by omega
  have g2 : (0 : Int) < (b.length : Int) := by omega
  rw [show decide (a.length < b.length) = decide ((a.length : Int) < (b.length : Int)) by simp, show decide (a.length = b.length) = decide ((a.length : Int) = (b.length : Int)) by rw [decide_eq_decide]; omega] at h
  replace h := hid h
  clear h1 h2
  refine ACall_fn c_ref12_ahead_eq (by simp [c_ref12_ahead]) ?_
  simp only [c_ref12_ahead, initT]
  refine wk ?_
  exact Fin_same h.out
theorem ahead_k {m n : Int} (hm : I64 m) (hn : I64 n) {L : List Blk} {K : AV → List Blk → Prop} (h : K (.bool (decide (m < n))) L) : ACall Tryz.prog 29 [.str (Lib.itoa m), .str (Lib.itoa n)] L K := by
  have sm := itoa_short hm
  have sn := itoa_short hn
  rw [← ahead_itoa] at h
  have dpos : ∀ u : Nat, 0 < (Lib.decDigits u).length ∧ (Lib.decDigits u).getD 0 0 ≠ 45 := fun u => by
    obtain ⟨c, r, e, c1, _⟩ := dec_head u
    rw [e]
    exact ⟨by simp, fun h => by simp only [List.getD_cons_zero] at h; rw [h] at c1; exact absurd c1 (by decide)⟩
  have pos : ∀ k : Int, ¬ k < 0 → Lib.itoa k = Lib.decDigits k.toNat := fun k hk => by rw [Lib.itoa, if_neg hk]
  have neg : ∀ k : Int, k < 0 → Lib.itoa k = 45 :: Lib.decDigits k.natAbs := fun k hk => by rw [Lib.itoa, if_pos hk]
  by_cases h1 : m < 0
  · by_cases h2 : n < 0
    · rw [neg m h1, neg n h2] at h ⊢
      obtain ⟨a, ha⟩ : ∃ a, Lib.decDigits m.natAbs = a := ⟨_, rfl⟩
      obtain ⟨b, hb⟩ : ∃ b, Lib.decDigits n.natAbs = b := ⟨_, rfl⟩
      obtain ⟨a1, a2⟩ := dpos m.natAbs
      obtain ⟨b1, b2⟩ := dpos n.natAbs
      rw [neg m h1] at sm
      rw [neg n h2] at sn
      rw [ha] at h a1 a2 sm ⊢
      rw [hb] at h b1 b2 sn ⊢
      have e : aheadN (45 :: a) (45 :: b) = aheadP b a := rfl
      rw [e] at h
      replace h := hid h
      have q1 : (45 :: a).getD 0 0 = 45 := rfl
      have q2 : (45 :: b).getD 0 0 = 45 := rfl
      have q3 : ((45 : UInt8).toNat : Int) = 45 := rfl
      have q4 : (45 :: a).drop 1 = a := rfl
      have q5 : (45 :: b).drop 1 = b := rfl
      have q6 : (45 :: a).length = a.length + 1 := rfl
      have q7 : (45 :: b).length = b.length + 1 := rfl
      have q8 : (0 : Int) < (a.length : Int) + 1 := by omega
      have q9 : (0 : Int) < (b.length : Int) + 1 := by omega
      have t1 : a.take (((a.length : Int) + 1).toNat - 1) = a := by rw [show ((a.length : Int) + 1).toNat - 1 = a.length by omega, List.take_length]
      have t2 : b.take (((b.length : Int) + 1).toNat - 1) = b := by rw [show ((b.length : Int) + 1).toNat - 1 = b.length by omega, List.take_length]
      have t3 : (1 : Int) ≤ (a.length : Int) + 1 := by omega
      have t4 : (1 : Int) ≤ (b.length : Int) + 1 := by omega
      clear ha hb
      refine ACall_fn c_ref12_ahead_eq (by simp [c_ref12_ahead]) ?_
      simp only [c_ref12_ahead, initT]
      have kk1 := @hid _ (fun L K => aheadP_k b1 a1 b2 a2 (L := L) (K := K))
      refine wk ?_
      exact Fin_same h.out
    · rw [neg m h1, pos n h2] at h ⊢
      obtain ⟨a, ha⟩ : ∃ a, Lib.decDigits m.natAbs = a := ⟨_, rfl⟩
      obtain ⟨b, hb⟩ : ∃ b, Lib.decDigits n.toNat = b := ⟨_, rfl⟩
      obtain ⟨b1, b2⟩ := dpos n.toNat
      rw [ha] at h ⊢
      rw [hb] at h b1 b2 ⊢
      obtain ⟨y, hy⟩ : ∃ y, b.getD 0 0 = y := ⟨_, rfl⟩
      rw [hy] at b2
      have e : aheadN (45 :: a) b = true := by
        unfold aheadN
        rw [hy]
        simp [b2]
      rw [e] at h
      replace h := hid h
      have k2 : ¬ (y.toNat : Int) = 45 := fun e => b2 ((u8_int y 45).1 e)
      have q1 : (45 :: a).getD 0 0 = 45 := rfl
      have q3 : ((45 : UInt8).toNat : Int) = 45 := rfl
      have q6 : (45 :: a).length = a.length + 1 := rfl
      have q8 : (0 : Int) < (a.length : Int) + 1 := by omega
      have q9 : (0 : Int) < (b.length : Int) := by omega
      clear ha hb e
      refine ACall_fn c_ref12_ahead_eq (by simp [c_ref12_ahead]) ?_
      simp only [c_ref12_ahead, initT]
      refine wk ?_
      exact Fin_same h.out
  · by_cases h2 : n < 0
    · rw [pos m h1, neg n h2] at h ⊢
      obtain ⟨a, ha⟩ : ∃ a, Lib.decDigits m.toNat = a := ⟨_, rfl⟩
      obtain ⟨b, hb⟩ : ∃ b, Lib.decDigits n.natAbs = b := ⟨_, rfl⟩
      obtain ⟨a1, a2⟩ := dpos m.toNat
      rw [ha] at h a1 a2 ⊢
      rw [hb] at h ⊢
      obtain ⟨x, hx⟩ : ∃ x, a.getD 0 0 = x := ⟨_, rfl⟩
      rw [hx] at a2
      have e : aheadN a (45 :: b) = false := by
        unfold aheadN
        rw [hx]
        simp [a2]
      rw [e] at h
      replace h := hid h
      have k2 : ¬ (x.toNat : Int) = 45 := fun e => a2 ((u8_int x 45).1 e)
      have q1 : (45 :: b).getD 0 0 = 45 := rfl
      have q3 : ((45 : UInt8).toNat : Int) = 45 := rfl
      have q6 : (45 :: b).length = b.length + 1 := rfl
      have q8 : (0 : Int) < (b.length : Int) + 1 := by omega
      have q9 : (0 : Int) < (a.length : Int) := by omega
      clear ha hb e
      refine ACall_fn c_ref12_ahead_eq (by simp [c_ref12_ahead]) ?_
      simp only [c_ref12_ahead, initT]
      refine wk ?_
      exact Fin_same h.out
    · rw [pos m h1, pos n h2] at h ⊢
      obtain ⟨a1, a2⟩ := dpos m.toNat
      obtain ⟨b1, b2⟩ := dpos n.toNat
      refine aheadP_k a1 b1 a2 b2 ?_
      unfold aheadN at h
      rwa [if_neg (fun e => a2 e.1), if_neg (fun e => e.elim a2 b2)] at h
/-- What comes ahead, as the document says it. -/
def cmpR (syn : Int) (x y : List UInt8) : Int := if x = y then 0 else if (if syn = 4 then decide (numV x < numV y) else Op.bytesLess x y) = true then -1 else 1
theorem cmpR_eq {syn : Int} {x y : List UInt8} (hx : syn = 4 → numOk x = true) (hy : syn = 4 → numOk y = true) : cmpR syn x y = cmpS syn x y := by
  unfold cmpR cmpS
  by_cases h4 : syn = 4
  · rw [if_pos h4, if_pos h4]
    have inj : x = y ↔ numV x = numV y := ⟨fun e => by rw [e], fun e => by rw [← numOk_text (hx h4), ← numOk_text (hy h4), e]⟩
    unfold cmpI
    by_cases he : x = y
    · have := inj.1 he
      rw [if_pos he, if_neg (by omega), if_neg (by omega)]
    · have h1 : ¬ numV x = numV y := fun e => he (inj.2 e)
      rw [if_neg he]
      by_cases h2 : numV x < numV y
      · simp [h2]
      · simp [h2, show numV y < numV x by omega]
  · rw [if_neg h4, if_neg h4, bytesLess_eq, cmpB_eq]
    by_cases he : x = y
    · subst he
      rw [if_pos rfl, if_neg (List.lt_irrefl _), if_neg (List.lt_irrefl _)]
    · rw [if_neg he]
      by_cases h2 : x < y
      · simp [h2]
      · have h3 : y < x := by
          rcases List.le_iff_lt_or_eq.1 (List.not_lt.1 h2) with e | e
          · exact e
          · exact absurd e.symm he
        simp [h2, h3]
theorem rorder_syn_k {syn : Int} {a b : List UInt8} {L : List Blk} {K : AV → List Blk → Prop} (h : K (ordA (ordO syn a b)) L) : ACall Tryz.prog 12 [.int .i64 syn, .str a, .str b] L K := by
  unfold ordO at h
  refine ACall_fn c_ref12_Order_eq (by simp [c_ref12_Order]) ?_
  simp only [c_ref12_Order, initT]
  refine wk ?_
  refine rnorm_syn_k ?_
  rcases ha : normO syn a with _ | x
  · rw [ha] at h
    simp only [ordA] at h
    replace h := hid h
    simp only [normA]
    refine sk ?_
    refine wk ?_
    refine rnorm_syn_k ?_
    rcases normO syn b with _ | y
    · simp only [normA]
      refine sk ?_
      refine wk ?_
      exact Fin_same h.out
    · simp only [normA]
      refine sk ?_
      refine wk ?_
      exact Fin_same h.out
  rw [ha] at h
  simp only [normA]
  refine sk ?_
  refine wk ?_
  refine rnorm_syn_k ?_
  rcases hb : normO syn b with _ | y
  · rw [hb] at h
    simp only [ordA] at h
    replace h := hid h
    simp only [normA]
    refine sk ?_
    refine wk ?_
    exact Fin_same h.out
  rw [hb] at h
  simp only at h
  simp only [normA]
  by_cases h57 : syn = 5 ∨ syn = 6 ∨ syn = 7
  · rw [if_pos h57] at h
    simp only [ordA] at h
    replace h := hid h
    have k1 : (5 : Int) ≤ syn := by omega
    have k2 : syn ≤ 7 := by omega
    clear h57
    refine sk ?_
    refine wk ?_
    exact Fin_same h.out
  rw [if_neg h57] at h
  have four : ∀ {v w : List UInt8}, normO syn v = some w → syn = 4 → numOk w = true := fun h e => by
    subst e
    obtain ⟨rfl, h⟩ := normO_four h
    exact h
  rw [← cmpR_eq (four ha) (four hb)] at h
  simp only [ordA] at h
  have hno : (decide ((5 : Int) ≤ syn) && decide (syn ≤ 7)) = false := by
    rw [Bool.and_eq_false_iff]; simp only [decide_eq_false_iff_not]; omega
  by_cases h4 : syn = 4
  · obtain ⟨m, hm, em⟩ := (numOk_iff x).1 (four ha h4)
    obtain ⟨n, hn, en⟩ := (numOk_iff y).1 (four hb h4)
    have vm : numV x = m := by rw [← em]; exact (num_itoa hm).2
    have vn : numV y = n := by rw [← en]; exact (num_itoa hn).2
    have inj : x = y ↔ m = n := ⟨fun e => by rw [← vm, ← vn, e], fun e => by rw [← em, ← en, e]⟩
    unfold cmpR at h
    rw [vm, vn, if_pos h4] at h
    clear four ha hb h57
    subst h4
    rw [← em, ← en] at h inj ⊢
    clear em en vm vn
    by_cases he : Lib.itoa m = Lib.itoa n
    · rw [if_pos he] at h
      replace h := hid h
      refine sk ?_
      refine wk ?_
      exact Fin_same h.out
    · rw [if_neg he] at h
      by_cases hlt : m < n
      · rw [decide_eq_true hlt, if_pos rfl] at h
        replace h := hid h
        clear inj
        refine sk ?_
        have kk1 := @hid _ (fun L K => ahead_k hm hn (L := L) (K := K))
        refine wk ?_
        exact Fin_same h.out
      · rw [decide_eq_false hlt, if_neg (by simp)] at h
        replace h := hid h
        clear inj
        refine sk ?_
        have kk1 := @hid _ (fun L K => ahead_k hm hn (L := L) (K := K))
        refine wk ?_
        exact Fin_same h.out
  · unfold cmpR at h
    rw [if_neg h4] at h
    clear four ha hb
    obtain ⟨bl, hbl⟩ : ∃ b, Op.bytesLess x y = b := ⟨_, rfl⟩
    rw [hbl] at h
    by_cases he : x = y
    · rw [if_pos he] at h
      replace h := hid h
      subst he
      refine sk ?_
      repeat' first
        | refine AW_seq ?_
        | (first | refine AW_sreg (by kernel_rfl) ?_ | refine AW_sdreg (by kernel_rfl) ?_ | refine AW_dregM ?_ | refine Nx_in ?_ | refine NxI_in (fun _ => ?_) | refine AW_region ?_ | refine AW_dreg ?_)
          simp (config := { maxSteps := 2000000 }) only [Kon, push_cast, reduceIte, Nat.reduceEqDiff, Nat.reduceAdd, Nat.reduceMul, Nat.reduceSub, Nat.reduceLT, Nat.reduceLeDiff, Int.reduceLT, Int.reduceLE, Int.reduceAdd, Int.reduceSub, Int.reduceNeg, Int.reduceToNat, Int.reduceEq, reduceCtorEq, *]
        | (first | refine SelK_mk (by kernel_rfl) ?_ | refine AW_skip ?_ | refine AW_exit ?_ | refine AW_ret (Back_retR ?_))
          simp only [push_cast, reduceIte, Nat.reduceEqDiff, Nat.reduceAdd, Nat.reduceMul, Nat.reduceSub, Nat.reduceLT, Nat.reduceLeDiff, Int.reduceLT, Int.reduceLE, Int.reduceAdd, Int.reduceSub, Int.reduceNeg, Int.reduceToNat, Int.reduceEq, reduceCtorEq, *]
        | exact IsB_mk
        | first | apply GQ_mkT | apply GQ_mkTN | apply GQ_mkF | apply GQ_mkFN | apply GQ_mkB | apply GQ_mkBF
        | refine AW_block ?_
        | first | refine AW_condT rfl ?_ | refine AW_condF rfl ?_ | refine AW_condAny rfl ?_ ?_ | refine AW_condB rfl (fun _ => ?_) (fun _ => ?_) | refine AW_condN rfl (fun _ => ?_) (fun _ => ?_)
        | ((first | refine ite_introN (fun _ => ?_) (fun _ => ?_) | refine ite_intro (fun _ => ?_) (fun _ => ?_)) <;> try simp (config := { maxSteps := 2000000 }) only [Kon, push_cast, reduceIte, Nat.reduceEqDiff, Nat.reduceAdd, Nat.reduceMul, Nat.reduceSub, Nat.reduceLT, Nat.reduceLeDiff, Int.reduceLT, Int.reduceLE, Int.reduceAdd, Int.reduceSub, Int.reduceNeg, Int.reduceToNat, Int.reduceEq, reduceCtorEq, *])
        | refine And.intro trivial ?_
        | refine And.intro (by omega) ?_
        | refine AW_cond rfl (fun _ => ?_) (fun _ => ?_)
        | refine And.intro ?_ ?_
      all_goals first
        | exact Fin_same h.out
        | (rename_i hx; exfalso; simp at hx; omega)
    · rw [if_neg he] at h
      cases bl with
      | true =>
        rw [if_pos rfl] at h
        replace h := hid h
        refine sk ?_
        repeat' first
          | refine AW_seq ?_
          | (first | refine AW_sreg (by kernel_rfl) ?_ | refine AW_sdreg (by kernel_rfl) ?_ | refine AW_dregM ?_ | refine Nx_in ?_ | refine NxI_in (fun _ => ?_) | refine AW_region ?_ | refine AW_dreg ?_)
            simp (config := { maxSteps := 2000000 }) only [Kon, push_cast, reduceIte, Nat.reduceEqDiff, Nat.reduceAdd, Nat.reduceMul, Nat.reduceSub, Nat.reduceLT, Nat.reduceLeDiff, Int.reduceLT, Int.reduceLE, Int.reduceAdd, Int.reduceSub, Int.reduceNeg, Int.reduceToNat, Int.reduceEq, reduceCtorEq, *]
          | (first | refine SelK_mk (by kernel_rfl) ?_ | refine AW_skip ?_ | refine AW_exit ?_ | refine AW_ret (Back_retR ?_))
            simp only [push_cast, reduceIte, Nat.reduceEqDiff, Nat.reduceAdd, Nat.reduceMul, Nat.reduceSub, Nat.reduceLT, Nat.reduceLeDiff, Int.reduceLT, Int.reduceLE, Int.reduceAdd, Int.reduceSub, Int.reduceNeg, Int.reduceToNat, Int.reduceEq, reduceCtorEq, *]
          | exact IsB_mk
          | first | apply GQ_mkT | apply GQ_mkTN | apply GQ_mkF | apply GQ_mkFN | apply GQ_mkB | apply GQ_mkBF
          | refine AW_block ?_
          | first | refine AW_condT rfl ?_ | refine AW_condF rfl ?_ | refine AW_condAny rfl ?_ ?_ | refine AW_condB rfl (fun _ => ?_) (fun _ => ?_) | refine AW_condN rfl (fun _ => ?_) (fun _ => ?_)
          | ((first | refine ite_introN (fun _ => ?_) (fun _ => ?_) | refine ite_intro (fun _ => ?_) (fun _ => ?_)) <;> try simp (config := { maxSteps := 2000000 }) only [Kon, push_cast, reduceIte, Nat.reduceEqDiff, Nat.reduceAdd, Nat.reduceMul, Nat.reduceSub, Nat.reduceLT, Nat.reduceLeDiff, Int.reduceLT, Int.reduceLE, Int.reduceAdd, Int.reduceSub, Int.reduceNeg, Int.reduceToNat, Int.reduceEq, reduceCtorEq, *])
          | refine And.intro trivial ?_
          | refine And.intro (by omega) ?_
          | refine AW_cond rfl (fun _ => ?_) (fun _ => ?_)
          | refine And.intro ?_ ?_
        all_goals first
          | exact Fin_same h.out
          | (rename_i hx; exfalso; simp at hx; omega)
      | false =>
        rw [if_neg (by simp)] at h
        replace h := hid h
        refine sk ?_
        repeat' first
          | refine AW_seq ?_
          | (first | refine AW_sreg (by kernel_rfl) ?_ | refine AW_sdreg (by kernel_rfl) ?_ | refine AW_dregM ?_ | refine Nx_in ?_ | refine NxI_in (fun _ => ?_) | refine AW_region ?_ | refine AW_dreg ?_)
            simp (config := { maxSteps := 2000000 }) only [Kon, push_cast, reduceIte, Nat.reduceEqDiff, Nat.reduceAdd, Nat.reduceMul, Nat.reduceSub, Nat.reduceLT, Nat.reduceLeDiff, Int.reduceLT, Int.reduceLE, Int.reduceAdd, Int.reduceSub, Int.reduceNeg, Int.reduceToNat, Int.reduceEq, reduceCtorEq, *]
          | (first | refine SelK_mk (by kernel_rfl) ?_ | refine AW_skip ?_ | refine AW_exit ?_ | refine AW_ret (Back_retR ?_))
            simp only [push_cast, reduceIte, Nat.reduceEqDiff, Nat.reduceAdd, Nat.reduceMul, Nat.reduceSub, Nat.reduceLT, Nat.reduceLeDiff, Int.reduceLT, Int.reduceLE, Int.reduceAdd, Int.reduceSub, Int.reduceNeg, Int.reduceToNat, Int.reduceEq, reduceCtorEq, *]
          | exact IsB_mk
          | first | apply GQ_mkT | apply GQ_mkTN | apply GQ_mkF | apply GQ_mkFN | apply GQ_mkB | apply GQ_mkBF
          | refine AW_block ?_
          | first | refine AW_condT rfl ?_ | refine AW_condF rfl ?_ | refine AW_condAny rfl ?_ ?_ | refine AW_condB rfl (fun _ => ?_) (fun _ => ?_) | refine AW_condN rfl (fun _ => ?_) (fun _ => ?_)
          | ((first | refine ite_introN (fun _ => ?_) (fun _ => ?_) | refine ite_intro (fun _ => ?_) (fun _ => ?_)) <;> try simp (config := { maxSteps := 2000000 }) only [Kon, push_cast, reduceIte, Nat.reduceEqDiff, Nat.reduceAdd, Nat.reduceMul, Nat.reduceSub, Nat.reduceLT, Nat.reduceLeDiff, Int.reduceLT, Int.reduceLE, Int.reduceAdd, Int.reduceSub, Int.reduceNeg, Int.reduceToNat, Int.reduceEq, reduceCtorEq, *])
          | refine And.intro trivial ?_
          | refine And.intro (by omega) ?_
          | refine AW_cond rfl (fun _ => ?_) (fun _ => ?_)
          | refine And.intro ?_ ?_
        all_goals first
          | exact Fin_same h.out
          | (rename_i hx; exfalso; simp at hx; omega)
end Go.Proofs.YtffnflplocbpiaaGreatDoor.Av
