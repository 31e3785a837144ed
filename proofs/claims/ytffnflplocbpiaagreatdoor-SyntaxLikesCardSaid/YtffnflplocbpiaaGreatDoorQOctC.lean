/- Joined texts of the walk. -/
import Derived.Test.YtffnflplocbpiaaGreatDoorQO1
import Derived.Test.YtffnflplocbpiaaGreatDoorQP5
set_option linter.unusedSimpArgs false
set_option linter.unusedVariables false
namespace Go.Proofs.YtffnflplocbpiaaGreatDoor.Av
open Go
set_option maxHeartbeats 8000000
set_option maxRecDepth 100000

/-- Is there anything but blanks? -/
def hasNb (l : List UInt8) : Bool := l.any fun c => c != 32
def refB (t : List UInt8) (k : Nat) : List UInt8 := if hasNb (t.drop k) = true then prepL (t.take k) else trimB (prepL (t.take k))

theorem drop_cons {t : List UInt8} {k : Nat} (h : k < t.length) : t.drop k = t.getD k 0 :: t.drop (k + 1) := by
  rw [List.drop_eq_getElem_cons h, List.getD_eq_getElem?_getD, List.getElem?_eq_getElem h]; rfl
theorem hasNb_cons (c : UInt8) (l : List UInt8) : hasNb (c :: l) = (c != 32 || hasNb l) := rfl
theorem trimB_app (b : List UInt8) (c : UInt8) : trimB (b ++ [c]) = if c = 32 then b else b ++ [c] := by simp [trimB]
theorem last_prepL (t : List UInt8) : ∀ k, k ≤ t.length → prepL (t.take k) ≠ [] → (endsB (prepL (t.take k)) = true ↔ t.getD (k - 1) 0 = 32)
  | 0, _, h => by simp [prepL] at h
  | k + 1, hk, h => by
    have ih := last_prepL t k (by omega)
    rw [prepL_succ (show k < t.length by omega)] at h ⊢
    rw [show k + 1 - 1 = k by omega]
    unfold prepStep at h ⊢
    split
    · rename_i e; exact ⟨fun _ => e.1, fun _ => e.2⟩
    · simp [endsB]
theorem refB_succ {t : List UInt8} {k : Nat} (h : k < t.length) : refB t (k + 1) =
    if hasNb (t.drop k) = false ∨ (t.getD k 0 = 32 ∧ (refB t k = [] ∨ t.getD (k - 1) 0 = 32)) then refB t k else refB t k ++ [t.getD k 0] := by
  have hd := drop_cons h
  have hl := last_prepL t k (by omega)
  unfold refB
  rw [prepL_succ h, hd, hasNb_cons]
  obtain ⟨c, hc⟩ : ∃ c, t.getD k 0 = c := ⟨_, rfl⟩
  obtain ⟨p, hp⟩ : ∃ p, prepL (t.take k) = p := ⟨_, rfl⟩
  rw [hc]; rw [hp] at hl ⊢
  have he : p = [] → endsB p = true := fun e => by rw [e]; rfl
  by_cases h32 : c = 32
  · subst h32
    by_cases hn : hasNb (t.drop (k + 1)) = true
    · simp only [hn, bne_self_eq_false, Bool.false_or, if_true, prepStep, true_and, Bool.true_eq_false, false_or]
      by_cases hp0 : p = []
      · simp [hp0, endsB]
      · simp [hp0, hl hp0]
    · have hn' : hasNb (t.drop (k + 1)) = false := by simpa using hn
      simp only [hn', bne_self_eq_false, Bool.false_or, Bool.false_eq_true, if_false, true_or, if_true]
      unfold prepStep
      split
      · rfl
      · rename_i e
        rw [trimB_app, if_pos rfl]
        unfold trimB
        rw [if_neg]
        intro e2
        exact e ⟨rfl, by simp [endsB, e2]⟩
  · have hb : (c != 32) = true := by simpa using h32
    simp only [hb, Bool.true_or, if_true, h32, false_and, or_false, Bool.true_eq_false, if_false]
    have : prepStep p c = p ++ [c] := by rw [prepStep, if_neg fun e => h32 e.1]
    rw [this, trimB_app, if_neg h32]
    split <;> rfl
theorem refB_zero (t : List UInt8) : refB t 0 = [] := by unfold refB; split <;> simp [prepL, trimB]
theorem refB_end (t : List UInt8) : refB t t.length = trimB (prepL t) := by simp [refB, hasNb]
theorem refB_len (t : List UInt8) (k : Nat) : (refB t k).length ≤ k := by
  have := prepL_len t k
  unfold refB; split
  · exact this
  · unfold trimB; split
    · simp; omega
    · exact this

theorem rprep_k {s : List UInt8} (hs : (s.length : Int) ≤ 100000) {L : List Blk} {K : AV → List Blk → Prop} (h : K (.str (prepS s)) L) : ACall Tryz.prog 23 [.str s] L K := by
  replace h := hid h
  refine ACall_fn c_ref01_Prep_eq (by simp [c_ref01_Prep]) ?_
  simp only [c_ref01_Prep, initT]
  obtain ⟨t, ht⟩ : ∃ t, foldS s = t := ⟨_, rfl⟩
  have htl : (t.length : Int) ≤ 100000 := by rw [← ht]; simpa [foldS] using hs
  have hfin := hid (show refB t t.length = prepS s by rw [refB_end, prepS, ht])
  have kk1 := @hid _ (fun L K => rfold_k hs (L := L) (K := K))
  refine wk ?_
  refine AW_grow (l := []) (n := 0) 4 1 rfl (Nat.zero_mul 1).symm ?_
  refine AW_loopT (fun n T' L' => ∃ (k : Nat) (b : List UInt8) (v : List AV) (m : Nat), n = t.length - k ∧ k ≤ t.length ∧ b = refB t k ∧ v = u8s b ∧ m = b.length ∧ T' = [(5, .int .i64 (k : Int)), (4, .gsl v m L.length 1), (3, .str t), (2, .str [])] ∧ L' = L ++ [.spare m 1]) (Cut_same (by repeat' first | exact SubT_nil | refine SubT_cons rfl rfl ?_ | refine SubT_consF rfl rfl ?_) (by simp)) ⟨0, [], [], 0, rfl, Nat.zero_le _, (refB_zero t).symm, rfl, rfl, rfl, rfl⟩ ?_
  rintro _ _ _ ⟨k, b, v, m, rfl, hk, hb, rfl, rfl, rfl, rfl⟩
  replace hb := hid hb
  by_cases hlt : k < t.length
  · have h1 : (k : Int) < (t.length : Int) := by omega
    have h2 : IntKind.i64.wrap ((k : Int) + 1) = (k : Int) + 1 := wrap64_in (by omega) (by omega)
    refine wk ?_
    have hbl : b.length ≤ k := by rw [hb.out]; exact refB_len t k
    have hub : (u8s b).length = b.length := by simp [u8s]
    have hsucc := hid (refB_succ hlt)
    refine AW_loopT (fun n T' L' => ∃ (j : Nat) (later : Bool), n = t.length - j ∧ j ≤ t.length ∧ (later = true → hasNb (t.drop k) = true) ∧ (later = false → hasNb (t.drop k) = hasNb (t.drop j)) ∧ T' = [(7, .int .i64 (j : Int)), (6, .bool later), (5, .int .i64 (k : Int)), (4, .gsl (u8s b) b.length L.length 1), (3, .str t), (2, .str [])] ∧ L' = L ++ [.spare b.length 1]) (Cut_same (by repeat' first | exact SubT_nil | refine SubT_cons rfl rfl ?_ | refine SubT_consF rfl rfl ?_) (by simp)) ⟨k, false, rfl, by omega, (by simp), (by simp), rfl, rfl⟩ ?_
    rintro _ _ _ ⟨j, later, rfl, hj, hla, hlb, rfl, rfl⟩
    replace hla := hid hla
    replace hlb := hid hlb
    obtain ⟨c, hc⟩ : ∃ c, t.getD k 0 = c := ⟨_, rfl⟩
    rw [hc] at hsucc
    have hc' : ((t[k]?.getD 0)) = c := by rw [← hc, List.getD_eq_getElem?_getD]
    cases later
    · by_cases hjl : j < t.length
      · have g1 : (j : Int) < (t.length : Int) := by omega
        have g2 : IntKind.i64.wrap ((j : Int) + 1) = (j : Int) + 1 := wrap64_in (by omega) (by omega)
        have hd := hid (drop_cons hjl)
        obtain ⟨x, hx⟩ : ∃ x, t.getD j 0 = x := ⟨_, rfl⟩
        rw [hx] at hd
        refine wk ?_
        have hx32 : (x != 32) = !decide ((x.toNat : Int) = 32) := by
          have : (x.toNat : Int) = 32 ↔ x = 32 := ⟨fun h => UInt8.toNat_inj.1 (by have : (32 : UInt8).toNat = 32 := rfl; omega), fun h => by rw [h]; rfl⟩
          by_cases h : x = 32 <;> simp [h, this]
        have hnb := hlb.out rfl
        rw [hd.out, hasNb_cons, hx32] at hnb
        refine Nxt_mk _ _ _ (by omega) (Cut_same (by repeat' first | exact SubT_nil | refine SubT_cons rfl rfl ?_ | refine SubT_consF rfl rfl ?_ | refine SubT_cons rfl (congrArg (AV.int _) (by omega)) ?_ | refine SubT_cons rfl (by first | (simp_all; done) | (simp_all; omega) | (simp_all; intros; omega)) ?_) (by simp)) ⟨j + 1, !decide ((x.toNat : Int) = 32), rfl, hjl, fun e => by rw [hnb, e]; rfl, fun e => by rw [hnb, e]; rfl, rfl, rfl⟩
      · have g1 : ¬ (j : Int) < (t.length : Int) := by omega
        have hn : hasNb (t.drop k) = false := by rw [hlb.out rfl, List.drop_eq_nil_of_le (by omega)]; rfl
        replace hsucc := hid (show refB t (k + 1) = b by rw [hsucc.out, if_pos (.inl hn), hb.out])
        refine wk ?_
        exact Nxt_mk _ _ _ (by omega) (Cut_same (by repeat' first | exact SubT_nil | refine SubT_cons rfl rfl ?_ | refine SubT_consF rfl rfl ?_ | refine SubT_cons rfl (congrArg (AV.int _) (by omega)) ?_ | refine SubT_cons rfl (by first | (simp_all; done) | (simp_all; omega) | (simp_all; intros; omega)) ?_) (by simp)) ⟨k + 1, b, _, b.length, rfl, hlt, hsucc.out.symm, rfl, rfl, rfl, rfl⟩
    · have hn : hasNb (t.drop k) = true := hla.out rfl
      have hs2 := hsucc.out
      rw [hn] at hs2
      simp only [Bool.true_eq_false, false_or, ← hb.out] at hs2
      replace hs2 := hid hs2
      have g6 : b.length ≠ 0 → (1 : Int) ≤ (k : Int) := fun h => by omega
      replace g6 := hid g6
      have g7 := hid fun h : 1 ≤ k => show IntKind.i64.wrap ((k : Int) - 1) = (k : Int) - 1 from wrap64_in (by omega) (by omega)
      have u32 : ∀ x : UInt8, (x.toNat : Int) = 32 ↔ x = 32 := fun x => ⟨fun h => UInt8.toNat_inj.1 (by have : (32 : UInt8).toNat = 32 := rfl; omega), fun h => by rw [h]; rfl⟩
      replace u32 := hid u32
      repeat' first
        | refine AW_seq ?_
        | (first | refine AW_sreg (by kernel_rfl) ?_ | refine AW_sdreg (by kernel_rfl) ?_ | refine AW_dregM ?_ | refine Nx_in ?_ | refine NxI_in (fun _ => ?_) | refine AW_region ?_ | refine AW_dreg ?_)
          simp (config := { maxSteps := 2000000 }) only [Kon, push_cast, reduceIte, Nat.reduceEqDiff, Nat.reduceAdd, Nat.reduceMul, Nat.reduceSub, Nat.reduceLT, Nat.reduceLeDiff, Int.reduceLT, Int.reduceLE, Int.reduceAdd, Int.reduceSub, Int.reduceNeg, Int.reduceToNat, Int.reduceEq, reduceCtorEq, *]
        | (first | refine SelK_mk (by kernel_rfl) ?_ | refine AW_skip ?_ | refine AW_exit ?_ | refine AW_ret (Back_retR ?_))
          simp only [push_cast, reduceIte, Nat.reduceEqDiff, Nat.reduceAdd, Nat.reduceMul, Nat.reduceSub, Nat.reduceLT, Nat.reduceLeDiff, Int.reduceLT, Int.reduceLE, Int.reduceAdd, Int.reduceSub, Int.reduceNeg, Int.reduceToNat, Int.reduceEq, reduceCtorEq, *]
        | exact IsB_mk
        | first | apply GQ_mkT | apply GQ_mkTN | apply GQ_mkF | apply GQ_mkFN | apply GQ_mkB | apply GQ_mkBF
        | refine AW_block ?_
        | first | refine AW_condT rfl ?_ | refine AW_condF rfl ?_ | refine AW_condAny rfl ?_ ?_ | refine AW_condB rfl (fun _ => ?_) (fun _ => ?_) | refine AW_condN rfl (fun _ => ?_) (fun _ => ?_)
        | ((first | refine ite_introN (fun _ => ?_) (fun _ => ?_) | refine ite_intro (fun _ => ?_) (fun _ => ?_)) <;> try simp (config := { maxSteps := 2000000 }) only [Kon, push_cast, reduceIte, Nat.reduceEqDiff, Nat.reduceAdd, Nat.reduceMul, Nat.reduceSub, Nat.reduceLT, Nat.reduceLeDiff, Int.reduceLT, Int.reduceLE, Int.reduceAdd, Int.reduceSub, Int.reduceNeg, Int.reduceToNat, Int.reduceEq, reduceCtorEq, *])
        | refine And.intro trivial ?_
        | refine And.intro (by omega) ?_
        | refine AW_cond rfl (fun _ => ?_) (fun _ => ?_)
        | refine And.intro ?_ ?_
      · rename_i hz
        rw [g7.out (by omega)]; omega
      · rename_i hz
        rw [g7.out (by omega)]; omega
      · rename_i hq
        have hcond : c = 32 ∧ (b = [] ∨ t.getD (k - 1) 0 = 32) := by
          refine ⟨(u32.out c).1 hq.1, ?_⟩
          rcases hq.2 with e | e
          · exact .inl (List.length_eq_zero_iff.1 (by omega))
          · by_cases hb0 : b = []
            · exact .inl hb0
            · have hk1 : 1 ≤ k := by have := List.length_pos_iff.2 hb0; omega
              rw [g7.out hk1, show ((k : Int) - 1).toNat = k - 1 by omega] at e
              exact .inr ((u32.out _).1 e)
        exact Nxt_mk _ _ _ (by omega) (Cut_same (by repeat' first | exact SubT_nil | refine SubT_cons rfl rfl ?_ | refine SubT_consF rfl rfl ?_ | refine SubT_cons rfl (congrArg (AV.int _) (by omega)) ?_ | refine SubT_cons rfl (by first | (simp_all; done) | (simp_all; omega) | (simp_all; intros; omega)) ?_) (by simp)) ⟨k + 1, b, _, b.length, rfl, hlt, by rw [hs2.out, if_pos hcond], rfl, rfl, rfl, rfl⟩
      · rename_i hq
        have hcond : ¬ (c = 32 ∧ (b = [] ∨ t.getD (k - 1) 0 = 32)) := fun ⟨e1, e2⟩ => hq (by
          refine ⟨(u32.out c).2 e1, ?_⟩
          by_cases hb0 : b = []
          · exact .inl (by rw [hb0]; rfl)
          · have hk1 : 1 ≤ k := by have := List.length_pos_iff.2 hb0; omega
            rcases e2 with e | e
            · exact absurd e hb0
            · refine .inr ?_
              rw [g7.out hk1, show ((k : Int) - 1).toNat = k - 1 by omega]
              exact (u32.out _).2 e)
        rw [show u8s b ++ [AV.int IntKind.u8 (c.toNat : Int)] = u8s (b ++ [c]) by simp [u8s]]
        exact Nxt_mk _ _ _ (by omega) (Cut_same (by repeat' first | exact SubT_nil | refine SubT_cons rfl rfl ?_ | refine SubT_consF rfl rfl ?_ | refine SubT_cons rfl (congrArg (AV.int _) (by omega)) ?_ | refine SubT_cons rfl (by first | (simp_all; done) | (simp_all; omega) | (simp_all; intros; omega)) ?_) (by simp)) ⟨k + 1, b ++ [c], _, b.length + 1, rfl, hlt, by rw [hs2.out, if_neg hcond], rfl, by simp, rfl, rfl⟩
  · have hke : k = t.length := by omega
    subst hke
    have h1 : ¬ (t.length : Int) < (t.length : Int) := by omega
    have e1 := u8s_all b
    have e2 := u8s_back b
    have e3 := hid (show b = prepS s by rw [hb.out, hfin.out])
    refine wk ?_
    refine Fin_pure rfl ?_
    rw [e3.out]; exact h.out
end Go.Proofs.YtffnflplocbpiaaGreatDoor.Av
