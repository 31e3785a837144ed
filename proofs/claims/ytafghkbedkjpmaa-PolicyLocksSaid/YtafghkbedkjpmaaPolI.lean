import Derived.Test.YtafghkbedkjpmaaPolG
import Derived.Test.YtafghkbedkjpmaaPolH
import Derived.Test.YtafghkbedkjpmaaPolC
set_option linter.unusedSimpArgs false
set_option linter.unusedVariables false
namespace Go.Proofs.Ytafghkbedkjpmaa.Av
open Go
set_option maxHeartbeats 8000000

theorem try_k {pf pw pl pa : Int} {fs : List Int} {cap : Option Nat} {lk ch now : Int} {right : Bool} {L : List Blk} {K : AV → List Blk → Prop} (hn : fs.length ≤ 100000) (h : K (resT (tryR pf pw pl pa fs lk ch now right)) L) :
    ACall Try.prog 11 [.agg [.int .i64 pf, .int .i64 pw, .int .i64 pl, .int .i64 pa], .agg [.sl (ints fs) fs.length cap, .int .i64 lk, .int .i64 ch], .int .i64 now, .bool right] L K := by
  by_cases hne : fs.length = 0
  · have hfs : fs = [] := List.eq_nil_of_length_eq_zero hne
    subst hfs
    exact try0_k h
  · exact try1_k hn hne h

/-- Whether a failure is kept, as the document says. -/
def keepB (pw lk now x : Int) : Bool := decide (lk = -1) && (decide (pw = 0) || decide (IntKind.i64.wrap (now - x) < pw))

theorem fin_sl {L X : List Blk} {ks : List Int} {n : Nat} {cap : Option Nat} {lk ch code : Int} {K : AV → List Blk → Prop} (hn : n = ks.length) (h : K (resT ((ks, lk, ch), code)) L) :
    Fin L (.tup [.agg [.sl (ints ks) n cap, .int .i64 lk, .int .i64 ch], .int .i64 code]) (L ++ X) K := by
  subst hn
  refine Fin_frz (Fin_pure ?_ ?_)
  · simp [AV.frz, AV.frzL, AV.refs, AV.refsL, frzL_ints, refs_ints]
  · simpa [AV.frz, AV.frzL, resT, stA, frzL_ints] using h

theorem AW_growK {P : Program} {N : Nat} {own : Nat → Nat → Nat} {Q : Exit → Tm → List Blk → Prop} {T : Tm} {L X : List Blk} {lc : LCode} (t sz k : Nat) (hk : X.length = k) {l : List AV} {n : Nat} (h1 : look T t = some (.sl l n (some n))) (h2 : l.length = n * sz) (h : AW P N own lc Q ((t, .gsl l n (L.length + k) sz) :: T) (L ++ (X ++ [.spare n sz]))) : AW P N own lc Q T (L ++ X) := by
  refine AW_grow t sz h1 h2 ?_
  rw [List.length_append, hk, List.append_assoc]; exact h

theorem tryR_doc {pf pw pl pa : Int} {fs : List Int} {lk ch now : Int} {right : Bool} (hv : (polOk pf pw pl pa && stOk fs lk ch && okTime now) = true) : tryR pf pw pl pa fs lk ch now right =
    if lk ≠ -1 ∧ (pl = 0 ∨ IntKind.i64.wrap (now - lk) < pl) then ((fs, lk, ch), 2)
    else if right = true then (if pa ≠ 0 ∧ pa ≤ IntKind.i64.wrap (now - ch) then ((fs, lk, ch), 3) else (([], -1, ch), 0))
    else (let gs := fs.filter (keepB pw lk now)
      let ks := if 100 < (putIn gs now).length then (putIn gs now).drop 1 else putIn gs now
      if pf ≠ 0 ∧ pf ≤ ks.length then (([], now, ch), 1) else ((ks, -1, ch), 1)) := by
  have hv0 := hv
  simp only [polOk, stOk, okTime, Bool.and_eq_true, Bool.or_eq_true, decide_eq_true_eq] at hv
  obtain ⟨⟨⟨⟨⟨hf, hw⟩, hl⟩, ha⟩, ⟨⟨⟨hr, hn⟩, hlk⟩, hch⟩⟩, hnow⟩ := hv
  have hg : (if lk < 0 then fs.filter (fun f => !oldB pw now f) else []) = fs.filter (keepB pw lk now) := by
    by_cases h : lk = -1
    · subst h
      simp only [show (-1 : Int) < 0 by omega, if_true]
      congr 1
      funext f
      simp only [keepB, oldB, decide_true, Bool.true_and]
      rw [Bool.eq_iff_iff]
      simp only [Bool.not_and, Bool.or_eq_true, Bool.not_eq_true', decide_eq_false_iff_not, decide_eq_true_eq]
      omega
    · have : ¬ lk < 0 := by omega
      rw [if_neg this]
      symm
      exact List.filter_eq_nil_iff.2 fun x _ => by simp [keepB, h]
  have c1 : (0 ≤ lk ∧ (pl = 0 ∨ IntKind.i64.wrap (now - lk) < pl)) = (lk ≠ -1 ∧ (pl = 0 ∨ IntKind.i64.wrap (now - lk) < pl)) := propext ⟨fun h => ⟨by omega, h.2⟩, fun h => ⟨by omega, h.2⟩⟩
  have c2 : (0 < pa) = (pa ≠ 0) := propext ⟨fun h => by omega, fun h => by omega⟩
  have c3 : (0 < pf) = (pf ≠ 0) := propext ⟨fun h => by omega, fun h => by omega⟩
  simp only [tryR, hv0, hg, c1, c2, c3, Bool.true_eq_false, if_false]
  by_cases h : right = true <;> simp [h]

theorem fin_slE {L X : List Blk} {ks : List Int} {l : List AV} {n : Nat} {cap : Option Nat} {lk ch code : Int} {K : AV → List Blk → Prop} (hl : l = ints ks) (hn : n = ks.length) (h : K (resT ((ks, lk, ch), code)) L) :
    Fin L (.tup [.agg [.sl l n cap, .int .i64 lk, .int .i64 ch], .int .i64 code]) (L ++ X) K := by
  subst hl; exact fin_sl hn h
theorem fin_gsl {L X : List Blk} {ks : List Int} {l : List AV} {n i : Nat} {lk ch code : Int} {K : AV → List Blk → Prop} (hl : l = ints ks) (hn : n = ks.length) (h : K (resT ((ks, lk, ch), code)) L) :
    Fin L (.tup [.agg [.gsl l n i 1, .int .i64 lk, .int .i64 ch], .int .i64 code]) (L ++ X) K := by
  subst hl; subst hn
  refine Fin_frz (Fin_pure ?_ ?_)
  · simp [AV.frz, AV.frzL, AV.refs, AV.refsL, frzL_ints, refs_ints]
  · simpa [AV.frz, AV.frzL, resT, stA, frzL_ints] using h

theorem rtry_k {pf pw pl pa : Int} {fs : List Int} {cap : Option Nat} {lk ch now : Int} {right : Bool} {L : List Blk} {K : AV → List Blk → Prop} (hn : fs.length ≤ 100000) (h : K (resT (tryR pf pw pl pa fs lk ch now right)) L) :
    ACall Try.prog 12 [.agg [.int .i64 pf, .int .i64 pw, .int .i64 pl, .int .i64 pa], .agg [.sl (ints fs) fs.length cap, .int .i64 lk, .int .i64 ch], .int .i64 now, .bool right] L K := by
  replace h := hid h
  obtain ⟨bl, hbl⟩ : ∃ b, decide (lk = -1) = b := ⟨_, rfl⟩
  obtain ⟨bw, hbw⟩ : ∃ b, decide (pw = 0) = b := ⟨_, rfl⟩
  obtain ⟨bp, hbp⟩ : ∃ b, decide (pl = 0) = b := ⟨_, rfl⟩
  obtain ⟨ba, hba⟩ : ∃ b, decide (pa = 0) = b := ⟨_, rfl⟩
  obtain ⟨bf, hbf⟩ : ∃ b, decide (pf = 0) = b := ⟨_, rfl⟩
  refine ACall_fn c_ref23_Try_eq (by simp [c_ref23_Try]) ?_
  simp only [c_ref23_Try, initT]
  repeat' first
    | refine AW_seq ?_
    | (refine AW_region ?_; simp only [Kon, push_cast, reduceIte, Nat.reduceEqDiff, Nat.reduceAdd, Nat.reduceMul, Nat.reduceSub, Nat.reduceLT, Nat.reduceLeDiff, Int.reduceLT, Int.reduceLE, Int.reduceAdd, Int.reduceSub, Int.reduceNeg, Int.reduceToNat, Int.reduceEq, reduceCtorEq, *])
    | (refine AW_dreg ?_; simp only [Kon, push_cast, reduceIte, Nat.reduceEqDiff, Nat.reduceAdd, Nat.reduceMul, Nat.reduceSub, Nat.reduceLT, Nat.reduceLeDiff, Int.reduceLT, Int.reduceLE, Int.reduceAdd, Int.reduceSub, Int.reduceNeg, Int.reduceToNat, Int.reduceEq, reduceCtorEq, *])
    | (refine AW_block ?_)
    | (refine rtime_k ?_; simp only [Kon, push_cast, reduceIte, Nat.reduceEqDiff, Nat.reduceAdd, Nat.reduceMul, Nat.reduceSub, Nat.reduceLT, Nat.reduceLeDiff, Int.reduceLT, Int.reduceLE, Int.reduceAdd, Int.reduceSub, Int.reduceNeg, Int.reduceToNat, Int.reduceEq, reduceCtorEq, *])
    | (refine rcheck_k ?_; simp only [Kon, push_cast, reduceIte, Nat.reduceEqDiff, Nat.reduceAdd, Nat.reduceMul, Nat.reduceSub, Nat.reduceLT, Nat.reduceLeDiff, Int.reduceLT, Int.reduceLE, Int.reduceAdd, Int.reduceSub, Int.reduceNeg, Int.reduceToNat, Int.reduceEq, reduceCtorEq, *])
    | (refine rright_k (by omega) ?_; simp only [Kon, push_cast, reduceIte, Nat.reduceEqDiff, Nat.reduceAdd, Nat.reduceMul, Nat.reduceSub, Nat.reduceLT, Nat.reduceLeDiff, Int.reduceLT, Int.reduceLE, Int.reduceAdd, Int.reduceSub, Int.reduceNeg, Int.reduceToNat, Int.reduceEq, reduceCtorEq, *])
    | (refine CalK2_mk (rtime_k ⟨rfl, rfl⟩) (rtime_k ⟨rfl, rfl⟩) ?_; simp only [Kon, push_cast, reduceIte, Nat.reduceEqDiff, Nat.reduceAdd, Nat.reduceMul, Nat.reduceSub, Nat.reduceLT, Nat.reduceLeDiff, Int.reduceLT, Int.reduceLE, Int.reduceAdd, Int.reduceSub, Int.reduceNeg, Int.reduceToNat, Int.reduceEq, reduceCtorEq, *])
    | (refine CalK2_mk (rcheck_k ⟨rfl, rfl⟩) (rcheck_k ⟨rfl, rfl⟩) ?_; simp only [Kon, push_cast, reduceIte, Nat.reduceEqDiff, Nat.reduceAdd, Nat.reduceMul, Nat.reduceSub, Nat.reduceLT, Nat.reduceLeDiff, Int.reduceLT, Int.reduceLE, Int.reduceAdd, Int.reduceSub, Int.reduceNeg, Int.reduceToNat, Int.reduceEq, reduceCtorEq, *])
    | (refine CalK_mk (rtime_k ⟨rfl, rfl⟩) ?_; simp only [Kon, push_cast, reduceIte, Nat.reduceEqDiff, Nat.reduceAdd, Nat.reduceMul, Nat.reduceSub, Nat.reduceLT, Nat.reduceLeDiff, Int.reduceLT, Int.reduceLE, Int.reduceAdd, Int.reduceSub, Int.reduceNeg, Int.reduceToNat, Int.reduceEq, reduceCtorEq, *])
    | (refine CalK_mk (rcheck_k ⟨rfl, rfl⟩) ?_; simp only [Kon, push_cast, reduceIte, Nat.reduceEqDiff, Nat.reduceAdd, Nat.reduceMul, Nat.reduceSub, Nat.reduceLT, Nat.reduceLeDiff, Int.reduceLT, Int.reduceLE, Int.reduceAdd, Int.reduceSub, Int.reduceNeg, Int.reduceToNat, Int.reduceEq, reduceCtorEq, *])
    | refine AW_condT rfl ?_
    | refine AW_condF rfl ?_
    | refine AW_condAny rfl ?_ ?_
    | refine AW_condB rfl (fun _ => ?_) (fun _ => ?_)
    | refine AW_condN rfl (fun _ => ?_) (fun _ => ?_)
    | (refine ite_introN (fun _ => ?_) (fun _ => ?_) <;> try simp only [Kon, push_cast, reduceIte, Nat.reduceEqDiff, Nat.reduceAdd, Nat.reduceMul, Nat.reduceSub, Nat.reduceLT, Nat.reduceLeDiff, Int.reduceLT, Int.reduceLE, Int.reduceAdd, Int.reduceSub, Int.reduceNeg, Int.reduceToNat, Int.reduceEq, reduceCtorEq, *])
    | (refine ite_intro (fun _ => ?_) (fun _ => ?_) <;> try simp only [Kon, push_cast, reduceIte, Nat.reduceEqDiff, Nat.reduceAdd, Nat.reduceMul, Nat.reduceSub, Nat.reduceLT, Nat.reduceLeDiff, Int.reduceLT, Int.reduceLE, Int.reduceAdd, Int.reduceSub, Int.reduceNeg, Int.reduceToNat, Int.reduceEq, reduceCtorEq, *])
    | refine And.intro trivial ?_
    | refine And.intro (by omega) ?_
    | refine AW_block ?_
    | (refine AW_skip ?_; simp only [push_cast, reduceIte, Nat.reduceEqDiff, Nat.reduceAdd, Nat.reduceMul, Nat.reduceSub, Nat.reduceLT, Nat.reduceLeDiff, Int.reduceLT, Int.reduceLE, Int.reduceAdd, Int.reduceSub, Int.reduceNeg, Int.reduceToNat, Int.reduceEq, reduceCtorEq])
    | (refine AW_exit ?_; simp only [push_cast, reduceIte, Nat.reduceEqDiff, Nat.reduceAdd, Nat.reduceMul, Nat.reduceSub, Nat.reduceLT, Nat.reduceLeDiff, Int.reduceLT, Int.reduceLE, Int.reduceAdd, Int.reduceSub, Int.reduceNeg, Int.reduceToNat, Int.reduceEq, reduceCtorEq])
    | (refine AW_ret (Back_retR ?_); simp only [push_cast, reduceIte, Nat.reduceEqDiff, Nat.reduceAdd, Nat.reduceMul, Nat.reduceSub, Nat.reduceLT, Nat.reduceLeDiff, Int.reduceLT, Int.reduceLE, Int.reduceAdd, Int.reduceSub, Int.reduceNeg, Int.reduceToNat, Int.reduceEq, reduceCtorEq, *])
    | refine AW_cond rfl (fun _ => ?_) (fun _ => ?_)
    | refine And.intro ?_ ?_
  all_goals first
    | (exfalso; simp_all; done)
    | (refine fin_sl rfl ?_; refine (congrArg (fun r => K (resT r) L) ?_).mp h.out)
    | (refine fin_sl (ks := []) rfl ?_; refine (congrArg (fun r => K (resT r) L) ?_).mp h.out)
    | skip
  all_goals try (clear h; simp_all [tryR]; done)
  all_goals try (clear h; rw [tryR_doc (by simp_all)]; simp_all; done)
  all_goals try (clear h; rw [tryR_doc (by simp_all)]; (repeat' split) <;> first | rfl | (exfalso; simp_all; done) | (exfalso; simp_all; omega))
  all_goals (
    have hv : (polOk pf pw pl pa && stOk fs lk ch && okTime now) = true := by clear h; simp_all
    have hnl : ¬ (lk ≠ -1 ∧ (pl = 0 ∨ IntKind.i64.wrap (now - lk) < pl)) := by clear h; simp_all
    have hD := tryR_doc (pf := pf) (pw := pw) (pl := pl) (pa := pa) (fs := fs) (lk := lk) (ch := ch) (now := now) (right := false) hv
    rw [if_neg hnl, if_neg (by simp)] at hD
    replace hD := hid hD
    replace hv := hid hv
    clear hnl
    refine AW_growK (L := L) (l := []) (n := 0) 10 1 3 rfl rfl (Nat.zero_mul 1).symm (AW_loopT (fun n T' L' => ∃ (k : Nat) (acc : List Int), n = fs.length - k ∧ k ≤ fs.length ∧ T' = [(69, .int .i64 (k : Int)), (68, .int .i64 fs.length), (67, .sl (ints fs) fs.length cap), (10, .gsl (ints acc) acc.length (L.length + 3) 1), (2, .int .i64 now), (4, .ptr L.length 0), (5, .ptr (L.length + 1) 0), (8, .ptr (L.length + 2) 0)] ∧ L' = L ++ [.cells [.int .i64 pf, .int .i64 pw, .int .i64 pl, .int .i64 pa], .cells [.sl (ints fs) fs.length cap, .int .i64 lk, .int .i64 ch], .cells [.sl [] 0 (some 0), .int .i64 0, .int .i64 0], .spare acc.length 1] ∧ acc.length ≤ k ∧
      fs.filter (keepB pw lk now) = acc ++ (fs.drop k).filter (keepB pw lk now)) (Cut_same (by repeat' first | exact SubT_nil | refine SubT_cons rfl rfl ?_ | refine SubT_consF rfl rfl ?_) (Nat.le_refl _)) ⟨0, [], rfl, Nat.zero_le _, rfl, rfl, Nat.le_refl _, by simp⟩ ?_)
    rintro _ _ _ ⟨k, acc, rfl, hk, rfl, rfl, hacc, hf⟩
    replace hf := hid hf
    by_cases hlt : k < fs.length
    · have h1 : (k : Int) < (fs.length : Int) := by omega
      have h2 : IntKind.i64.wrap ((k : Int) + 1) = (k : Int) + 1 := wrap64_in (by omega) (by omega)
      have h4 : (fs.map (AV.int .i64)).getD k .undef = .int .i64 (fs.getD k 0) := by simp [hlt]
      have h5 : (fs.drop k).filter (keepB pw lk now) = (if keepB pw lk now (fs.getD k 0) = true then [fs.getD k 0] else []) ++ (fs.drop (k + 1)).filter (keepB pw lk now) := by
        rw [List.drop_eq_getElem_cons hlt, List.filter_cons]
        simp only [List.getD_eq_getElem?_getD, hlt, List.getElem?_eq_getElem, Option.getD_some]
        split <;> rfl
      replace h5 := hid h5
      have hdl : decide (lk = -1) = bl := hbl
      repeat' first
        | refine AW_seq ?_
        | (refine AW_region ?_; simp only [Kon, push_cast, reduceIte, Nat.reduceEqDiff, Nat.reduceAdd, Nat.reduceMul, Nat.reduceSub, Nat.reduceLT, Nat.reduceLeDiff, Int.reduceLT, Int.reduceLE, Int.reduceAdd, Int.reduceSub, Int.reduceNeg, Int.reduceToNat, Int.reduceEq, reduceCtorEq, *])
        | (refine AW_dreg ?_; simp only [Kon, push_cast, reduceIte, Nat.reduceEqDiff, Nat.reduceAdd, Nat.reduceMul, Nat.reduceSub, Nat.reduceLT, Nat.reduceLeDiff, Int.reduceLT, Int.reduceLE, Int.reduceAdd, Int.reduceSub, Int.reduceNeg, Int.reduceToNat, Int.reduceEq, reduceCtorEq, *])
        | (refine AW_block ?_)
        | refine AW_condT rfl ?_
        | refine AW_condF rfl ?_
        | refine AW_condAny rfl ?_ ?_
        | refine AW_condB rfl (fun _ => ?_) (fun _ => ?_)
        | refine AW_condN rfl (fun _ => ?_) (fun _ => ?_)
        | (refine ite_introN (fun _ => ?_) (fun _ => ?_) <;> try simp only [Kon, push_cast, reduceIte, Nat.reduceEqDiff, Nat.reduceAdd, Nat.reduceMul, Nat.reduceSub, Nat.reduceLT, Nat.reduceLeDiff, Int.reduceLT, Int.reduceLE, Int.reduceAdd, Int.reduceSub, Int.reduceNeg, Int.reduceToNat, Int.reduceEq, reduceCtorEq, *])
        | (refine ite_intro (fun _ => ?_) (fun _ => ?_) <;> try simp only [Kon, push_cast, reduceIte, Nat.reduceEqDiff, Nat.reduceAdd, Nat.reduceMul, Nat.reduceSub, Nat.reduceLT, Nat.reduceLeDiff, Int.reduceLT, Int.reduceLE, Int.reduceAdd, Int.reduceSub, Int.reduceNeg, Int.reduceToNat, Int.reduceEq, reduceCtorEq, *])
        | refine And.intro trivial ?_
        | refine And.intro (by omega) ?_
        | refine AW_block ?_
        | (refine AW_skip ?_; simp only [push_cast, reduceIte, Nat.reduceEqDiff, Nat.reduceAdd, Nat.reduceMul, Nat.reduceSub, Nat.reduceLT, Nat.reduceLeDiff, Int.reduceLT, Int.reduceLE, Int.reduceAdd, Int.reduceSub, Int.reduceNeg, Int.reduceToNat, Int.reduceEq, reduceCtorEq])
        | (refine AW_exit ?_; simp only [push_cast, reduceIte, Nat.reduceEqDiff, Nat.reduceAdd, Nat.reduceMul, Nat.reduceSub, Nat.reduceLT, Nat.reduceLeDiff, Int.reduceLT, Int.reduceLE, Int.reduceAdd, Int.reduceSub, Int.reduceNeg, Int.reduceToNat, Int.reduceEq, reduceCtorEq])
        | (refine AW_ret (Back_retR ?_); simp only [push_cast, reduceIte, Nat.reduceEqDiff, Nat.reduceAdd, Nat.reduceMul, Nat.reduceSub, Nat.reduceLT, Nat.reduceLeDiff, Int.reduceLT, Int.reduceLE, Int.reduceAdd, Int.reduceSub, Int.reduceNeg, Int.reduceToNat, Int.reduceEq, reduceCtorEq, *])
        | refine AW_cond rfl (fun _ => ?_) (fun _ => ?_)
        | refine And.intro ?_ ?_
      all_goals first
        | refine Nxt_mk _ _ _ (by omega) (Cut_same (by repeat' first | exact SubT_nil | refine SubT_cons rfl rfl ?_ | refine SubT_consF rfl rfl ?_) (by simp)) ⟨k + 1, acc, rfl, hlt, rfl, rfl, by omega, ?_⟩
        | refine Nxt_mk _ _ _ (by omega) (Cut_same (by repeat' first | exact SubT_nil | refine SubT_cons rfl rfl ?_ | refine SubT_consF rfl rfl ?_ | refine SubT_cons rfl (congrArg (AV.int _) (by omega)) ?_ | refine SubT_cons rfl (by first | (simp_all; done) | (simp_all; omega) | (simp_all; intros; omega)) ?_) (by simp)) ⟨k + 1, acc ++ [fs.getD k 0], rfl, hlt, rfl, by simp, by simp; omega, ?_⟩
      all_goals (rw [hf.out, h5.out]; subst hbl hbw; clear h h1 h2 h4 h5 hf; simp_all [keepB])
    · have h1 : ¬ (k : Int) < (fs.length : Int) := by omega
      have hf2 : fs.filter (keepB pw lk now) = acc := by rw [hf.out, List.drop_eq_nil_of_le (by omega)]; simp
      clear hf
      replace hf2 := hid hf2
      repeat' first
        | refine AW_seq ?_
        | (refine AW_region ?_; simp only [Kon, push_cast, reduceIte, Nat.reduceEqDiff, Nat.reduceAdd, Nat.reduceMul, Nat.reduceSub, Nat.reduceLT, Nat.reduceLeDiff, Int.reduceLT, Int.reduceLE, Int.reduceAdd, Int.reduceSub, Int.reduceNeg, Int.reduceToNat, Int.reduceEq, reduceCtorEq, *])
        | (refine AW_dreg ?_; simp only [Kon, push_cast, reduceIte, Nat.reduceEqDiff, Nat.reduceAdd, Nat.reduceMul, Nat.reduceSub, Nat.reduceLT, Nat.reduceLeDiff, Int.reduceLT, Int.reduceLE, Int.reduceAdd, Int.reduceSub, Int.reduceNeg, Int.reduceToNat, Int.reduceEq, reduceCtorEq, *])
        | (refine AW_block ?_)
        | refine AW_condT rfl ?_
        | refine AW_condF rfl ?_
        | refine AW_condAny rfl ?_ ?_
        | refine AW_condB rfl (fun _ => ?_) (fun _ => ?_)
        | refine AW_condN rfl (fun _ => ?_) (fun _ => ?_)
        | (refine ite_introN (fun _ => ?_) (fun _ => ?_) <;> try simp only [Kon, push_cast, reduceIte, Nat.reduceEqDiff, Nat.reduceAdd, Nat.reduceMul, Nat.reduceSub, Nat.reduceLT, Nat.reduceLeDiff, Int.reduceLT, Int.reduceLE, Int.reduceAdd, Int.reduceSub, Int.reduceNeg, Int.reduceToNat, Int.reduceEq, reduceCtorEq, *])
        | (refine ite_intro (fun _ => ?_) (fun _ => ?_) <;> try simp only [Kon, push_cast, reduceIte, Nat.reduceEqDiff, Nat.reduceAdd, Nat.reduceMul, Nat.reduceSub, Nat.reduceLT, Nat.reduceLeDiff, Int.reduceLT, Int.reduceLE, Int.reduceAdd, Int.reduceSub, Int.reduceNeg, Int.reduceToNat, Int.reduceEq, reduceCtorEq, *])
        | refine And.intro trivial ?_
        | refine And.intro (by omega) ?_
        | refine AW_block ?_
        | (refine AW_skip ?_; simp only [push_cast, reduceIte, Nat.reduceEqDiff, Nat.reduceAdd, Nat.reduceMul, Nat.reduceSub, Nat.reduceLT, Nat.reduceLeDiff, Int.reduceLT, Int.reduceLE, Int.reduceAdd, Int.reduceSub, Int.reduceNeg, Int.reduceToNat, Int.reduceEq, reduceCtorEq])
        | (refine AW_exit ?_; simp only [push_cast, reduceIte, Nat.reduceEqDiff, Nat.reduceAdd, Nat.reduceMul, Nat.reduceSub, Nat.reduceLT, Nat.reduceLeDiff, Int.reduceLT, Int.reduceLE, Int.reduceAdd, Int.reduceSub, Int.reduceNeg, Int.reduceToNat, Int.reduceEq, reduceCtorEq])
        | (refine AW_ret (Back_retR ?_); simp only [push_cast, reduceIte, Nat.reduceEqDiff, Nat.reduceAdd, Nat.reduceMul, Nat.reduceSub, Nat.reduceLT, Nat.reduceLeDiff, Int.reduceLT, Int.reduceLE, Int.reduceAdd, Int.reduceSub, Int.reduceNeg, Int.reduceToNat, Int.reduceEq, reduceCtorEq, *])
        | refine AW_cond rfl (fun _ => ?_) (fun _ => ?_)
        | refine And.intro ?_ ?_
      refine AW_growK (L := L) (l := []) (n := 0) 13 1 4 rfl rfl (Nat.zero_mul 1).symm (AW_growK (L := L) (l := []) (n := 0) 14 1 5 rfl rfl (Nat.zero_mul 1).symm (AW_loopT (fun n T' L' => ∃ (k : Nat) (a1 a2 : List Int), n = acc.length - k ∧ k ≤ acc.length ∧ T' = [(96, .int .i64 (k : Int)), (95, .int .i64 acc.length), (94, .gsl (ints acc) acc.length (L.length + 3) 1), (13, .gsl (ints a1) a1.length (L.length + 4) 1), (14, .gsl (ints a2) a2.length (L.length + 5) 1), (2, .int .i64 now), (4, .ptr L.length 0), (5, .ptr (L.length + 1) 0), (8, .ptr (L.length + 2) 0)] ∧ L' = L ++ [.cells [.int .i64 pf, .int .i64 pw, .int .i64 pl, .int .i64 pa], .cells [.sl (ints fs) fs.length cap, .int .i64 lk, .int .i64 ch], .cells [.sl [] 0 (some 0), .int .i64 0, .int .i64 0], .spare acc.length 1, .spare a1.length 1, .spare a2.length 1] ∧ a1.length + a2.length ≤ k ∧
        acc.filter (fun f => decide (f < now)) = a1 ++ (acc.drop k).filter (fun f => decide (f < now)) ∧ acc.filter (fun f => !decide (f < now)) = a2 ++ (acc.drop k).filter (fun f => !decide (f < now))) (Cut_same (by repeat' first | exact SubT_nil | refine SubT_cons rfl rfl ?_ | refine SubT_consF rfl rfl ?_) (Nat.le_refl _)) ⟨0, [], [], rfl, Nat.zero_le _, rfl, rfl, Nat.le_refl _, by simp⟩ ?_))
      have hacl : acc.length ≤ fs.length := by omega
      clear h1 hlt hk hacc
      rintro _ _ _ ⟨k, a1, a2, rfl, hk, rfl, rfl, ha, hf1, hf2⟩
      replace hf1 := hid hf1
      replace hf2 := hid hf2
      by_cases hlt : k < acc.length
      · have h1 : (k : Int) < (acc.length : Int) := by omega
        have h2 : IntKind.i64.wrap ((k : Int) + 1) = (k : Int) + 1 := wrap64_in (by omega) (by omega)
        have h4 : (acc.map (AV.int .i64)).getD k .undef = .int .i64 (acc.getD k 0) := by simp [hlt]
        have h5 : ∀ q : Int → Bool, (acc.drop k).filter q = (if q (acc.getD k 0) = true then [acc.getD k 0] else []) ++ (acc.drop (k + 1)).filter q := fun q => by
          rw [List.drop_eq_getElem_cons hlt, List.filter_cons]
          simp only [List.getD_eq_getElem?_getD, hlt, List.getElem?_eq_getElem, Option.getD_some]
          split <;> rfl
        replace h5 := hid h5
        by_cases hx : acc.getD k 0 < now
        · repeat' first
            | refine AW_seq ?_
            | (refine AW_region ?_; simp only [Kon, push_cast, reduceIte, Nat.reduceEqDiff, Nat.reduceAdd, Nat.reduceMul, Nat.reduceSub, Nat.reduceLT, Nat.reduceLeDiff, Int.reduceLT, Int.reduceLE, Int.reduceAdd, Int.reduceSub, Int.reduceNeg, Int.reduceToNat, Int.reduceEq, reduceCtorEq, *])
            | (refine AW_dreg ?_; simp only [Kon, push_cast, reduceIte, Nat.reduceEqDiff, Nat.reduceAdd, Nat.reduceMul, Nat.reduceSub, Nat.reduceLT, Nat.reduceLeDiff, Int.reduceLT, Int.reduceLE, Int.reduceAdd, Int.reduceSub, Int.reduceNeg, Int.reduceToNat, Int.reduceEq, reduceCtorEq, *])
            | (refine AW_block ?_)
            | refine AW_condT rfl ?_
            | refine AW_condF rfl ?_
            | refine AW_condAny rfl ?_ ?_
            | refine AW_condB rfl (fun _ => ?_) (fun _ => ?_)
            | refine AW_condN rfl (fun _ => ?_) (fun _ => ?_)
            | (refine ite_introN (fun _ => ?_) (fun _ => ?_) <;> try simp only [Kon, push_cast, reduceIte, Nat.reduceEqDiff, Nat.reduceAdd, Nat.reduceMul, Nat.reduceSub, Nat.reduceLT, Nat.reduceLeDiff, Int.reduceLT, Int.reduceLE, Int.reduceAdd, Int.reduceSub, Int.reduceNeg, Int.reduceToNat, Int.reduceEq, reduceCtorEq, *])
            | (refine ite_intro (fun _ => ?_) (fun _ => ?_) <;> try simp only [Kon, push_cast, reduceIte, Nat.reduceEqDiff, Nat.reduceAdd, Nat.reduceMul, Nat.reduceSub, Nat.reduceLT, Nat.reduceLeDiff, Int.reduceLT, Int.reduceLE, Int.reduceAdd, Int.reduceSub, Int.reduceNeg, Int.reduceToNat, Int.reduceEq, reduceCtorEq, *])
            | refine And.intro trivial ?_
            | refine And.intro (by omega) ?_
            | refine AW_block ?_
            | (refine AW_skip ?_; simp only [push_cast, reduceIte, Nat.reduceEqDiff, Nat.reduceAdd, Nat.reduceMul, Nat.reduceSub, Nat.reduceLT, Nat.reduceLeDiff, Int.reduceLT, Int.reduceLE, Int.reduceAdd, Int.reduceSub, Int.reduceNeg, Int.reduceToNat, Int.reduceEq, reduceCtorEq])
            | (refine AW_exit ?_; simp only [push_cast, reduceIte, Nat.reduceEqDiff, Nat.reduceAdd, Nat.reduceMul, Nat.reduceSub, Nat.reduceLT, Nat.reduceLeDiff, Int.reduceLT, Int.reduceLE, Int.reduceAdd, Int.reduceSub, Int.reduceNeg, Int.reduceToNat, Int.reduceEq, reduceCtorEq])
            | (refine AW_ret (Back_retR ?_); simp only [push_cast, reduceIte, Nat.reduceEqDiff, Nat.reduceAdd, Nat.reduceMul, Nat.reduceSub, Nat.reduceLT, Nat.reduceLeDiff, Int.reduceLT, Int.reduceLE, Int.reduceAdd, Int.reduceSub, Int.reduceNeg, Int.reduceToNat, Int.reduceEq, reduceCtorEq, *])
            | refine AW_cond rfl (fun _ => ?_) (fun _ => ?_)
            | refine And.intro ?_ ?_
          refine Nxt_mk _ _ _ (by omega) (Cut_same (by repeat' first | exact SubT_nil | refine SubT_cons rfl rfl ?_ | refine SubT_consF rfl rfl ?_ | refine SubT_cons rfl (congrArg (AV.int _) (by omega)) ?_ | refine SubT_cons rfl (by first | (simp_all; done) | (simp_all; omega) | (simp_all; intros; omega)) ?_) (by simp)) ⟨k + 1, a1 ++ [acc.getD k 0], a2, rfl, hlt, rfl, by simp, by simp; omega, ?_, ?_⟩
          · rw [hf1.out, h5.out]; simp only [hx, decide_true, decide_false, if_true, Bool.not_true, Bool.not_false, Bool.false_eq_true, if_false, List.append_assoc, List.nil_append]
          · rw [hf2.out, h5.out]; simp only [hx, decide_true, decide_false, if_true, Bool.not_true, Bool.not_false, Bool.false_eq_true, if_false, List.append_assoc, List.nil_append]
        · repeat' first
            | refine AW_seq ?_
            | (refine AW_region ?_; simp only [Kon, push_cast, reduceIte, Nat.reduceEqDiff, Nat.reduceAdd, Nat.reduceMul, Nat.reduceSub, Nat.reduceLT, Nat.reduceLeDiff, Int.reduceLT, Int.reduceLE, Int.reduceAdd, Int.reduceSub, Int.reduceNeg, Int.reduceToNat, Int.reduceEq, reduceCtorEq, *])
            | (refine AW_dreg ?_; simp only [Kon, push_cast, reduceIte, Nat.reduceEqDiff, Nat.reduceAdd, Nat.reduceMul, Nat.reduceSub, Nat.reduceLT, Nat.reduceLeDiff, Int.reduceLT, Int.reduceLE, Int.reduceAdd, Int.reduceSub, Int.reduceNeg, Int.reduceToNat, Int.reduceEq, reduceCtorEq, *])
            | (refine AW_block ?_)
            | refine AW_condT rfl ?_
            | refine AW_condF rfl ?_
            | refine AW_condAny rfl ?_ ?_
            | refine AW_condB rfl (fun _ => ?_) (fun _ => ?_)
            | refine AW_condN rfl (fun _ => ?_) (fun _ => ?_)
            | (refine ite_introN (fun _ => ?_) (fun _ => ?_) <;> try simp only [Kon, push_cast, reduceIte, Nat.reduceEqDiff, Nat.reduceAdd, Nat.reduceMul, Nat.reduceSub, Nat.reduceLT, Nat.reduceLeDiff, Int.reduceLT, Int.reduceLE, Int.reduceAdd, Int.reduceSub, Int.reduceNeg, Int.reduceToNat, Int.reduceEq, reduceCtorEq, *])
            | (refine ite_intro (fun _ => ?_) (fun _ => ?_) <;> try simp only [Kon, push_cast, reduceIte, Nat.reduceEqDiff, Nat.reduceAdd, Nat.reduceMul, Nat.reduceSub, Nat.reduceLT, Nat.reduceLeDiff, Int.reduceLT, Int.reduceLE, Int.reduceAdd, Int.reduceSub, Int.reduceNeg, Int.reduceToNat, Int.reduceEq, reduceCtorEq, *])
            | refine And.intro trivial ?_
            | refine And.intro (by omega) ?_
            | refine AW_block ?_
            | (refine AW_skip ?_; simp only [push_cast, reduceIte, Nat.reduceEqDiff, Nat.reduceAdd, Nat.reduceMul, Nat.reduceSub, Nat.reduceLT, Nat.reduceLeDiff, Int.reduceLT, Int.reduceLE, Int.reduceAdd, Int.reduceSub, Int.reduceNeg, Int.reduceToNat, Int.reduceEq, reduceCtorEq])
            | (refine AW_exit ?_; simp only [push_cast, reduceIte, Nat.reduceEqDiff, Nat.reduceAdd, Nat.reduceMul, Nat.reduceSub, Nat.reduceLT, Nat.reduceLeDiff, Int.reduceLT, Int.reduceLE, Int.reduceAdd, Int.reduceSub, Int.reduceNeg, Int.reduceToNat, Int.reduceEq, reduceCtorEq])
            | (refine AW_ret (Back_retR ?_); simp only [push_cast, reduceIte, Nat.reduceEqDiff, Nat.reduceAdd, Nat.reduceMul, Nat.reduceSub, Nat.reduceLT, Nat.reduceLeDiff, Int.reduceLT, Int.reduceLE, Int.reduceAdd, Int.reduceSub, Int.reduceNeg, Int.reduceToNat, Int.reduceEq, reduceCtorEq, *])
            | refine AW_cond rfl (fun _ => ?_) (fun _ => ?_)
            | refine And.intro ?_ ?_
          refine Nxt_mk _ _ _ (by omega) (Cut_same (by repeat' first | exact SubT_nil | refine SubT_cons rfl rfl ?_ | refine SubT_consF rfl rfl ?_ | refine SubT_cons rfl (congrArg (AV.int _) (by omega)) ?_ | refine SubT_cons rfl (by first | (simp_all; done) | (simp_all; omega) | (simp_all; intros; omega)) ?_) (by simp)) ⟨k + 1, a1, a2 ++ [acc.getD k 0], rfl, hlt, rfl, by simp, by simp; omega, ?_, ?_⟩
          · rw [hf1.out, h5.out]; simp only [hx, decide_true, decide_false, if_true, Bool.not_true, Bool.not_false, Bool.false_eq_true, if_false, List.append_assoc, List.nil_append]
          · rw [hf2.out, h5.out]; simp only [hx, decide_true, decide_false, if_true, Bool.not_true, Bool.not_false, Bool.false_eq_true, if_false, List.append_assoc, List.nil_append]
      · have h1 : ¬ (k : Int) < (acc.length : Int) := by omega
        have e1 : acc.filter (fun f => decide (f < now)) = a1 := by rw [hf1.out, List.drop_eq_nil_of_le (by omega)]; simp
        have e2 : acc.filter (fun f => !decide (f < now)) = a2 := by rw [hf2.out, List.drop_eq_nil_of_le (by omega)]; simp
        have ep : putIn acc now = a1 ++ now :: a2 := by rw [putIn, e1, e2]
        clear e1 e2 hf1 hf2
        replace ep := hid ep
        have hton : ((a1.length : Int) + 1 + a2.length).toNat - 1 = a1.length + a2.length := by omega
        repeat' first
          | refine AW_seq ?_
          | (refine AW_region ?_; simp only [Kon, push_cast, reduceIte, Nat.reduceEqDiff, Nat.reduceAdd, Nat.reduceMul, Nat.reduceSub, Nat.reduceLT, Nat.reduceLeDiff, Int.reduceLT, Int.reduceLE, Int.reduceAdd, Int.reduceSub, Int.reduceNeg, Int.reduceToNat, Int.reduceEq, reduceCtorEq, *])
          | (refine AW_dreg ?_; simp only [Kon, push_cast, reduceIte, Nat.reduceEqDiff, Nat.reduceAdd, Nat.reduceMul, Nat.reduceSub, Nat.reduceLT, Nat.reduceLeDiff, Int.reduceLT, Int.reduceLE, Int.reduceAdd, Int.reduceSub, Int.reduceNeg, Int.reduceToNat, Int.reduceEq, reduceCtorEq, *])
          | (refine AW_block ?_)
          | refine AW_condT rfl ?_
          | refine AW_condF rfl ?_
          | refine AW_condAny rfl ?_ ?_
          | refine AW_condB rfl (fun _ => ?_) (fun _ => ?_)
          | refine AW_condN rfl (fun _ => ?_) (fun _ => ?_)
          | (refine ite_introN (fun _ => ?_) (fun _ => ?_) <;> try simp only [Kon, push_cast, reduceIte, Nat.reduceEqDiff, Nat.reduceAdd, Nat.reduceMul, Nat.reduceSub, Nat.reduceLT, Nat.reduceLeDiff, Int.reduceLT, Int.reduceLE, Int.reduceAdd, Int.reduceSub, Int.reduceNeg, Int.reduceToNat, Int.reduceEq, reduceCtorEq, *])
          | (refine ite_intro (fun _ => ?_) (fun _ => ?_) <;> try simp only [Kon, push_cast, reduceIte, Nat.reduceEqDiff, Nat.reduceAdd, Nat.reduceMul, Nat.reduceSub, Nat.reduceLT, Nat.reduceLeDiff, Int.reduceLT, Int.reduceLE, Int.reduceAdd, Int.reduceSub, Int.reduceNeg, Int.reduceToNat, Int.reduceEq, reduceCtorEq, *])
          | refine And.intro trivial ?_
          | refine And.intro (by omega) ?_
          | refine AW_block ?_
          | (refine AW_skip ?_; simp only [push_cast, reduceIte, Nat.reduceEqDiff, Nat.reduceAdd, Nat.reduceMul, Nat.reduceSub, Nat.reduceLT, Nat.reduceLeDiff, Int.reduceLT, Int.reduceLE, Int.reduceAdd, Int.reduceSub, Int.reduceNeg, Int.reduceToNat, Int.reduceEq, reduceCtorEq])
          | (refine AW_exit ?_; simp only [push_cast, reduceIte, Nat.reduceEqDiff, Nat.reduceAdd, Nat.reduceMul, Nat.reduceSub, Nat.reduceLT, Nat.reduceLeDiff, Int.reduceLT, Int.reduceLE, Int.reduceAdd, Int.reduceSub, Int.reduceNeg, Int.reduceToNat, Int.reduceEq, reduceCtorEq])
          | (refine AW_ret (Back_retR ?_); simp only [push_cast, reduceIte, Nat.reduceEqDiff, Nat.reduceAdd, Nat.reduceMul, Nat.reduceSub, Nat.reduceLT, Nat.reduceLeDiff, Int.reduceLT, Int.reduceLE, Int.reduceAdd, Int.reduceSub, Int.reduceNeg, Int.reduceToNat, Int.reduceEq, reduceCtorEq, *])
          | refine AW_cond rfl (fun _ => ?_) (fun _ => ?_)
          | refine And.intro ?_ ?_
        all_goals
          have hR : tryR pf pw pl pa fs lk ch now right = if pf ≠ 0 ∧ pf ≤ (if 100 < (putIn acc now).length then (putIn acc now).drop 1 else putIn acc now).length then (([], now, ch), 1) else ((if 100 < (putIn acc now).length then (putIn acc now).drop 1 else putIn acc now, -1, ch), 1) := by
            rw [‹right = false›, hD.out, hf2.out]
          rw [ep.out] at hR
          have hl : (a1 ++ now :: a2).length = a1.length + 1 + a2.length := by simp; omega
          have hpf : bf = false ↔ pf ≠ 0 := by subst hbf; simp
        all_goals first
          | rw [if_pos (show 100 < (a1 ++ now :: a2).length by omega)] at hR
          | rw [if_neg (show ¬ 100 < (a1 ++ now :: a2).length by omega)] at hR
        all_goals first
          | rw [if_pos ⟨hpf.1 ‹_›, by simp only [List.length_drop, hl]; omega⟩] at hR
          | rw [if_neg (fun hh => by first | exact ‹¬ bf = false› (hpf.2 hh.1) | (have h3 := hh.2; simp only [List.length_drop, hl] at h3; omega))] at hR
        all_goals first
          | (refine fin_sl (ks := []) rfl ?_; exact (congrArg (fun r => K (resT r) L) hR).mp h.out)
          | (refine fin_gsl (ks := a1 ++ now :: a2) (by simp [ints]) (by omega) ?_; exact (congrArg (fun r => K (resT r) L) hR).mp h.out)
          | (refine fin_slE (ks := (a1 ++ now :: a2).drop 1) (by rw [List.take_of_length_le (by simp [ints])]; simp [ints, List.map_drop]) (by simp only [List.length_drop, hl]; omega) ?_; exact (congrArg (fun r => K (resT r) L) hR).mp h.out))
end Go.Proofs.Ytafghkbedkjpmaa.Av
