/- The document's check of a filter of pieces. -/
import Derived.Test.YtffnflplocbpiaaGreatDoorQCodeJ
import Derived.Test.YtffnflplocbpiaaGreatDoorQS2
import Derived.Test.YtffnflplocbpiaaGreatDoorQR1
import Derived.Test.YtffnflplocbpiaaGreatDoorQR3
set_option linter.unusedSimpArgs false
set_option linter.unusedVariables false
namespace Go.Proofs.YtffnflplocbpiaaGreatDoor.Av
open Go
set_option maxHeartbeats 8000000
set_option maxRecDepth 100000

theorem rcheck4_k {l : List Pc} {cap : Option Nat} (hn : l.length ≤ 1000000) {L : List Blk} {K : AV → List Blk → Prop} (h : K (.tup [.int .i64 (if pcsOk l = true then 0 else 4), .int .i64 1]) L) :
    ACall Tryz.prog 55 [fltA l cap, .int .i64 1, .int .i64 0] L K := by
  have hty : typS [97] = true := by decide
  replace h := hid h
  refine ACall_fn c_ref10_check_eq (by simp [c_ref10_check]) ?_
  simp only [c_ref10_check, initT]
  refine wk ?_
  refine rtype_k (by simp) ?_
  rw [hty]
  refine sk ?_
  refine wk ?_
  obtain ⟨M, hM⟩ : ∃ M, L ++ [Blk.cells [.int .i64 4, .str [97], .str [], .sl (pcsA l) l.length cap, .sl [] 0 (some 0)]] = M := ⟨_, rfl⟩
  have hg : ∀ X : List Blk, (M ++ X)[L.length]? = some (.cells [.int .i64 4, .str [97], .str [], .sl (pcsA l) l.length cap, .sl [] 0 (some 0)]) := fun X => by
    rw [← hM, List.append_assoc, List.getElem?_append_right (Nat.le_refl _), Nat.sub_self]; rfl
  have hend : ∀ (X : List Blk), M ++ X = L ++ (Blk.cells [.int .i64 4, .str [97], .str [], .sl (pcsA l) l.length cap, .sl [] 0 (some 0)] :: X) := fun X => by
    rw [← hM, List.append_assoc]; rfl
  replace hend := hid hend
  rw [hM]
  have hMl : L.length ≤ M.length := by rw [← hM]; simp
  clear hM
  refine AW_loopT (fun n T' L' => ∃ (i : Nat) (b : Bool) (Z : List Blk), n = l.length - i ∧ i ≤ l.length ∧ Hid ((b && pcRun l.length i (l.drop i)) = pcsOk l) ∧ T' = [(86, .int .i64 (i : Int)), (85, .int .i64 l.length), (84, .sl (pcsA l) l.length cap), (11, .bool b), (2, .int .i64 1), (7, .int .i64 0), (6, .int .i64 0), (3, .ptr L.length 0)] ∧ L' = M ++ Z) (Cut_same (by repeat' first | exact SubT_nil | refine SubT_cons rfl rfl ?_ | refine SubT_consF rfl rfl ?_) (by simp)) ⟨0, _, [], rfl, Nat.zero_le _, hid (by rw [pcsOk, Bool.and_comm]; simp), rfl, by simp⟩ ?_
  rintro _ _ _ ⟨i, b, Z, rfl, hi, hI, rfl, rfl⟩
  by_cases hlt : i < l.length
  rotate_left
  · have hke : i = l.length := by omega
    subst hke
    have g1 : ¬ (l.length : Int) < (l.length : Int) := by omega
    have hz := hI.out
    rw [List.drop_length, pcRun, Bool.and_true] at hz
    have h' := h.out
    rw [← hz] at h'
    clear hz hI
    cases b with
    | true =>
      replace h' := hid h'
      refine wk ?_
      rw [hend.out]
      exact Fin_pure rfl h'.out
    | false =>
      replace h' := hid h'
      refine wk ?_
      rw [hend.out]
      exact Fin_pure rfl h'.out
  have g1 : (i : Int) < (l.length : Int) := by omega
  have g2 : IntKind.i64.wrap ((i : Int) + 1) = (i : Int) + 1 := wrap64_in (by omega) (by omega)
  have e3 := pcsA_at hlt
  have e4 : i * 2 + 2 ≤ (pcsA l).length := by rw [pcsA_len]; omega
  obtain ⟨⟨x, t⟩, ha⟩ : ∃ a, l.getD i (0, []) = a := ⟨_, rfl⟩
  have hdr : l.drop i = (x, t) :: l.drop (i + 1) := by rw [List.drop_eq_getElem_cons hlt, ← ha]; simp [hlt]
  rw [ha] at e3
  simp only [pcA] at e3
  have hI2 := hI.out
  rw [hdr, pcRun, ← Bool.and_assoc] at hI2
  clear hdr ha hI
  replace hI2 := hid hI2
  refine wk ?_
  refine Nxt_mk _ _ _ (by omega) (Cut_same (by repeat' first | exact SubT_nil | refine SubT_cons rfl rfl ?_ | refine SubT_consF rfl rfl ?_ | refine SubT_cons rfl (congrArg (AV.int _) (by omega)) ?_ | refine SubT_cons rfl (by first | (simp_all; done) | (simp_all; omega) | (simp_all; intros; omega)) ?_) (by simp)) ⟨i + 1, _, _, rfl, hlt, hid ?_, rfl, rfl⟩
  rw [← hI2.out]
  have hb : (!decide (t = []) && decide ((x = 1 ∨ x = 0 ∧ (i : Int) = 0) ∨ x = 2 ∧ (i : Int) + 1 = (l.length : Int))) = !pcBad l.length i (x, t) := by
    by_cases h0 : t = []
    · simp [pcBad, h0]
    · rw [decide_eq_false h0, pcBad, ← decide_not, Bool.not_false, Bool.true_and, decide_eq_decide]
      simp only [h0, false_or]
      omega
  rw [Bool.and_assoc b, hb]
theorem rCheck4_k {l : List Pc} {cap : Option Nat} (hn : l.length ≤ 1000000) {L : List Blk} {K : AV → List Blk → Prop} (h : K (.int .i64 (if pcsOk l = true then 0 else 4)) L) :
    ACall Tryz.prog 35 [fltA l cap] L K := by
  obtain ⟨r, hr⟩ : ∃ r : Int, (if pcsOk l = true then 0 else 4) = r := ⟨_, rfl⟩
  rw [hr] at h
  replace h := hid h
  refine ACall_fn c_ref10_Check_eq (by simp [c_ref10_Check]) ?_
  simp only [c_ref10_Check, initT]
  refine wk ?_
  refine rcheck4_k hn ?_
  rw [hr]
  refine sk ?_
  refine wk ?_
  exact Fin_pure rfl h.out
end Go.Proofs.YtffnflplocbpiaaGreatDoor.Av

namespace Go.Proofs.YtffnflplocbpiaaGreatDoor.Av
open Go
set_option maxHeartbeats 8000000
set_option maxRecDepth 100000

/-- From place a on: the piece of kind k and text t, and what is behind it as g says. -/
def fitG (g : List UInt8 → Bool) (k : Int) (t s : List UInt8) : Nat → Nat → Bool
  | 0, _ => false
  | f + 1, a => if a + t.length ≤ s.length then
      (if (s.drop a).take t.length ≠ t ∨ (k = 0 ∧ 0 < a) ∨ (k = 2 ∧ a + t.length < s.length) then fitG g k t s f (a + 1)
       else if g (s.drop (a + t.length)) = true then true else if k = 1 then false else fitG g k t s f (a + 1))
    else false
def fitsS : List Pc → List UInt8 → Bool
  | [], _ => true
  | p :: l, s => fitG (fitsS l) p.1 p.2 s (s.length + 1) 0
theorem pcsA_cons (k : Int) (t : List UInt8) (l : List Pc) : pcsA ((k, t) :: l) = .int .i64 k :: .str t :: pcsA l := rfl

theorem fits_k : ∀ (l : List Pc) {s : List UInt8} {cap : Option Nat} (hs : s.length ≤ 100000) (hn : l.length ≤ 1000000) (ht : ∀ p ∈ l, (p.2.length : Int) ≤ 140737488351232) {L : List Blk} {K : AV → List Blk → Prop} (h : K (.bool (fitsS l s)) L),
    ACall Tryz.prog 37 [.str s, .sl (pcsA l) l.length cap] L K
  | [], s, cap, hs, hn, ht, L, K, h => by
    replace h := hid h
    refine ACall_fn c_ref12_fits_eq (by simp [c_ref12_fits]) ?_
    simp only [c_ref12_fits, initT]
    refine wk ?_
    exact Fin_same h.out
  | (k, t) :: l, s, cap, hs, hn, ht, L, K, h => by
    have ih : ∀ {s' : List UInt8} {cap' : Option Nat} (hs' : s'.length ≤ 100000) {L : List Blk} {K : AV → List Blk → Prop} (h : K (.bool (fitsS l s')) L), ACall Tryz.prog 37 [.str s', .sl (pcsA l) l.length cap'] L K :=
      by intro s' cap' hs' L K h; exact fits_k l hs' (by simp at hn; omega) (fun p hp => ht p (by simp [hp])) h
    replace ih := @hid _ @ih
    have htl := ht (k, t) (by simp)
    simp only at htl
    obtain ⟨R, hR⟩ : ∃ R, fitsS ((k, t) :: l) s = R := ⟨_, rfl⟩
    rw [hR] at h
    rw [fitsS] at hR
    simp only at hR
    replace hR := hid hR
    replace h := hid h
    replace ht := hid ht
    rw [pcsA_cons]
    have hn2 : l.length + 1 ≤ 1000000 := by simpa using hn
    have hl1 : ((k, t) :: l).length = l.length + 1 := rfl
    rw [hl1]
    refine ACall_fn c_ref12_fits_eq (by simp [c_ref12_fits]) ?_
    simp only [c_ref12_fits, initT]
    refine wk ?_
    refine AW_loopT (fun n T' L' => ∃ (a : Nat), n = s.length + 1 - a ∧ a ≤ s.length + 1 ∧ Hid (fitG (fitsS l) k t s (s.length + 1 - a) a = R) ∧ T' = [(6, .int .i64 (a : Int)), (5, .str t), (4, .bool false), (0, .str s), (1, .sl (.int .i64 k :: .str t :: pcsA l) (l.length + 1) cap)] ∧ L = L') (Cut_same (by repeat' first | exact SubT_nil | refine SubT_cons rfl rfl ?_ | refine SubT_consF rfl rfl ?_) (by simp)) ⟨0, rfl, Nat.zero_le _, hR, rfl, rfl⟩ ?_
    rintro _ _ _ ⟨a, rfl, ha, hI, rfl, rfl⟩
    have w1 : IntKind.i64.wrap ((a : Int) + (t.length : Int)) = (a : Int) + (t.length : Int) := wrap64_in (by omega) (by omega)
    have w2 : IntKind.i64.wrap ((a : Int) + 1) = (a : Int) + 1 := wrap64_in (by omega) (by omega)
    by_cases h1 : (a : Int) + (t.length : Int) ≤ (s.length : Int)
    rotate_left
    · have hI2 := hI.out
      have hf : fitG (fitsS l) k t s (s.length + 1 - a) a = false := by
        cases s.length + 1 - a with
        | zero => rfl
        | succ f => rw [fitG, if_neg (by omega)]
      rw [hf] at hI2
      rw [← hI2] at h
      clear hI2 hI hf
      refine wk ?_
      exact Fin_same h.out
    have z1 : ((l.length : Int) + 1).toNat - 1 = l.length := by omega
    have z2 : (pcsA l).take (l.length * 2) = pcsA l := by rw [← pcsA_len, List.take_length]
    have z3 : ((a : Int) + (t.length : Int)).toNat = a + t.length := by omega
    have z4 : (s.drop (a + t.length)).take (s.length - (a + t.length)) = s.drop (a + t.length) := by
      rw [← List.length_drop, List.take_length]
    have z5 : a + t.length - a = t.length := by omega
    obtain ⟨f, hf⟩ : ∃ f, s.length + 1 - a = f + 1 := ⟨s.length - a, by omega⟩
    have hf2 : s.length + 1 - (a + 1) = f := by omega
    have hI2 := hI.out
    rw [hf, fitG, if_pos (by omega)] at hI2
    clear hI
    obtain ⟨b, hb⟩ : ∃ b, decide ((¬ (s.drop a).take t.length = t ∨ k = 0 ∧ (0 : Int) < (a : Int)) ∨ k = 2 ∧ (a : Int) + (t.length : Int) < (s.length : Int)) = b := ⟨_, rfl⟩
    have hbb : b = true ↔ ((s.drop a).take t.length ≠ t ∨ (k = 0 ∧ 0 < a) ∨ (k = 2 ∧ a + t.length < s.length)) := by
      rw [← hb, decide_eq_true_iff, or_assoc]
      simp only [Int.natCast_pos, ne_eq]
      rw [show ((a : Int) + (t.length : Int) < (s.length : Int)) ↔ (a + t.length < s.length) by omega]
    cases b with
    | true =>
      rw [if_pos (hbb.1 rfl)] at hI2
      clear hbb
      replace hI2 := hid hI2
      refine wk ?_
      exact Nxt_mk _ _ _ (by omega) (Cut_same (by repeat' first | exact SubT_nil | refine SubT_cons rfl rfl ?_ | refine SubT_consF rfl rfl ?_ | refine SubT_cons rfl (congrArg (AV.int _) (by omega)) ?_ | refine SubT_cons rfl (by first | (simp_all; done) | (simp_all; omega) | (simp_all; intros; omega)) ?_) (by simp)) ⟨a + 1, rfl, by omega, hid (by rw [hf2]; exact hI2.out), rfl, rfl⟩
    | false =>
      rw [if_neg (fun e => by have := hbb.2 e; cases this)] at hI2
      clear hbb
      have hsd : (s.drop (a + t.length)).length ≤ 100000 := by rw [List.length_drop]; omega
      have kk1 : Hid (∀ {L : List Blk} {K : AV → List Blk → Prop}, K (.bool (fitsS l (s.drop (a + t.length)))) L → ACall Tryz.prog 37 [.str (s.drop (a + t.length)), .sl (pcsA l) l.length (Option.map (fun x => x - 1) cap)] L K) := @hid _ (by intro L K h; exact ih.out hsd h)
      obtain ⟨r, hr⟩ : ∃ r, fitsS l (s.drop (a + t.length)) = r := ⟨_, rfl⟩
      rw [hr] at hI2
      cases r with
      | true =>
        rw [if_pos rfl] at hI2
        rw [← hI2] at h
        clear hI2
        refine wk ?_
        exact Fin_same h.out
      | false =>
        rw [if_neg (by simp)] at hI2
        by_cases hk : k = 1
        · rw [if_pos hk] at hI2
          rw [← hI2] at h
          have hb2 : (s.drop a).take t.length = t := Decidable.not_not.1 (fun e => of_decide_eq_false hb (.inl (.inl e)))
          have hb3 : (s.drop a).take t.length ≠ t ↔ False := by rw [hb2]; simp
          clear hb
          clear hI2
          refine wk ?_
          exact Fin_same h.out
        · rw [if_neg hk] at hI2
          replace hI2 := hid hI2
          refine wk ?_
          exact Nxt_mk _ _ _ (by omega) (Cut_same (by repeat' first | exact SubT_nil | refine SubT_cons rfl rfl ?_ | refine SubT_consF rfl rfl ?_ | refine SubT_cons rfl (congrArg (AV.int _) (by omega)) ?_ | refine SubT_cons rfl (by first | (simp_all; done) | (simp_all; omega) | (simp_all; intros; omega)) ?_) (by simp)) ⟨a + 1, rfl, by omega, hid (by rw [hf2]; exact hI2.out), rfl, rfl⟩
end Go.Proofs.YtffnflplocbpiaaGreatDoor.Av

namespace Go.Proofs.YtffnflplocbpiaaGreatDoor.Av
open Go
set_option maxHeartbeats 8000000
set_option maxRecDepth 100000

abbrev pcM (ex : Bool) (p : Pc) : Pc := (p.1, pcT ex p)
def rlikeO (syn : Int) (v : List UInt8) (l : List Pc) : Option Bool := match normO syn v with
  | none => none
  | some s => if (syn = 1 ∨ syn = 2 ∨ syn = 3) ∧ pcsOk l = true then some (fitsS (l.map (pcM (decide (syn = 2)))) s) else none
theorem pcsA_frz : ∀ l : List Pc, AV.frzL (pcsA l) = pcsA l
  | [] => rfl
  | (k, t) :: l => by rw [pcsA_cons]; simp only [AV.frzL, AV.frz, pcsA_frz l]
theorem pcT_len (ex : Bool) (p : Pc) : (pcT ex p).length = p.2.length := by
  unfold pcT; split <;> simp [foldS]
theorem pcsA_app (l m : List Pc) : pcsA (l ++ m) = pcsA l ++ pcsA m := by simp [pcsA]
theorem fitsG_k {l : List Pc} {n i : Nat} (hl : l.length = n) {s : List UInt8} (hs : s.length ≤ 100000) (hn : l.length ≤ 1000000) (ht : ∀ p ∈ l, (p.2.length : Int) ≤ 140737488351232) {L : List Blk} {K : AV → List Blk → Prop} (h : K (.bool (fitsS l s)) L) :
    ACall Tryz.prog 37 [.str s, .gsl (pcsA l) n i 2] L K := by
  subst hl
  exact ACall_frz (by simpa only [AV.frzL, AV.frz, pcsA_frz] using fits_k l (cap := none) hs hn ht h)

theorem rlike_k {syn : Int} {v : List UInt8} {l : List Pc} {cap : Option Nat} (hn : l.length ≤ 1000) (ht : ∀ p ∈ l, (p.2.length : Int) ≤ 140737488351232) {L : List Blk} {K : AV → List Blk → Prop} (h : K (likeA (rlikeO syn v l)) L) :
    ACall Tryz.prog 14 [.int .i64 syn, .str v, .sl (pcsA l) l.length cap] L K := by
  have hn6 : l.length ≤ 1000000 := by omega
  unfold rlikeO at h
  refine ACall_fn c_ref12_Like_eq (by simp [c_ref12_Like]) ?_
  simp only [c_ref12_Like, initT]
  refine wk ?_
  refine rnorm_syn_k ?_
  rcases hs : normO syn v with _ | s
  · rw [hs] at h
    simp only [likeA] at h
    replace h := hid h
    simp only [normA]
    refine sk ?_
    refine wk ?_
    exact Fin_same h.out
  rw [hs] at h
  simp only at h
  simp only [normA]
  by_cases h3 : syn = 1 ∨ syn = 2 ∨ syn = 3
  rotate_left
  · rw [if_neg (fun e => h3 e.1)] at h
    simp only [likeA] at h
    replace h := hid h
    clear hs
    by_cases k1 : syn < 1
    · clear h3
      refine sk ?_
      refine wk ?_
      exact Fin_same h.out
    · have k2 : 3 < syn := by omega
      clear h3
      refine sk ?_
      refine wk ?_
      exact Fin_same h.out
  have hsl := normO_short hs h3
  clear hs
  cases hok : pcsOk l with
  | false =>
    rw [hok, if_neg (by simp)] at h
    simp only [likeA] at h
    replace h := hid h
    have e4 : (if false = true then (0 : Int) else 4) = 4 := rfl
    rcases h3 with rfl | rfl | rfl
    · refine sk ?_
      have kk1 := @hid _ (fun L K => rCheck4_k (cap := cap) hn6 (L := L) (K := K))
      refine wk ?_
      exact Fin_same h.out
    · refine sk ?_
      have kk1 := @hid _ (fun L K => rCheck4_k (cap := cap) hn6 (L := L) (K := K))
      refine wk ?_
      exact Fin_same h.out
    · refine sk ?_
      have kk1 := @hid _ (fun L K => rCheck4_k (cap := cap) hn6 (L := L) (K := K))
      refine wk ?_
      exact Fin_same h.out
  | true =>
  rw [if_pos ⟨h3, hok⟩] at h
  obtain ⟨ex, hex⟩ : ∃ ex, decide (syn = 2) = ex := ⟨_, rfl⟩
  rw [hex] at h
  simp only [likeA] at h
  replace h := hid h
  replace ht := hid ht
  refine sk ?_
  iterate 1 first
    | refine AW_seq ?_
    | (first | refine AW_sreg (by kernel_rfl) ?_ | refine AW_sdreg (by kernel_rfl) ?_ | refine AW_dregM ?_ | refine Nx_in ?_ | refine NxI_in (fun _ => ?_) | refine AW_region ?_ | refine AW_dreg ?_)
      simp (config := { maxSteps := 2000000 }) only [Kon, push_cast, reduceIte, Nat.reduceEqDiff, Nat.reduceAdd, Nat.reduceMul, Nat.reduceSub, Nat.reduceLT, Nat.reduceLeDiff, Int.reduceLT, Int.reduceLE, Int.reduceAdd, Int.reduceSub, Int.reduceNeg, Int.reduceToNat, Int.reduceEq, reduceCtorEq, *]
    | (first | refine SelK_mk (by kernel_rfl) ?_ | refine AW_skip ?_ | refine AW_exit ?_ | refine AW_ret (Back_retR ?_))
      simp only [push_cast, reduceIte, Nat.reduceEqDiff, Nat.reduceAdd, Nat.reduceMul, Nat.reduceSub, Nat.reduceLT, Nat.reduceLeDiff, Int.reduceLT, Int.reduceLE, Int.reduceAdd, Int.reduceSub, Int.reduceNeg, Int.reduceToNat, Int.reduceEq, reduceCtorEq, *]
    | exact IsB_mk
    | first | apply GQ_mkT | apply GQ_mkTN | apply GQ_mkF | apply GQ_mkFN | apply GQ_mkB | apply GQ_mkBF
    | refine AW_block ?_
    | first | refine AW_condT rfl ?_ | refine AW_condF rfl ?_ | refine AW_condAny rfl ?_ ?_ | refine AW_condB rfl (fun _ => ?_) (fun _ => ?_) | refine AW_condN rfl (fun _ => ?_) (fun _ => ?_)
    | ((first | refine ite_introN (fun _ => ?_) (fun _ => ?_) | refine ite_intro (fun _ => ?_) (fun _ => ?_)) <;> try simp (config := { maxSteps := 2000000 }) only [Kon, push_cast, reduceIte, Nat.reduceEqDiff, Nat.reduceAdd, Nat.reduceMul, Nat.reduceSub, Nat.reduceLT, Nat.reduceLeDiff, Int.reduceLT, Int.reduceLE, Int.reduceAdd, Int.reduceSub, Int.reduceNeg, Int.reduceToNat, Int.reduceEq, reduceCtorEq, *])
    | refine And.intro trivial ?_
    | refine And.intro (by omega) ?_
    | refine AW_cond rfl (fun _ => ?_) (fun _ => ?_)
    | refine And.intro ?_ ?_
  refine AW_seqM (fun T2 L2 => T2 = [(8, .str s), (0, .int .i64 syn), (2, .sl (pcsA l) l.length cap)] ∧ L = L2) ?_ ?_
  · rcases h3 with rfl | rfl | rfl
    · have kk1 := @hid _ (fun L K => rCheck4_k (cap := cap) hn6 (L := L) (K := K))
      refine wk ?_
      exact Mid_mk _ _ (Cut_same (by repeat' first | exact SubT_nil | refine SubT_cons rfl rfl ?_ | refine SubT_consF rfl rfl ?_ | refine SubT_cons rfl (congrArg (AV.int _) (by omega)) ?_ | refine SubT_cons rfl (by first | (simp_all; done) | (simp_all; omega) | (simp_all; intros; omega)) ?_) (by simp)) ⟨rfl, rfl⟩
    · have kk1 := @hid _ (fun L K => rCheck4_k (cap := cap) hn6 (L := L) (K := K))
      refine wk ?_
      exact Mid_mk _ _ (Cut_same (by repeat' first | exact SubT_nil | refine SubT_cons rfl rfl ?_ | refine SubT_consF rfl rfl ?_ | refine SubT_cons rfl (congrArg (AV.int _) (by omega)) ?_ | refine SubT_cons rfl (by first | (simp_all; done) | (simp_all; omega) | (simp_all; intros; omega)) ?_) (by simp)) ⟨rfl, rfl⟩
    · have kk1 := @hid _ (fun L K => rCheck4_k (cap := cap) hn6 (L := L) (K := K))
      refine wk ?_
      exact Mid_mk _ _ (Cut_same (by repeat' first | exact SubT_nil | refine SubT_cons rfl rfl ?_ | refine SubT_consF rfl rfl ?_ | refine SubT_cons rfl (congrArg (AV.int _) (by omega)) ?_ | refine SubT_cons rfl (by first | (simp_all; done) | (simp_all; omega) | (simp_all; intros; omega)) ?_) (by simp)) ⟨rfl, rfl⟩
  rintro _ _ ⟨rfl, rfl⟩ -
  clear hok
  refine wk ?_
  refine AW_grow (l := []) (n := 0) 10 2 rfl (Nat.zero_mul 2).symm ?_
  refine AW_loopT (fun n T' L' => ∃ (i : Nat) (Y : List Blk), n = l.length - i ∧ i ≤ l.length ∧ T' = [(37, .int .i64 (i : Int)), (36, .int .i64 l.length), (35, .sl (pcsA l) l.length cap), (10, .gsl (pcsA ((l.take i).map (pcM ex))) i L.length 2), (8, .str s), (0, .int .i64 syn)] ∧ L' = L ++ (.spare i 2 :: Y)) (Cut_same (by repeat' first | exact SubT_nil | refine SubT_cons rfl rfl ?_ | refine SubT_consF rfl rfl ?_) (by simp)) ⟨0, [], rfl, Nat.zero_le _, rfl, rfl⟩ ?_
  rintro _ _ _ ⟨i, Y, rfl, hi, rfl, rfl⟩
  by_cases hlt : i < l.length
  rotate_left
  · have hke : i = l.length := by omega
    subst hke
    have g1 : ¬ (l.length : Int) < (l.length : Int) := by omega
    have hml : (l.map (pcM ex)).length = l.length := by simp
    have hm6 : (l.map (pcM ex)).length ≤ 1000000 := by omega
    have hmt : ∀ p ∈ l.map (pcM ex), (p.2.length : Int) ≤ 140737488351232 := fun p hp => by
      obtain ⟨q, hq, rfl⟩ := List.mem_map.1 hp
      simp only [pcM, pcT_len]
      exact ht.out q hq
    have hs5 : s.length ≤ 100000 := by omega
    rw [List.take_length]
    replace hmt := hid hmt
    refine wk ?_
    refine fitsG_k hml hs5 hm6 hmt.out ?_
    refine sk ?_
    refine wk ?_
    exact Fin_pure rfl h.out
  have g1 : (i : Int) < (l.length : Int) := by omega
  have g2 : IntKind.i64.wrap ((i : Int) + 1) = (i : Int) + 1 := wrap64_in (by omega) (by omega)
  have e3 := pcsA_at hlt
  have e4 : i * 2 + 2 ≤ (pcsA l).length := by rw [pcsA_len]; omega
  obtain ⟨⟨x, t⟩, ha⟩ : ∃ a, l.getD i (0, []) = a := ⟨_, rfl⟩
  have hmem : (x, t) ∈ l := by rw [← ha]; simp [hlt]
  have htl := ht.out (x, t) hmem
  simp only at htl
  have htk : l.take (i + 1) = l.take i ++ [(x, t)] := by rw [List.take_succ_eq_append_getElem hlt, ← ha]; simp [hlt]
  rw [ha] at e3
  simp only [pcA] at e3
  clear ha hmem
  have q3 : (i + 1) * 24 ≤ 140737488355328 := by omega
  have q4 : i + 1 ≤ 140737488355328 := by omega
  obtain ⟨acc, hacc⟩ : ∃ acc, pcsA ((l.take i).map (pcM ex)) = acc := ⟨_, rfl⟩
  have hnew : pcsA ((l.take (i + 1)).map (pcM ex)) = acc ++ [.int .i64 x, .str (pcT ex (x, t))] := by
    rw [htk, List.map_append, pcsA_app, hacc]; rfl
  rw [hacc]
  replace hnew := hid hnew
  clear hacc htk
  cases ex with
  | true =>
    have hs2 : syn = 2 := of_decide_eq_true hex
    subst hs2
    clear h3 hex
    refine wk ?_
    have e6 : acc ++ [.int .i64 x, .str t] = pcsA ((l.take (i + 1)).map (pcM true)) := hnew.out.symm
    rw [e6]
    exact Nxt_mk _ _ _ (by omega) (Cut_same (by repeat' first | exact SubT_nil | refine SubT_cons rfl rfl ?_ | refine SubT_consF rfl rfl ?_ | refine SubT_cons rfl (congrArg (AV.int _) (by omega)) ?_ | refine SubT_cons rfl (by first | (simp_all; done) | (simp_all; omega) | (simp_all; intros; omega)) ?_) (by simp)) ⟨i + 1, _, rfl, hlt, rfl, rfl⟩
  | false =>
    have hs2 : ¬ syn = 2 := of_decide_eq_false hex
    clear h3 hex
    have kk1 := @hid _ (fun L K => rfoldM_k htl (L := L) (K := K))
    refine wk ?_
    have e6 : acc ++ [.int .i64 x, .str (foldS t)] = pcsA ((l.take (i + 1)).map (pcM false)) := hnew.out.symm
    rw [e6]
    exact Nxt_mk _ _ _ (by omega) (Cut_same (by repeat' first | exact SubT_nil | refine SubT_cons rfl rfl ?_ | refine SubT_consF rfl rfl ?_ | refine SubT_cons rfl (congrArg (AV.int _) (by omega)) ?_ | refine SubT_cons rfl (by first | (simp_all; done) | (simp_all; omega) | (simp_all; intros; omega)) ?_) (by simp)) ⟨i + 1, _, rfl, hlt, rfl, rfl⟩
end Go.Proofs.YtffnflplocbpiaaGreatDoor.Av

namespace Go.Proofs.YtffnflplocbpiaaGreatDoor.Av
open Go
set_option maxHeartbeats 8000000
set_option maxRecDepth 100000

theorem occ_take {s T : List UInt8} {a : Nat} : Lib.occAt s T a = true ↔ (s.drop a).take T.length = T := by
  unfold Lib.occAt
  rw [List.isPrefixOf_iff_prefix, List.prefix_iff_eq_take]
  exact ⟨fun h => h.symm, fun h => h.symm⟩
theorem occ_room {s T : List UInt8} {a : Nat} (hT : T ≠ []) (h : Lib.occAt s T a = true) : a + T.length ≤ s.length := by
  have h1 := occ_take.1 h
  have h2 := congrArg List.length h1
  simp only [List.length_take, List.length_drop] at h2
  have : 0 < T.length := List.length_pos_iff.2 hT
  omega
theorem fitG_skip {g : List UInt8 → Bool} {k : Int} {T s : List UInt8} {f a : Nat} (h1 : a + T.length ≤ s.length) (h : (s.drop a).take T.length ≠ T ∨ (k = 0 ∧ 0 < a) ∨ (k = 2 ∧ a + T.length < s.length)) : fitG g k T s (f + 1) a = fitG g k T s f (a + 1) := by
  rw [fitG, if_pos h1, if_pos h]
theorem fitG_go {g : List UInt8 → Bool} {k : Int} {T s : List UInt8} {f a : Nat} (h1 : a + T.length ≤ s.length) (h : ¬ ((s.drop a).take T.length ≠ T ∨ (k = 0 ∧ 0 < a) ∨ (k = 2 ∧ a + T.length < s.length))) :
    fitG g k T s (f + 1) a = if g (s.drop (a + T.length)) = true then true else if k = 1 then false else fitG g k T s f (a + 1) := by
  rw [fitG, if_pos h1, if_neg h]
theorem fitG_end {g : List UInt8 → Bool} {k : Int} {T s : List UInt8} {f a : Nat} (h1 : ¬ a + T.length ≤ s.length) : fitG g k T s (f + 1) a = false := by
  rw [fitG, if_neg h1]
theorem fit1 {g : List UInt8 → Bool} {T s : List UInt8} (hT : T ≠ []) : ∀ (f a : Nat), s.length + 1 - a ≤ f → (∀ j, j < a → Lib.occAt s T j = false) →
    fitG g 1 T s f a = if Lib.index s T < 0 then false else g (s.drop ((Lib.index s T).toNat + T.length))
  | 0, a, hf, hn => by
    rw [Lib.index_none fun j hj => hn j (by omega), if_pos (by decide)]; rfl
  | f + 1, a, hf, hn => by
    by_cases h1 : a + T.length ≤ s.length
    · by_cases h2 : (s.drop a).take T.length = T
      · rw [fitG_go h1 (by rintro (e | e | e); exact e h2; exact absurd e.1 (by decide); exact absurd e.1 (by decide))]
        rw [Lib.index_first (i := a) (by omega) (occ_take.2 h2) hn, if_neg (show ¬ ((a : Int) < 0) by omega)]
        rw [show ((a : Int)).toNat = a from rfl]
        cases g (s.drop (a + T.length)) <;> simp
      · rw [fitG_skip h1 (.inl h2)]
        refine fit1 hT f (a + 1) (by omega) fun j hj => ?_
        rcases Nat.lt_or_ge j a with q | q
        · exact hn j q
        · have : j = a := by omega
          subst this
          cases ho : Lib.occAt s T j with
          | false => rfl
          | true => exact absurd (occ_take.1 ho) h2
    · rw [fitG_end h1, Lib.index_none fun j hj => ?_, if_pos (by decide)]
      rcases Nat.lt_or_ge j a with q | q
      · exact hn j q
      · cases ho : Lib.occAt s T j with
        | false => rfl
        | true => have := occ_room hT ho; omega
theorem fit0 {g : List UInt8 → Bool} {T s : List UInt8} : ∀ (f a : Nat), 0 < a → fitG g 0 T s f a = false
  | 0, _, _ => rfl
  | f + 1, a, ha => by
    rw [fitG]
    split
    · rw [if_pos (.inr (.inl ⟨rfl, ha⟩))]
      exact fit0 f (a + 1) (by omega)
    · rfl
theorem fit2 {g : List UInt8 → Bool} {T s : List UInt8} : ∀ (f a : Nat), s.length + 1 - a ≤ f →
    fitG g 2 T s f a = if a + T.length ≤ s.length ∧ Lib.occAt s T (s.length - T.length) = true then g [] else false
  | 0, a, hf => by rw [if_neg (by omega)]; rfl
  | f + 1, a, hf => by
    have ih := fit2 (g := g) (T := T) (s := s) f (a + 1) (by omega)
    by_cases h1 : a + T.length ≤ s.length
    · by_cases h2 : a + T.length < s.length
      · rw [fitG_skip h1 (.inr (.inr ⟨rfl, h2⟩)), ih]
        have : (a + 1 + T.length ≤ s.length ∧ Lib.occAt s T (s.length - T.length) = true) ↔ (a + T.length ≤ s.length ∧ Lib.occAt s T (s.length - T.length) = true) := ⟨fun e => ⟨h1, e.2⟩, fun e => ⟨by omega, e.2⟩⟩
        simp only [this]
      · have ea : s.length - T.length = a := by omega
        rw [ea] at ih ⊢
        have ih2 : fitG g 2 T s f (a + 1) = false := by rw [ih, if_neg (fun e => by omega)]
        by_cases h3 : (s.drop a).take T.length = T
        · rw [fitG_go h1 (by rintro (e | e | e); exact e h3; exact absurd e.1 (by decide); exact h2 e.2), ih2]
          rw [if_pos (show a + T.length ≤ s.length ∧ Lib.occAt s T a = true from ⟨h1, occ_take.2 h3⟩)]
          rw [show s.drop (a + T.length) = [] from List.drop_eq_nil_of_le (by omega)]
          cases g [] <;> simp
        · rw [fitG_skip h1 (.inl h3), ih2, if_neg]
          rintro ⟨_, e⟩
          exact h3 (occ_take.1 e)
    · rw [fitG_end h1, if_neg (fun e => h1 e.1)]
theorem suf_occ {s T : List UInt8} (h : T.length ≤ s.length) : Lib.hasSuffix s T = Lib.occAt s T (s.length - T.length) := by
  rw [Bool.eq_iff_iff]
  unfold Lib.hasSuffix Lib.occAt
  rw [List.isSuffixOf_iff_suffix, List.isPrefixOf_iff_prefix]
  constructor
  · intro e
    rw [List.suffix_iff_eq_drop] at e
    rw [← e]
    exact List.prefix_refl _
  · intro e
    have : T = s.drop (s.length - T.length) := e.eq_of_length (by rw [List.length_drop]; omega)
    rw [this]
    exact List.drop_suffix _ _
theorem fits_lik (ex : Bool) : ∀ (l : List Pc) (n i : Nat) (s : List UInt8), pcRun n i l = true → n = i + l.length → fitsS (l.map (pcM ex)) s = likS ex s l
  | [], _, _, _, _, _ => rfl
  | (k, t) :: l, n, i, s, h, hn => by
    rw [pcRun, Bool.and_eq_true] at h
    obtain ⟨hb, h⟩ := h
    simp only [pcBad, Bool.not_eq_true', decide_eq_false_iff_not, not_or] at hb
    obtain ⟨b1, b2, b3, b4, b5⟩ := hb
    have ih := fun s' => fits_lik ex l n (i + 1) s' h (by simp at hn; omega)
    rw [List.map_cons, fitsS, likS]
    simp only [pcM]
    obtain ⟨T, hTT⟩ : ∃ T, pcT ex (k, t) = T := ⟨_, rfl⟩
    have hT : T ≠ [] := by
      rw [← hTT]
      intro e
      have := pcT_len ex (k, t)
      rw [e] at this
      exact b1 (List.length_eq_zero_iff.1 this.symm)
    rw [hTT]
    have hTl : 0 < T.length := List.length_pos_iff.2 hT
    rcases (by omega : k = 0 ∨ k = 1 ∨ k = 2) with rfl | rfl | rfl
    · cases hp : Lib.hasPrefix s T with
      | false =>
        rw [if_pos (show ((0 : Int) = 0 ∧ false = false) ∨ ((0 : Int) = 2 ∧ Lib.hasSuffix s T = false) ∨ Lib.index s T < 0 from .inl ⟨rfl, rfl⟩)]
        have hno : ¬ (s.drop 0).take T.length = T := fun e => by
          have := occ_take.2 e
          unfold Lib.occAt at this
          rw [List.drop_zero] at this
          unfold Lib.hasPrefix at hp
          rw [hp] at this; cases this
        by_cases h1 : 0 + T.length ≤ s.length
        · rw [fitG_skip h1 (.inl hno)]; exact fit0 _ _ (by omega)
        · exact fitG_end h1
      | true =>
        have hoc : Lib.occAt s T 0 = true := by unfold Lib.occAt; rw [List.drop_zero]; exact hp
        have hroom := occ_room hT hoc
        rw [fitG_go hroom (by rintro (e | e | e); exact e (occ_take.1 hoc); omega; exact absurd e.1 (by decide))]
        have hix : Lib.index s T = 0 := Lib.index_first (i := 0) (Nat.zero_le _) hoc (fun j hj => by omega)
        rw [if_neg (show ¬ (((0 : Int) = 0 ∧ true = false) ∨ ((0 : Int) = 2 ∧ Lib.hasSuffix s T = false) ∨ Lib.index s T < 0) by rintro (e | e | e); exact absurd e.2 (by decide); exact absurd e.1 (by decide); omega)]
        rw [hix, show (0 : Int).toNat = 0 from rfl, ih]
        cases hg : likS ex (s.drop (0 + T.length)) l with
        | true => simp
        | false => rw [if_neg (by decide), if_neg (by decide), fit0 _ _ (by omega)]
    · rw [fit1 hT _ _ (by omega) (fun j hj => by omega)]
      by_cases hix : Lib.index s T < 0
      · rw [if_pos hix, if_pos (.inr (.inr hix))]
      · rw [if_neg hix, if_neg (by rintro (e | e | e); exact absurd e.1 (by decide); exact absurd e.1 (by decide); exact hix e), ih]
    · have hl : l = [] := by
        have : ¬ i + 1 < n := fun e => b5 ⟨rfl, e⟩
        simp at hn
        exact List.length_eq_zero_iff.1 (by omega)
      subst hl
      rw [fit2 _ _ (by omega)]
      simp only [List.map_nil, likS, fitsS]
      by_cases hle : T.length ≤ s.length
      · rw [suf_occ hle]
        cases ho : Lib.occAt s T (s.length - T.length) with
        | false => rw [if_neg (by simp), if_pos (.inr (.inl ⟨trivial, rfl⟩))]
        | true =>
          rw [if_pos ⟨by omega, rfl⟩, if_neg]
          rintro (e | e | e)
          · exact absurd e.1 (by decide)
          · exact absurd e.2 (by decide)
          · rcases Lib.index_spec s T with ⟨_, q⟩ | ⟨j, q, _⟩
            · rw [q _ (by omega)] at ho; cases ho
            · omega
      · rw [if_neg (fun e => hle (by omega)), if_pos]
        refine .inr (.inl ⟨trivial, ?_⟩)
        cases hs : Lib.hasSuffix s T with
        | false => rfl
        | true =>
          unfold Lib.hasSuffix at hs
          exact absurd (List.isSuffixOf_iff_suffix.1 hs).length_le hle
theorem rlike_like (syn : Int) (v : List UInt8) (l : List Pc) : rlikeO syn v l = likeO syn v l := by
  unfold rlikeO likeO
  rcases normO syn v with _ | s
  · rfl
  · simp only
    split
    · rename_i h
      have := h.2
      unfold pcsOk at this
      rw [Bool.and_eq_true] at this
      rw [fits_lik _ l l.length 0 s this.1 (by omega)]
    · rfl
end Go.Proofs.YtffnflplocbpiaaGreatDoor.Av

namespace Go.Proofs.YtffnflplocbpiaaGreatDoor.Av
open Go
set_option maxHeartbeats 8000000
set_option maxRecDepth 100000

theorem likeG_k {syn : Int} {v : List UInt8} {l : List Pc} {cap : Option Nat} (hn : l.length ≤ 1000) (ht : ∀ p ∈ l, (p.2.length : Int) ≤ 140737488351232) {L : List Blk} {K : AV → List Blk → Prop} (h : K (.tup [.bool ((likeO syn v l).getD false), .bool (likeO syn v l).isSome]) L) :
    ACall Tryz.prog 13 [.int .i64 syn, .str v, .sl (pcsA l) l.length cap] L K := by
  refine like_syn_k (by omega) ht ?_
  revert h
  rcases likeO syn v l with _ | c <;> exact fun h => h
theorem rlikeG_k {syn : Int} {v : List UInt8} {l : List Pc} {cap : Option Nat} (hn : l.length ≤ 1000) (ht : ∀ p ∈ l, (p.2.length : Int) ≤ 140737488351232) {L : List Blk} {K : AV → List Blk → Prop} (h : K (.tup [.bool ((likeO syn v l).getD false), .bool (likeO syn v l).isSome]) L) :
    ACall Tryz.prog 14 [.int .i64 syn, .str v, .sl (pcsA l) l.length cap] L K := by
  refine rlike_k hn ht ?_
  rw [rlike_like]
  revert h
  rcases likeO syn v l with _ | c <;> exact fun h => h
theorem likes_k {syn : Int} {v : List UInt8} {l : List Pc} {cap : Option Nat} (hl : (l.length : Int) ≤ 9223372036854775807) (ht : ∀ p ∈ l, (p.2.length : Int) ≤ 140737488351232) {L : List Blk} {K : AV → List Blk → Prop} (h : K (.bool true) L) :
    ACall Tryz.prog 5 [.int .i64 syn, .str v, .sl (pcsA l) l.length cap] L K := by
  replace h := hid h
  replace ht := hid ht
  refine ACall_fn c_law12_SyntaxLikes_eq (by simp [c_law12_SyntaxLikes]) ?_
  simp only [c_law12_SyntaxLikes, initT]
  by_cases la : (300 : Int) < (v.length : Int)
  · have kk1 := @hid _ @@awake12_k
    refine wk ?_
    exact Fin_same h.out
  by_cases lb : (30 : Int) < (l.length : Int)
  · have kk1 := @hid _ @@awake12_k
    refine wk ?_
    exact Fin_same h.out
  have hn : l.length ≤ 1000 := by omega
  obtain ⟨x, hx⟩ : ∃ x, (likeO syn v l).getD false = x := ⟨_, rfl⟩
  obtain ⟨b, hb⟩ : ∃ b, (likeO syn v l).isSome = b := ⟨_, rfl⟩
  refine wk ?_
  refine likeG_k hn ht.out ?_
  rw [hx, hb]
  refine sk ?_
  refine wk ?_
  refine rlikeG_k hn ht.out ?_
  rw [hx, hb]
  refine sk ?_
  cases x <;> cases b
  all_goals
    have kk1 := @hid _ @@awake12_k
    refine wk ?_
    exact Fin_same h.out
end Go.Proofs.YtffnflplocbpiaaGreatDoor.Av
