/- Pieces: whether they are such. -/
import Derived.Test.YtffnflplocbpiaaGreatDoorQCodeI
import Derived.Test.YtffnflplocbpiaaGreatDoorQD1
import Derived.Test.YtffnflplocbpiaaGreatDoorQP5
import Derived.Test.YtffnflplocbpiaaGreatDoorQS1
import Derived.Lib.IndexMore
set_option linter.unusedSimpArgs false
set_option linter.unusedVariables false
namespace Go.Proofs.YtffnflplocbpiaaGreatDoor.Av
open Go
set_option maxHeartbeats 8000000
set_option maxRecDepth 100000

/-- A piece: its kind and its text. -/
abbrev Pc := Int × List UInt8
def pcA (p : Pc) : List AV := [.int .i64 p.1, .str p.2]
def pcsA (l : List Pc) : List AV := l.flatMap pcA
theorem pcsA_len (l : List Pc) : (pcsA l).length = l.length * 2 := by
  induction l with
  | nil => rfl
  | cons a l ih => simp only [pcsA, List.flatMap_cons, List.length_append, pcA, List.length_cons, List.length_nil] at ih ⊢; omega
theorem pcsA_at : ∀ {l : List Pc} {k : Nat}, k < l.length → ((pcsA l).drop (k * 2)).take 2 = pcA (l.getD k (0, []))
  | a :: l, 0, _ => rfl
  | a :: l, k + 1, h => by
    have ih := @pcsA_at l k (by simpa using h)
    rw [show (k + 1) * 2 = k * 2 + 1 + 1 by omega]
    simpa [pcsA, pcA] using ih
/-- Is a piece at place i of n wrong? -/
def pcBad (n i : Nat) (p : Pc) : Bool := decide (p.2 = [] ∨ p.1 < 0 ∨ 2 < p.1 ∨ (p.1 = 0 ∧ 0 < i) ∨ (p.1 = 2 ∧ i + 1 < n))
def pcRun (n : Nat) : Nat → List Pc → Bool
  | _, [] => true
  | i, p :: t => !pcBad n i p && pcRun n (i + 1) t
def pcsOk (l : List Pc) : Bool := pcRun l.length 0 l && decide (0 < l.length)

theorem pieces_k {l : List Pc} {cap : Option Nat} (hn : l.length ≤ 1000000) {L : List Blk} {K : AV → List Blk → Prop} (h : K (.bool (pcsOk l)) L) : ACall Tryz.prog 72 [.sl (pcsA l) l.length cap] L K := by
  unfold pcsOk at h
  obtain ⟨R, hR⟩ : ∃ R, pcRun l.length 0 l = R := ⟨_, rfl⟩
  rw [hR] at h
  replace h := hid h
  have g0 : IntKind.i64.wrap ((l.length : Int) - 1) = (l.length : Int) - 1 := wrap64_in (by omega) (by omega)
  refine ACall_fn c_filt_pieces_eq (by simp [c_filt_pieces]) ?_
  simp only [c_filt_pieces, initT]
  refine wk ?_
  refine AW_loopT (fun n T' L' => ∃ (i : Nat) (X : List Blk), n = l.length - i ∧ i ≤ l.length ∧ Hid (pcRun l.length i (l.drop i) = R) ∧ T' = [(7, .int .i64 (i : Int)), (6, .int .i64 l.length), (5, .sl (pcsA l) l.length cap), (0, .sl (pcsA l) l.length cap)] ∧ L' = L ++ X) (Cut_same (by repeat' first | exact SubT_nil | refine SubT_cons rfl rfl ?_ | refine SubT_consF rfl rfl ?_) (by simp)) ⟨0, [], rfl, Nat.zero_le _, hid (by simpa using hR), rfl, by simp⟩ ?_
  rintro _ _ _ ⟨i, X, rfl, hi, hI, rfl, rfl⟩
  by_cases hlt : i < l.length
  · have g1 : (i : Int) < (l.length : Int) := by omega
    have g2 : IntKind.i64.wrap ((i : Int) + 1) = (i : Int) + 1 := wrap64_in (by omega) (by omega)
    have e3 := pcsA_at hlt
    have e4 : i * 2 + 2 ≤ (pcsA l).length := by rw [pcsA_len]; omega
    obtain ⟨⟨x, t⟩, ha⟩ : ∃ a, l.getD i (0, []) = a := ⟨_, rfl⟩
    have hdr : l.drop i = (x, t) :: l.drop (i + 1) := by rw [List.drop_eq_getElem_cons hlt, ← ha]; simp [hlt]
    rw [ha] at e3
    simp only [pcA] at e3
    have hI2 := hI.out
    rw [hdr, pcRun] at hI2
    have hbad : pcBad l.length i (x, t) = true → K (.bool false) L := fun e => by
      have h' := h.out
      rw [e] at hI2
      simp only [Bool.not_true, Bool.false_and] at hI2
      rw [← hI2] at h'
      simpa using h'
    have hgo : pcBad l.length i (x, t) = false → pcRun l.length (i + 1) (l.drop (i + 1)) = R := fun e => by
      rw [e] at hI2; simpa using hI2
    simp only [pcBad, decide_eq_true_eq, decide_eq_false_iff_not] at hbad hgo
    replace hbad := hid hbad
    replace hgo := hid hgo
    clear hdr ha hI2 hR
    repeat' first
      | refine AW_seq ?_
      | (first | refine AW_sreg (by kernel_rfl) ?_ | refine AW_sdreg (by kernel_rfl) ?_ | refine AW_dregM ?_ | refine Nx_in ?_ | refine NxI_in (fun _ => ?_) | refine AW_region ?_ | refine AW_dreg ?_)
        simp (config := { maxSteps := 2000000 }) only [Kon, push_cast, reduceIte, Nat.reduceEqDiff, Nat.reduceAdd, Nat.reduceMul, Nat.reduceSub, Nat.reduceLT, Nat.reduceLeDiff, Int.reduceLT, Int.reduceLE, Int.reduceAdd, Int.reduceSub, Int.reduceNeg, Int.reduceToNat, Int.reduceEq, reduceCtorEq, *]
      | (first | refine SelK_mk (by kernel_rfl) ?_ | refine AW_skip ?_ | refine AW_exit ?_ | refine AW_ret (Back_retR ?_))
        simp only [push_cast, reduceIte, Nat.reduceEqDiff, Nat.reduceAdd, Nat.reduceMul, Nat.reduceSub, Nat.reduceLT, Nat.reduceLeDiff, Int.reduceLT, Int.reduceLE, Int.reduceAdd, Int.reduceSub, Int.reduceNeg, Int.reduceToNat, Int.reduceEq, reduceCtorEq, *]
      | exact IsB_mk
      | first | apply GQ_mkT | apply GQ_mkTN | apply GQ_mkF | apply GQ_mkFN | apply GQ_mkB | apply GQ_mkBF
      | refine AW_block ?_
      | first | refine AW_condT rfl ?_ | refine AW_condF rfl ?_ | refine AW_condAny rfl ?_ ?_ | refine AW_condB rfl (fun _ => ?_) (fun _ => ?_) | refine AW_condN rfl (fun _ => ?_) (fun _ => ?_)
      | ((first | refine ite_introN (fun _ => ?_) (fun _ => ?_) | refine ite_intro (fun _ => ?_) (fun _ => ?_)) <;> try simp (config := { maxSteps := 2000000 }) only [Kon, push_cast, reduceIte, Nat.reduceEqDiff, Nat.reduceAdd, Nat.reduceMul, Nat.reduceSub, Nat.reduceLT, Nat.reduceLeDiff, Int.reduceLT, Int.reduceLE, Int.reduceAdd, Int.reduceSub, Int.reduceNeg, Int.reduceToNat, Int.reduceEq, reduceCtorEq, *])
      | refine And.intro trivial ?_
      | refine And.intro (by omega) ?_
      | refine AW_cond rfl (fun _ => ?_) (fun _ => ?_)
      | refine And.intro ?_ ?_
    · rename_i hx
      refine Fin_pure rfl (hbad.out ?_)
      rcases hx with (e | e) | e
      · exact .inl e
      · exact .inr (.inl e)
      · exact .inr (.inr (.inl e))
    · rename_i hx hy
      exact Fin_pure rfl (hbad.out (.inr (.inr (.inr (by omega)))))
    · rename_i hx hy
      refine Nxt_mk _ _ _ (by omega) (Cut_same (by repeat' first | exact SubT_nil | refine SubT_cons rfl rfl ?_ | refine SubT_consF rfl rfl ?_ | refine SubT_cons rfl (congrArg (AV.int _) (by omega)) ?_ | refine SubT_cons rfl (by first | (simp_all; done) | (simp_all; omega) | (simp_all; intros; omega)) ?_) (by simp)) ⟨i + 1, _, rfl, hlt, hid (hgo.out fun hb => ?_), rfl, rfl⟩
      rcases hb with e | e | e | e
      · exact hx (.inl (.inl e))
      · exact hx (.inl (.inr e))
      · exact hx (.inr e)
      · exact hy (by omega)
  · have hke : i = l.length := by omega
    subst hke
    have g1 : ¬ (l.length : Int) < (l.length : Int) := by omega
    have hz := hI.out
    rw [List.drop_length, pcRun] at hz
    have h' := h.out
    rw [← hz, Bool.true_and, show decide (0 < l.length) = decide ((0 : Int) < (l.length : Int)) by simp] at h'
    replace h' := hid h'
    clear hz hR
    refine wk ?_
    exact Fin_pure rfl h'.out

/-- A filter of pieces, as the program hands it on. -/
abbrev fltA (l : List Pc) (cap : Option Nat) : AV := .agg [.int .i64 4, .str [97], .str [], .sl (pcsA l) l.length cap, .sl [] 0 (some 0)]
theorem check4_k {l : List Pc} {cap : Option Nat} {p : Nat} (hn : l.length ≤ 1000000) {L : List Blk} (hL : L[p]? = some (.cells [.int .i64 0])) {K : AV → List Blk → Prop} (h : K (.int .i64 (if pcsOk l = true then 0 else 4)) (L.set p (.cells [.int .i64 1]))) :
    ACall Tryz.prog 51 [.ptr p 0, fltA l cap, .int .i64 1] L K := by
  have hp : p < L.length := (List.getElem?_eq_some_iff.1 hL).1
  have f1 : ∀ X : List Blk, (L ++ X)[p]? = some (.cells [.int .i64 0]) := fun X => by rw [List.getElem?_append_left hp]; exact hL
  have f2 : ∀ (X : List Blk) A, (L ++ X).set p A = L.set p A ++ X := fun X A => List.set_append_left _ _ hp
  have f3 : ∀ (X : List Blk) A, (L.set p A ++ X)[p]? = some A := fun X A => by rw [List.getElem?_append_left (by simpa using hp), List.getElem?_set, if_pos rfl, if_pos hp]
  have f4 : ∀ A : Blk, (L.set p A).length = L.length := fun A => by simp
  have f5 : ∀ (X : List Blk) A, (L.set p A ++ X)[L.length]? = X[0]? := fun X A => by
    rw [List.getElem?_append_right (by simp)]; simp
  have hty : typS [97] = true := by decide
  have fin : ∀ (X : List Blk) (r : Int), K (.int .i64 r) (L.set p (.cells [.int .i64 1])) → Fin L (.int .i64 r) (L.set p (.cells [.int .i64 1]) ++ X) K := fun X r hk =>
    Fin_keep (f4 _) (fun hh k hk' => by
      rcases List.mem_or_eq_of_mem_set hk' with e | e
      · exact hh k e
      · subst e; rfl) rfl hk
  replace fin := hid fin
  replace h := hid h
  refine ACall_fn c_filt_checker_check_eq (by simp [c_filt_checker_check]) ?_
  simp only [c_filt_checker_check, initT]
  refine wk ?_
  refine type_k ?_
  rw [hty]
  refine sk ?_
  cases hok : pcsOk l with
  | true =>
    have h' := h.out
    rw [hok, if_pos rfl] at h'
    replace h' := hid h'
    have kk1 := @hid _ (fun L K => pieces_k (cap := cap) hn (L := L) (K := K))
    refine wk ?_
    exact fin.out _ _ h'.out
  | false =>
    have h' := h.out
    rw [hok, if_neg (by simp)] at h'
    replace h' := hid h'
    have kk1 := @hid _ (fun L K => pieces_k (cap := cap) hn (L := L) (K := K))
    refine wk ?_
    exact fin.out _ _ h'.out
theorem Check4_k {l : List Pc} {cap : Option Nat} (hn : l.length ≤ 1000000) {L : List Blk} {K : AV → List Blk → Prop} (h : K (.int .i64 (if pcsOk l = true then 0 else 4)) L) :
    ACall Tryz.prog 30 [fltA l cap] L K := by
  obtain ⟨r, hr⟩ : ∃ r : Int, (if pcsOk l = true then 0 else 4) = r := ⟨_, rfl⟩
  rw [hr] at h
  replace h := hid h
  refine ACall_fn c_filt_Check_eq (by simp [c_filt_Check]) ?_
  simp only [c_filt_Check, initT]
  refine wk ?_
  refine check4_k hn (by rw [getAppK]; rfl) ?_
  rw [hr]
  refine sk ?_
  refine wk ?_
  exact Fin_pure rfl h.out
end Go.Proofs.YtffnflplocbpiaaGreatDoor.Av

namespace Go.Proofs.YtffnflplocbpiaaGreatDoor.Av
open Go
set_option maxHeartbeats 8000000
set_option maxRecDepth 100000

def pcT (ex : Bool) (p : Pc) : List UInt8 := if ex = true then p.2 else foldS p.2
/-- The pieces stand in a text, each as far ahead as it can. -/
def likS (ex : Bool) : List UInt8 → List Pc → Bool
  | _, [] => true
  | s, p :: t => if (p.1 = 0 ∧ Lib.hasPrefix s (pcT ex p) = false) ∨ (p.1 = 2 ∧ Lib.hasSuffix s (pcT ex p) = false) ∨ Lib.index s (pcT ex p) < 0 then false
    else likS ex (s.drop ((Lib.index s (pcT ex p)).toNat + (pcT ex p).length)) t
def likeO (syn : Int) (v : List UInt8) (l : List Pc) : Option Bool := match normO syn v with
  | none => none
  | some s => if (syn = 1 ∨ syn = 2 ∨ syn = 3) ∧ pcsOk l = true then some (likS (decide (syn = 2)) s l) else none
def likeA : Option Bool → AV
  | none => .tup [.bool false, .bool false]
  | some b => .tup [.bool b, .bool true]
theorem normO_short {syn : Int} {v s : List UInt8} (h : normO syn v = some s) (h3 : syn = 1 ∨ syn = 2 ∨ syn = 3) : s.length ≤ 4096 := by
  have hv := normO_len h
  have hp := prepS_len v
  unfold normO at h
  split at h
  · cases h
  · unfold normF at h
    rcases h3 with rfl | rfl | rfl
    · rw [if_pos rfl] at h
      split at h
      · cases h
      · split at h
        · cases h; omega
        · cases h
    · rw [if_neg (by decide), if_pos rfl] at h
      split at h
      · cases h
      · split at h
        · cases h; omega
        · cases h
    · rw [if_neg (by decide), if_neg (by decide), if_pos rfl] at h
      split at h
      · cases h; omega
      · cases h

theorem like_syn_k {syn : Int} {v : List UInt8} {l : List Pc} {cap : Option Nat} (hn : l.length ≤ 1000000) (ht : ∀ p ∈ l, (p.2.length : Int) ≤ 140737488351232) {L : List Blk} {K : AV → List Blk → Prop} (h : K (likeA (likeO syn v l)) L) :
    ACall Tryz.prog 13 [.int .i64 syn, .str v, .sl (pcsA l) l.length cap] L K := by
  unfold likeO at h
  refine ACall_fn c_syntax_Like_eq (by simp [c_syntax_Like]) ?_
  simp only [c_syntax_Like, initT]
  refine wk ?_
  refine norm_syn_k ?_
  rcases hs : normO syn v with _ | s
  · rw [hs] at h
    simp only [likeA] at h
    replace h := hid h
    simp only [normA]
    refine sk ?_
    refine wk ?_
    exact Fin_same h.out
  rw [hs] at h
  simp only at h
  simp only [normA]
  by_cases h3 : syn = 1 ∨ syn = 2 ∨ syn = 3
  rotate_left
  · rw [if_neg (fun e => h3 e.1)] at h
    simp only [likeA] at h
    replace h := hid h
    have k1 : ¬ syn = 1 := fun e => h3 (.inl e)
    have k2 : ¬ syn = 2 := fun e => h3 (.inr (.inl e))
    have k3 : ¬ syn = 3 := fun e => h3 (.inr (.inr e))
    clear hs h3
    refine sk ?_
    refine wk ?_
    exact Fin_same h.out
  have hsl := normO_short hs h3
  clear hs
  have hb3 : (!decide (syn = 1) && !decide (syn = 2) && !decide (syn = 3)) = false := by
    rcases h3 with rfl | rfl | rfl <;> rfl
  cases hok : pcsOk l with
  | false =>
    rw [hok, if_neg (by simp)] at h
    simp only [likeA] at h
    replace h := hid h
    have e4 : (if false = true then (0 : Int) else 4) = 4 := rfl
    rcases h3 with rfl | rfl | rfl
    · refine sk ?_
      have kk1 := @hid _ (fun L K => Check4_k (cap := cap) hn (L := L) (K := K))
      refine wk ?_
      exact Fin_same h.out
    · refine sk ?_
      have kk1 := @hid _ (fun L K => Check4_k (cap := cap) hn (L := L) (K := K))
      refine wk ?_
      exact Fin_same h.out
    · refine sk ?_
      have kk1 := @hid _ (fun L K => Check4_k (cap := cap) hn (L := L) (K := K))
      refine wk ?_
      exact Fin_same h.out
  | true =>
  rw [if_pos ⟨h3, hok⟩] at h
  obtain ⟨R, hR⟩ : ∃ R, likS (decide (syn = 2)) s l = R := ⟨_, rfl⟩
  rw [hR] at h
  simp only [likeA] at h
  replace h := hid h
  obtain ⟨ex, hex⟩ : ∃ ex, decide (syn = 2) = ex := ⟨_, rfl⟩
  rw [hex] at hR
  replace hR := hid hR
  replace ht := hid ht
  refine sk ?_
  iterate 1 first
    | refine AW_seq ?_
    | (first | refine AW_sreg (by kernel_rfl) ?_ | refine AW_sdreg (by kernel_rfl) ?_ | refine AW_dregM ?_ | refine Nx_in ?_ | refine NxI_in (fun _ => ?_) | refine AW_region ?_ | refine AW_dreg ?_)
      simp (config := { maxSteps := 2000000 }) only [Kon, push_cast, reduceIte, Nat.reduceEqDiff, Nat.reduceAdd, Nat.reduceMul, Nat.reduceSub, Nat.reduceLT, Nat.reduceLeDiff, Int.reduceLT, Int.reduceLE, Int.reduceAdd, Int.reduceSub, Int.reduceNeg, Int.reduceToNat, Int.reduceEq, reduceCtorEq, *]
    | (first | refine SelK_mk (by kernel_rfl) ?_ | refine AW_skip ?_ | refine AW_exit ?_ | refine AW_ret (Back_retR ?_))
      simp only [push_cast, reduceIte, Nat.reduceEqDiff, Nat.reduceAdd, Nat.reduceMul, Nat.reduceSub, Nat.reduceLT, Nat.reduceLeDiff, Int.reduceLT, Int.reduceLE, Int.reduceAdd, Int.reduceSub, Int.reduceNeg, Int.reduceToNat, Int.reduceEq, reduceCtorEq, *]
    | exact IsB_mk
    | first | apply GQ_mkT | apply GQ_mkTN | apply GQ_mkF | apply GQ_mkFN | apply GQ_mkB | apply GQ_mkBF
    | refine AW_block ?_
    | first | refine AW_condT rfl ?_ | refine AW_condF rfl ?_ | refine AW_condAny rfl ?_ ?_ | refine AW_condB rfl (fun _ => ?_) (fun _ => ?_) | refine AW_condN rfl (fun _ => ?_) (fun _ => ?_)
    | ((first | refine ite_introN (fun _ => ?_) (fun _ => ?_) | refine ite_intro (fun _ => ?_) (fun _ => ?_)) <;> try simp (config := { maxSteps := 2000000 }) only [Kon, push_cast, reduceIte, Nat.reduceEqDiff, Nat.reduceAdd, Nat.reduceMul, Nat.reduceSub, Nat.reduceLT, Nat.reduceLeDiff, Int.reduceLT, Int.reduceLE, Int.reduceAdd, Int.reduceSub, Int.reduceNeg, Int.reduceToNat, Int.reduceEq, reduceCtorEq, *])
    | refine And.intro trivial ?_
    | refine And.intro (by omega) ?_
    | refine AW_cond rfl (fun _ => ?_) (fun _ => ?_)
    | refine And.intro ?_ ?_
  refine AW_seqM (fun T2 L2 => T2 = [(8, .str s), (0, .int .i64 syn), (2, .sl (pcsA l) l.length cap)] ∧ L = L2) ?_ ?_
  · rcases h3 with rfl | rfl | rfl
    · have kk1 := @hid _ (fun L K => Check4_k (cap := cap) hn (L := L) (K := K))
      refine wk ?_
      exact Mid_mk _ _ (Cut_same (by repeat' first | exact SubT_nil | refine SubT_cons rfl rfl ?_ | refine SubT_consF rfl rfl ?_ | refine SubT_cons rfl (congrArg (AV.int _) (by omega)) ?_ | refine SubT_cons rfl (by first | (simp_all; done) | (simp_all; omega) | (simp_all; intros; omega)) ?_) (by simp)) ⟨rfl, rfl⟩
    · have kk1 := @hid _ (fun L K => Check4_k (cap := cap) hn (L := L) (K := K))
      refine wk ?_
      exact Mid_mk _ _ (Cut_same (by repeat' first | exact SubT_nil | refine SubT_cons rfl rfl ?_ | refine SubT_consF rfl rfl ?_ | refine SubT_cons rfl (congrArg (AV.int _) (by omega)) ?_ | refine SubT_cons rfl (by first | (simp_all; done) | (simp_all; omega) | (simp_all; intros; omega)) ?_) (by simp)) ⟨rfl, rfl⟩
    · have kk1 := @hid _ (fun L K => Check4_k (cap := cap) hn (L := L) (K := K))
      refine wk ?_
      exact Mid_mk _ _ (Cut_same (by repeat' first | exact SubT_nil | refine SubT_cons rfl rfl ?_ | refine SubT_consF rfl rfl ?_ | refine SubT_cons rfl (congrArg (AV.int _) (by omega)) ?_ | refine SubT_cons rfl (by first | (simp_all; done) | (simp_all; omega) | (simp_all; intros; omega)) ?_) (by simp)) ⟨rfl, rfl⟩
  rintro _ _ ⟨rfl, rfl⟩ -
  clear hb3 hok
  refine wk ?_
  refine AW_loopT (fun n T' L' => ∃ (i : Nat) (u : List UInt8) (Z : List Blk), n = l.length - i ∧ i ≤ l.length ∧ u.length ≤ 4096 ∧ Hid (likS ex u (l.drop i) = R) ∧ T' = [(42, .int .i64 (i : Int)), (41, .int .i64 l.length), (40, .sl (pcsA l) l.length cap), (8, .str u), (0, .int .i64 syn)] ∧ L' = L ++ Z) (Cut_same (by repeat' first | exact SubT_nil | refine SubT_cons rfl rfl ?_ | refine SubT_consF rfl rfl ?_) (by simp)) ⟨0, s, [], rfl, Nat.zero_le _, hsl, hid (by simpa using hR.out), rfl, by simp⟩ ?_
  clear hsl hR
  rintro _ _ _ ⟨i, u, X, rfl, hi, hul, hI, rfl, rfl⟩
  by_cases hlt : i < l.length
  rotate_left
  · have hke : i = l.length := by omega
    subst hke
    have g1 : ¬ (l.length : Int) < (l.length : Int) := by omega
    have h' := h.out
    rw [← hI.out, List.drop_length, likS] at h'
    replace h' := hid h'
    refine wk ?_
    exact Fin_pure rfl h'.out
  have g1 : (i : Int) < (l.length : Int) := by omega
  have g2 : IntKind.i64.wrap ((i : Int) + 1) = (i : Int) + 1 := wrap64_in (by omega) (by omega)
  have e3 := pcsA_at hlt
  have e4 : i * 2 + 2 ≤ (pcsA l).length := by rw [pcsA_len]; omega
  obtain ⟨⟨x, t⟩, ha⟩ : ∃ a, l.getD i (0, []) = a := ⟨_, rfl⟩
  have hdr : l.drop i = (x, t) :: l.drop (i + 1) := by rw [List.drop_eq_getElem_cons hlt, ← ha]; simp [hlt]
  have htl := ht.out (x, t) (by rw [← ha]; simp [hlt])
  simp only at htl
  rw [ha] at e3
  simp only [pcA] at e3
  have hI2 := hI.out
  rw [hdr, likS] at hI2
  simp only at hI2
  obtain ⟨w, hw⟩ : ∃ w, pcT ex (x, t) = w := ⟨_, rfl⟩
  rw [hw] at hI2
  clear hdr ha hI
  replace hI2 := hid hI2
  iterate 15 first
    | refine AW_seq ?_
    | (first | refine AW_sreg (by kernel_rfl) ?_ | refine AW_sdreg (by kernel_rfl) ?_ | refine AW_dregM ?_ | refine Nx_in ?_ | refine NxI_in (fun _ => ?_) | refine AW_region ?_ | refine AW_dreg ?_)
      simp (config := { maxSteps := 2000000 }) only [Kon, push_cast, reduceIte, Nat.reduceEqDiff, Nat.reduceAdd, Nat.reduceMul, Nat.reduceSub, Nat.reduceLT, Nat.reduceLeDiff, Int.reduceLT, Int.reduceLE, Int.reduceAdd, Int.reduceSub, Int.reduceNeg, Int.reduceToNat, Int.reduceEq, reduceCtorEq, *]
    | (first | refine SelK_mk (by kernel_rfl) ?_ | refine AW_skip ?_ | refine AW_exit ?_ | refine AW_ret (Back_retR ?_))
      simp only [push_cast, reduceIte, Nat.reduceEqDiff, Nat.reduceAdd, Nat.reduceMul, Nat.reduceSub, Nat.reduceLT, Nat.reduceLeDiff, Int.reduceLT, Int.reduceLE, Int.reduceAdd, Int.reduceSub, Int.reduceNeg, Int.reduceToNat, Int.reduceEq, reduceCtorEq, *]
    | exact IsB_mk
    | first | apply GQ_mkT | apply GQ_mkTN | apply GQ_mkF | apply GQ_mkFN | apply GQ_mkB | apply GQ_mkBF
    | refine AW_block ?_
    | first | refine AW_condT rfl ?_ | refine AW_condF rfl ?_ | refine AW_condAny rfl ?_ ?_ | refine AW_condB rfl (fun _ => ?_) (fun _ => ?_) | refine AW_condN rfl (fun _ => ?_) (fun _ => ?_)
    | ((first | refine ite_introN (fun _ => ?_) (fun _ => ?_) | refine ite_intro (fun _ => ?_) (fun _ => ?_)) <;> try simp (config := { maxSteps := 2000000 }) only [Kon, push_cast, reduceIte, Nat.reduceEqDiff, Nat.reduceAdd, Nat.reduceMul, Nat.reduceSub, Nat.reduceLT, Nat.reduceLeDiff, Int.reduceLT, Int.reduceLE, Int.reduceAdd, Int.reduceSub, Int.reduceNeg, Int.reduceToNat, Int.reduceEq, reduceCtorEq, *])
    | refine And.intro trivial ?_
    | refine And.intro (by omega) ?_
    | refine AW_cond rfl (fun _ => ?_) (fun _ => ?_)
    | refine And.intro ?_ ?_
  refine AW_seqM (fun T2 L2 => T2 = [(12, .str w), (11, .ptr (L.length + X.length) 0), (42, .int .i64 (i : Int)), (41, .int .i64 l.length), (40, .sl (pcsA l) l.length cap), (8, .str u), (0, .int .i64 syn)] ∧ L2 = L ++ (X ++ [.cells [.int .i64 x, .str t]])) ?_ ?_
  · unfold pcT at hw
    cases ex with
    | true =>
      rw [if_pos rfl] at hw
      have k2 : syn = 2 := by simpa using hex
      simp only at hw
      subst hw
      subst k2
      refine wk ?_
      exact Mid_mk _ _ (Cut_same (by repeat' first | exact SubT_nil | refine SubT_cons rfl rfl ?_ | refine SubT_consF rfl rfl ?_ | refine SubT_cons rfl (congrArg (AV.int _) (by omega)) ?_ | refine SubT_cons rfl (by first | (simp_all; done) | (simp_all; omega) | (simp_all; intros; omega)) ?_) (by simp)) ⟨rfl, rfl⟩
    | false =>
      rw [if_neg (by simp)] at hw
      have k2 : ¬ syn = 2 := by simpa using hex
      simp only at hw
      clear hex
      have kk1 := @hid _ (fun L K => foldM_k htl (L := L) (K := K))
      refine wk ?_
      exact Mid_mk _ _ (Cut_same (by repeat' first | exact SubT_nil | refine SubT_cons rfl rfl ?_ | refine SubT_consF rfl rfl ?_ | refine SubT_cons rfl (congrArg (AV.int _) (by omega)) ?_ | refine SubT_cons rfl (by first | (simp_all; done) | (simp_all; omega) | (simp_all; intros; omega)) ?_) (by simp)) ⟨rfl, rfl⟩
  rintro _ _ ⟨rfl, rfl⟩ -
  clear hex hw
  obtain ⟨pf, hpf⟩ : ∃ b, Lib.hasPrefix u w = b := ⟨_, rfl⟩
  obtain ⟨sf, hsf⟩ : ∃ b, Lib.hasSuffix u w = b := ⟨_, rfl⟩
  obtain ⟨z, hz⟩ : ∃ z, Lib.index u w = z := ⟨_, rfl⟩
  have hI3 := hI2.out
  rw [hpf, hsf, hz] at hI3
  have hbad : ((x = 0 ∧ pf = false) ∨ (x = 2 ∧ sf = false) ∨ z < 0) → K (.tup [.bool false, .bool true]) L := fun e => by
    rw [if_pos e] at hI3
    have h' := h.out
    rwa [← hI3] at h'
  have hgo : ¬ ((x = 0 ∧ pf = false) ∨ (x = 2 ∧ sf = false) ∨ z < 0) → likS ex (u.drop (z.toNat + w.length)) (l.drop (i + 1)) = R := fun e => by
    rw [if_neg e] at hI3; exact hI3
  replace hbad := hid hbad
  replace hgo := hid hgo
  clear hI2 hI3
  have hul2 : u.length ≤ 1000000 := by omega
  by_cases hneg : z < 0
  · repeat' first
      | refine AW_seq ?_
      | (first | refine AW_sreg (by kernel_rfl) ?_ | refine AW_sdreg (by kernel_rfl) ?_ | refine AW_dregM ?_ | refine Nx_in ?_ | refine NxI_in (fun _ => ?_) | refine AW_region ?_ | refine AW_dreg ?_ | refine sprefix_k ?_ | refine ssuffix_k hul2 ?_ | refine sindex_k hul2 ?_ | refine CalK2_mk (sprefix_k ⟨rfl, rfl⟩) (sprefix_k ⟨rfl, rfl⟩) ?_ | refine CalK2_mk (ssuffix_k hul2 ⟨rfl, rfl⟩) (ssuffix_k hul2 ⟨rfl, rfl⟩) ?_ | refine CalK2_mk (sindex_k hul2 ⟨rfl, rfl⟩) (sindex_k hul2 ⟨rfl, rfl⟩) ?_ | refine CalK_mk (sprefix_k ⟨rfl, rfl⟩) ?_ | refine CalK_mk (ssuffix_k hul2 ⟨rfl, rfl⟩) ?_ | refine CalK_mk (sindex_k hul2 ⟨rfl, rfl⟩) ?_)
        simp (config := { maxSteps := 2000000 }) only [Kon, push_cast, reduceIte, Nat.reduceEqDiff, Nat.reduceAdd, Nat.reduceMul, Nat.reduceSub, Nat.reduceLT, Nat.reduceLeDiff, Int.reduceLT, Int.reduceLE, Int.reduceAdd, Int.reduceSub, Int.reduceNeg, Int.reduceToNat, Int.reduceEq, reduceCtorEq, *]
      | (first | refine SelK_mk (by kernel_rfl) ?_ | refine AW_skip ?_ | refine AW_exit ?_ | refine AW_ret (Back_retR ?_))
        simp only [push_cast, reduceIte, Nat.reduceEqDiff, Nat.reduceAdd, Nat.reduceMul, Nat.reduceSub, Nat.reduceLT, Nat.reduceLeDiff, Int.reduceLT, Int.reduceLE, Int.reduceAdd, Int.reduceSub, Int.reduceNeg, Int.reduceToNat, Int.reduceEq, reduceCtorEq, *]
      | exact IsB_mk
      | first | apply GQ_mkT | apply GQ_mkTN | apply GQ_mkF | apply GQ_mkFN | apply GQ_mkB | apply GQ_mkBF
      | refine AW_block ?_
      | first | refine AW_condT rfl ?_ | refine AW_condF rfl ?_ | refine AW_condAny rfl ?_ ?_ | refine AW_condB rfl (fun _ => ?_) (fun _ => ?_) | refine AW_condN rfl (fun _ => ?_) (fun _ => ?_)
      | ((first | refine ite_introN (fun _ => ?_) (fun _ => ?_) | refine ite_intro (fun _ => ?_) (fun _ => ?_)) <;> try simp (config := { maxSteps := 2000000 }) only [Kon, push_cast, reduceIte, Nat.reduceEqDiff, Nat.reduceAdd, Nat.reduceMul, Nat.reduceSub, Nat.reduceLT, Nat.reduceLeDiff, Int.reduceLT, Int.reduceLE, Int.reduceAdd, Int.reduceSub, Int.reduceNeg, Int.reduceToNat, Int.reduceEq, reduceCtorEq, *])
      | refine And.intro trivial ?_
      | refine And.intro (by omega) ?_
      | refine AW_cond rfl (fun _ => ?_) (fun _ => ?_)
      | refine And.intro ?_ ?_
    · rename_i hx
      exact Fin_pure rfl (hbad.out (.inl (by simpa using hx)))
    · rename_i hx hy
      exact Fin_pure rfl (hbad.out (.inr (.inl (by simpa using hy))))
    · exact Fin_pure rfl (hbad.out (.inr (.inr hneg)))
  · have hroom := Lib.index_room u w (by rw [hz]; omega)
    rw [hz] at hroom
    obtain ⟨a, rfl⟩ : ∃ a : Nat, z = (a : Int) := ⟨z.toNat, by omega⟩
    have m1 : IntKind.i64.wrap ((a : Int) + (w.length : Int)) = (a : Int) + (w.length : Int) := wrap64_in (by omega) (by omega)
    have m2 : ((a : Int) + (w.length : Int)).toNat = a + w.length := by omega
    have m3 : (u.drop (a + w.length)).take (u.length - (a + w.length)) = u.drop (a + w.length) := List.take_of_length_le (by simp)
    have m4 : (0 : Int) ≤ (a : Int) + (w.length : Int) := by omega
    repeat' first
      | refine AW_seq ?_
      | (first | refine AW_sreg (by kernel_rfl) ?_ | refine AW_sdreg (by kernel_rfl) ?_ | refine AW_dregM ?_ | refine Nx_in ?_ | refine NxI_in (fun _ => ?_) | refine AW_region ?_ | refine AW_dreg ?_ | refine sprefix_k ?_ | refine ssuffix_k hul2 ?_ | refine sindex_k hul2 ?_ | refine CalK2_mk (sprefix_k ⟨rfl, rfl⟩) (sprefix_k ⟨rfl, rfl⟩) ?_ | refine CalK2_mk (ssuffix_k hul2 ⟨rfl, rfl⟩) (ssuffix_k hul2 ⟨rfl, rfl⟩) ?_ | refine CalK2_mk (sindex_k hul2 ⟨rfl, rfl⟩) (sindex_k hul2 ⟨rfl, rfl⟩) ?_ | refine CalK_mk (sprefix_k ⟨rfl, rfl⟩) ?_ | refine CalK_mk (ssuffix_k hul2 ⟨rfl, rfl⟩) ?_ | refine CalK_mk (sindex_k hul2 ⟨rfl, rfl⟩) ?_)
        simp (config := { maxSteps := 2000000 }) only [Kon, push_cast, reduceIte, Nat.reduceEqDiff, Nat.reduceAdd, Nat.reduceMul, Nat.reduceSub, Nat.reduceLT, Nat.reduceLeDiff, Int.reduceLT, Int.reduceLE, Int.reduceAdd, Int.reduceSub, Int.reduceNeg, Int.reduceToNat, Int.reduceEq, reduceCtorEq, *]
      | (first | refine SelK_mk (by kernel_rfl) ?_ | refine AW_skip ?_ | refine AW_exit ?_ | refine AW_ret (Back_retR ?_))
        simp only [push_cast, reduceIte, Nat.reduceEqDiff, Nat.reduceAdd, Nat.reduceMul, Nat.reduceSub, Nat.reduceLT, Nat.reduceLeDiff, Int.reduceLT, Int.reduceLE, Int.reduceAdd, Int.reduceSub, Int.reduceNeg, Int.reduceToNat, Int.reduceEq, reduceCtorEq, *]
      | exact IsB_mk
      | first | apply GQ_mkT | apply GQ_mkTN | apply GQ_mkF | apply GQ_mkFN | apply GQ_mkB | apply GQ_mkBF
      | refine AW_block ?_
      | first | refine AW_condT rfl ?_ | refine AW_condF rfl ?_ | refine AW_condAny rfl ?_ ?_ | refine AW_condB rfl (fun _ => ?_) (fun _ => ?_) | refine AW_condN rfl (fun _ => ?_) (fun _ => ?_)
      | ((first | refine ite_introN (fun _ => ?_) (fun _ => ?_) | refine ite_intro (fun _ => ?_) (fun _ => ?_)) <;> try simp (config := { maxSteps := 2000000 }) only [Kon, push_cast, reduceIte, Nat.reduceEqDiff, Nat.reduceAdd, Nat.reduceMul, Nat.reduceSub, Nat.reduceLT, Nat.reduceLeDiff, Int.reduceLT, Int.reduceLE, Int.reduceAdd, Int.reduceSub, Int.reduceNeg, Int.reduceToNat, Int.reduceEq, reduceCtorEq, *])
      | refine And.intro trivial ?_
      | refine And.intro (by omega) ?_
      | refine AW_cond rfl (fun _ => ?_) (fun _ => ?_)
      | refine And.intro ?_ ?_
    · rename_i hx
      exact Fin_pure rfl (hbad.out (.inl (by simpa using hx)))
    · rename_i hx hy
      exact Fin_pure rfl (hbad.out (.inr (.inl (by simpa using hy))))
    · rename_i hx hy
      refine Nxt_mk _ _ _ (by omega) (Cut_same (by repeat' first | exact SubT_nil | refine SubT_cons rfl rfl ?_ | refine SubT_consF rfl rfl ?_ | refine SubT_cons rfl (congrArg (AV.int _) (by omega)) ?_ | refine SubT_cons rfl (by first | (simp_all; done) | (simp_all; omega) | (simp_all; intros; omega)) ?_) (by simp)) ⟨i + 1, u.drop (a + w.length), _, rfl, hlt, ?_, hid ?_, rfl, rfl⟩
      · simp; omega
      · have := hgo.out (fun e => by
          rcases e with e | e | e
          · rw [decide_eq_true e.1, e.2] at hx; simp at hx
          · rw [decide_eq_true e.1, e.2] at hy; simp at hy
          · omega)
        simpa using this
end Go.Proofs.YtffnflplocbpiaaGreatDoor.Av

namespace Go.Proofs.YtffnflplocbpiaaGreatDoor.Av
open Go
set_option maxHeartbeats 8000000
set_option maxRecDepth 100000

theorem ex_norm : normO 1 [32, 65, 32, 32, 98] = some [97, 32, 98] := by kernel_rfl
theorem ex_ord4 : ordO 4 [49, 48] [57] = some 1 := by kernel_rfl
theorem ex_ord1 : ordO 1 [49, 48] [57] = some (-1) := by kernel_rfl
theorem ex_like : likeO 1 [65, 98, 99, 97, 98] [(0, [65]), (2, [66])] = some true := by kernel_rfl
theorem awake12_k {L : List Blk} {K : AV → List Blk → Prop} (h : K (.bool true) L) : ACall Tryz.prog 8 [] L K := by
  replace h := hid h
  refine ACall_fn c_law12_awake_eq (by simp [c_law12_awake]) ?_
  simp only [c_law12_awake, initT]
  refine wk ?_
  refine norm_syn_k ?_
  rw [ex_norm]
  simp only [normA]
  refine sk ?_
  refine wk ?_
  refine order_syn_k ?_
  rw [ex_ord4]
  simp only [ordA]
  refine sk ?_
  refine wk ?_
  refine order_syn_k ?_
  rw [ex_ord1]
  simp only [ordA]
  refine sk ?_
  refine wk ?_
  refine like_syn_k (l := [(0, [65]), (2, [66])]) (by simp) (by simp) ?_
  rw [ex_like]
  simp only [likeA]
  refine sk ?_
  refine wk ?_
  exact Fin_same h.out
end Go.Proofs.YtffnflplocbpiaaGreatDoor.Av
