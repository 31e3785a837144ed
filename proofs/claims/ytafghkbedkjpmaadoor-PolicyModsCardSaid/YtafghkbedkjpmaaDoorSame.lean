import Derived.Test.YtafghkbedkjpmaaDoorCodeB
import Derived.Test.YtafghkbedkjpmaaDoorModB
set_option linter.unusedSimpArgs false
set_option linter.unusedVariables false
namespace Go.Proofs.YtafghkbedkjpmaaDoor.Av
open Go
set_option maxHeartbeats 8000000
set_option maxRecDepth 100000

/-- Attributes, xs cells. -/
abbrev At := List UInt8 × List (List UInt8)
def attrsA (l : List At) : List AV := l.flatMap fun a => [.str a.1, .sl (strs a.2) a.2.length none]
theorem attrsA_len (l : List At) : (attrsA l).length = l.length * 2 := by
  induction l with
  | nil => rfl
  | cons a l ih => simp only [attrsA, List.flatMap_cons, List.length_append, List.length_cons, List.length_nil] at ih ⊢; omega
theorem attrsA_at : ∀ {l : List At} {i : Nat}, i < l.length → (attrsA l).getD (i * 2) .undef = .str (l.getD i ([], [])).1 ∧ (attrsA l).getD (i * 2 + 1) .undef = .sl (strs (l.getD i ([], [])).2) (l.getD i ([], [])).2.length none
  | a :: l, 0, _ => ⟨rfl, rfl⟩
  | a :: l, i + 1, h => by
    have ih := @attrsA_at l i (by simpa using h)
    rw [show (i + 1) * 2 = i * 2 + 1 + 1 by omega]
    simpa [attrsA] using ih

theorem take_eq_succ {X : Type} {l m : List X} {d : X} {i : Nat} (h1 : i < l.length) (h2 : i < m.length) : l.take (i + 1) = m.take (i + 1) ↔ l.take i = m.take i ∧ l.getD i d = m.getD i d := by
  rw [List.take_succ_eq_append_getElem h1, List.take_succ_eq_append_getElem h2]
  have e1 : l.getD i d = l[i] := by simp [h1]
  have e2 : m.getD i d = m[i] := by simp [h2]
  rw [e1, e2]
  refine ⟨fun h => ?_, fun h => by rw [h.1, h.2]⟩
  have := List.append_inj' h (by simp)
  exact ⟨this.1, by simpa using this.2⟩

theorem same14_k {xs ys : List At} {cap cap' : Option Nat} (ha : (xs.length : Int) ≤ 4611686018427387904) (hv : ∀ a ∈ xs, (a.2.length : Int) ≤ 4611686018427387904) {L : List Blk} {K : AV → List Blk → Prop} (h : K (.bool (decide (xs = ys))) L) :
    ACall Tryd.prog 9 [.sl (attrsA xs) xs.length cap, .sl (attrsA ys) ys.length cap'] L K := by
  replace h := hid h
  have no : ¬ xs = ys → K (.bool false) L := fun e => by simpa [e] using h.out
  replace no := hid no
  refine ACall_fn c_ref14_Same_eq (by simp [c_ref14_Same]) ?_
  simp only [c_ref14_Same, initT]
  by_cases hlen : xs.length = ys.length
  rotate_left
  · have hl1 : ¬ (xs.length : Int) = (ys.length : Int) := by omega
    repeat' first
      | refine AW_seq ?_
      | (first | refine AW_sreg (by kernel_rfl) ?_ | refine AW_sdreg (by kernel_rfl) ?_ | refine AW_dregM ?_ | refine Nx_in ?_ | refine NxI_in (fun _ => ?_) | refine AW_region ?_ | refine AW_dreg ?_)
        simp (config := { maxSteps := 2000000 }) only [Kon, push_cast, reduceIte, Nat.reduceEqDiff, Nat.reduceAdd, Nat.reduceMul, Nat.reduceSub, Nat.reduceLT, Nat.reduceLeDiff, Int.reduceLT, Int.reduceLE, Int.reduceAdd, Int.reduceSub, Int.reduceNeg, Int.reduceToNat, Int.reduceEq, reduceCtorEq, *]
      | (first | refine SelK_mk (by kernel_rfl) ?_ | refine AW_skip ?_ | refine AW_exit ?_ | refine AW_ret (Back_retR ?_))
        simp only [push_cast, reduceIte, Nat.reduceEqDiff, Nat.reduceAdd, Nat.reduceMul, Nat.reduceSub, Nat.reduceLT, Nat.reduceLeDiff, Int.reduceLT, Int.reduceLE, Int.reduceAdd, Int.reduceSub, Int.reduceNeg, Int.reduceToNat, Int.reduceEq, reduceCtorEq, *]
      | exact IsB_mk
      | first | apply GQ_mkT | apply GQ_mkTN | apply GQ_mkF | apply GQ_mkFN | apply GQ_mkB | apply GQ_mkBF
      | refine AW_block ?_
      | first | refine AW_condT rfl ?_ | refine AW_condF rfl ?_ | refine AW_condAny rfl ?_ ?_ | refine AW_condB rfl (fun _ => ?_) (fun _ => ?_) | refine AW_condN rfl (fun _ => ?_) (fun _ => ?_)
      | ((first | refine ite_introN (fun _ => ?_) (fun _ => ?_) | refine ite_intro (fun _ => ?_) (fun _ => ?_)) <;> try simp (config := { maxSteps := 2000000 }) only [Kon, push_cast, reduceIte, Nat.reduceEqDiff, Nat.reduceAdd, Nat.reduceMul, Nat.reduceSub, Nat.reduceLT, Nat.reduceLeDiff, Int.reduceLT, Int.reduceLE, Int.reduceAdd, Int.reduceSub, Int.reduceNeg, Int.reduceToNat, Int.reduceEq, reduceCtorEq, *])
      | refine And.intro trivial ?_
      | refine And.intro (by omega) ?_
      | refine AW_cond rfl (fun _ => ?_) (fun _ => ?_)
      | refine And.intro ?_ ?_
    exact Fin_same (no.out fun e => hlen (by rw [e]))
  have hlen' : (ys.length : Int) = (xs.length : Int) := by omega
  replace hlen := hid hlen
  repeat' first
    | refine AW_seq ?_
    | (first | refine AW_sreg (by kernel_rfl) ?_ | refine AW_sdreg (by kernel_rfl) ?_ | refine AW_dregM ?_ | refine Nx_in ?_ | refine NxI_in (fun _ => ?_) | refine AW_region ?_ | refine AW_dreg ?_)
      simp (config := { maxSteps := 2000000 }) only [Kon, push_cast, reduceIte, Nat.reduceEqDiff, Nat.reduceAdd, Nat.reduceMul, Nat.reduceSub, Nat.reduceLT, Nat.reduceLeDiff, Int.reduceLT, Int.reduceLE, Int.reduceAdd, Int.reduceSub, Int.reduceNeg, Int.reduceToNat, Int.reduceEq, reduceCtorEq, *]
    | (first | refine SelK_mk (by kernel_rfl) ?_ | refine AW_skip ?_ | refine AW_exit ?_ | refine AW_ret (Back_retR ?_))
      simp only [push_cast, reduceIte, Nat.reduceEqDiff, Nat.reduceAdd, Nat.reduceMul, Nat.reduceSub, Nat.reduceLT, Nat.reduceLeDiff, Int.reduceLT, Int.reduceLE, Int.reduceAdd, Int.reduceSub, Int.reduceNeg, Int.reduceToNat, Int.reduceEq, reduceCtorEq, *]
    | exact IsB_mk
    | first | apply GQ_mkT | apply GQ_mkTN | apply GQ_mkF | apply GQ_mkFN | apply GQ_mkB | apply GQ_mkBF
    | refine AW_block ?_
    | first | refine AW_condT rfl ?_ | refine AW_condF rfl ?_ | refine AW_condAny rfl ?_ ?_ | refine AW_condB rfl (fun _ => ?_) (fun _ => ?_) | refine AW_condN rfl (fun _ => ?_) (fun _ => ?_)
    | ((first | refine ite_introN (fun _ => ?_) (fun _ => ?_) | refine ite_intro (fun _ => ?_) (fun _ => ?_)) <;> try simp (config := { maxSteps := 2000000 }) only [Kon, push_cast, reduceIte, Nat.reduceEqDiff, Nat.reduceAdd, Nat.reduceMul, Nat.reduceSub, Nat.reduceLT, Nat.reduceLeDiff, Int.reduceLT, Int.reduceLE, Int.reduceAdd, Int.reduceSub, Int.reduceNeg, Int.reduceToNat, Int.reduceEq, reduceCtorEq, *])
    | refine And.intro trivial ?_
    | refine And.intro (by omega) ?_
    | refine AW_cond rfl (fun _ => ?_) (fun _ => ?_)
    | refine And.intro ?_ ?_
  clear hlen'
  refine AW_loopT (fun n T' L' => ∃ (i : Nat), n = xs.length - i ∧ i ≤ xs.length ∧ xs.take i = ys.take i ∧ T' = [(14, .int .i64 (i : Int)), (13, .int .i64 xs.length), (4, .bool false), (1, .sl (attrsA ys) ys.length cap'), (0, .sl (attrsA xs) xs.length cap)] ∧ L' = L) (Cut_same (by repeat' first | exact SubT_nil | refine SubT_cons rfl rfl ?_ | refine SubT_consF rfl rfl ?_) (Nat.le_refl _)) ⟨0, rfl, Nat.zero_le _, rfl, rfl, rfl⟩ ?_
  rintro _ _ _ ⟨i, rfl, hi, hti, rfl, rfl⟩
  replace hti := hid hti
  by_cases hlt : i < xs.length
  · have h1 : (i : Int) < (xs.length : Int) := by omega
    have h1' : (i : Int) < (ys.length : Int) := by have := hlen.out; omega
    have h2 : IntKind.i64.wrap ((i : Int) + 1) = (i : Int) + 1 := wrap64_in (by omega) (by omega)
    obtain ⟨a1, a2⟩ := attrsA_at hlt
    obtain ⟨b1, b2⟩ := attrsA_at (l := ys) (i := i) (by have := hlen.out; omega)
    have hva := hv (xs.getD i ([], [])) (by rw [List.getD_eq_getElem?_getD, List.getElem?_eq_getElem hlt]; exact List.getElem_mem _)
    have hsucc := hid (take_eq_succ (l := xs) (m := ys) (d := ([], [])) hlt (by have := hlen.out; omega))
    obtain ⟨⟨an, av⟩, hae⟩ : ∃ a, xs.getD i ([], []) = a := ⟨_, rfl⟩
    obtain ⟨⟨bn, bv⟩, hbe⟩ : ∃ b, ys.getD i ([], []) = b := ⟨_, rfl⟩
    rw [hae, hbe] at hsucc
    rw [hae] at a1 a2 hva
    rw [hbe] at b1 b2
    simp only at a1 a2 b1 b2 hva
    clear hae hbe
    have la := attrsA_len xs
    have lb := attrsA_len ys
    -- a name or a number that differs
    have differ := hid fun (e : ¬ (an, av) = (bn, bv)) => no.out fun h => e (hsucc.out.1 (by rw [h])).2
    have c1 : i * 2 < (attrsA xs).length := by omega
    have c2 : i * 2 < (attrsA ys).length := by have := hlen.out; omega
    have c3 : i * 2 + 1 < (attrsA xs).length := by omega
    have c4 : i * 2 + 1 < (attrsA ys).length := by have := hlen.out; omega
    repeat' first
      | refine AW_seq ?_
      | (first | refine AW_sreg (by kernel_rfl) ?_ | refine AW_sdreg (by kernel_rfl) ?_ | refine AW_dregM ?_ | refine Nx_in ?_ | refine NxI_in (fun _ => ?_) | refine AW_region ?_ | refine AW_dreg ?_)
        simp (config := { maxSteps := 2000000 }) only [Kon, push_cast, reduceIte, Nat.reduceEqDiff, Nat.reduceAdd, Nat.reduceMul, Nat.reduceSub, Nat.reduceLT, Nat.reduceLeDiff, Int.reduceLT, Int.reduceLE, Int.reduceAdd, Int.reduceSub, Int.reduceNeg, Int.reduceToNat, Int.reduceEq, reduceCtorEq, *]
      | (first | refine SelK_mk (by kernel_rfl) ?_ | refine AW_skip ?_ | refine AW_exit ?_ | refine AW_ret (Back_retR ?_))
        simp only [push_cast, reduceIte, Nat.reduceEqDiff, Nat.reduceAdd, Nat.reduceMul, Nat.reduceSub, Nat.reduceLT, Nat.reduceLeDiff, Int.reduceLT, Int.reduceLE, Int.reduceAdd, Int.reduceSub, Int.reduceNeg, Int.reduceToNat, Int.reduceEq, reduceCtorEq, *]
      | exact IsB_mk
      | first | apply GQ_mkT | apply GQ_mkTN | apply GQ_mkF | apply GQ_mkFN | apply GQ_mkB | apply GQ_mkBF
      | refine AW_block ?_
      | first | refine AW_condT rfl ?_ | refine AW_condF rfl ?_ | refine AW_condAny rfl ?_ ?_ | refine AW_condB rfl (fun _ => ?_) (fun _ => ?_) | refine AW_condN rfl (fun _ => ?_) (fun _ => ?_)
      | ((first | refine ite_introN (fun _ => ?_) (fun _ => ?_) | refine ite_intro (fun _ => ?_) (fun _ => ?_)) <;> try simp (config := { maxSteps := 2000000 }) only [Kon, push_cast, reduceIte, Nat.reduceEqDiff, Nat.reduceAdd, Nat.reduceMul, Nat.reduceSub, Nat.reduceLT, Nat.reduceLeDiff, Int.reduceLT, Int.reduceLE, Int.reduceAdd, Int.reduceSub, Int.reduceNeg, Int.reduceToNat, Int.reduceEq, reduceCtorEq, *])
      | refine And.intro trivial ?_
      | refine And.intro (by omega) ?_
      | refine AW_cond rfl (fun _ => ?_) (fun _ => ?_)
      | refine And.intro ?_ ?_
    · rename_i hne
      refine Fin_same (differ.out fun e => ?_)
      obtain ⟨rfl, rfl⟩ := Prod.mk.inj e
      simp at hne
    rename_i heq
    obtain ⟨he1, he2⟩ : an = bn ∧ av.length = bv.length := by
      refine ⟨Decidable.byContradiction fun h => heq (.inl h), Decidable.byContradiction fun h => heq (.inr ?_)⟩
      omega
    clear heq
    subst he1
    replace he2 := hid he2
    refine AW_loopT (fun n T' L' => ∃ (k : Nat), n = av.length - k ∧ k ≤ av.length ∧ av.take k = bv.take k ∧ T' = [(49, .int .i64 (k : Int)), (48, .int .i64 av.length), (5, .int .i64 (i : Int)), (14, .int .i64 (i : Int)), (13, .int .i64 xs.length), (4, .bool false), (1, .sl (attrsA ys) ys.length cap'), (0, .sl (attrsA xs) xs.length cap)] ∧ L' = _) (Cut_same (by repeat' first | exact SubT_nil | refine SubT_cons rfl rfl ?_ | refine SubT_consF rfl rfl ?_) (Nat.le_refl _)) ⟨0, rfl, Nat.zero_le _, rfl, rfl, rfl⟩ ?_
    rintro _ _ _ ⟨k, rfl, hk, htk, rfl, rfl⟩
    replace htk := hid htk
    by_cases hkl : k < av.length
    · have hkb : k < bv.length := by have := he2.out; omega
      have g1 : (k : Int) < (av.length : Int) := by omega
      have g1' : (k : Int) < (bv.length : Int) := by omega
      have g2 : IntKind.i64.wrap ((k : Int) + 1) = (k : Int) + 1 := wrap64_in (by omega) (by omega)
      have g5 : (strs av).getD k .undef = .str (av.getD k []) := by simp [hkl]
      have g6 : (strs bv).getD k .undef = .str (bv.getD k []) := by simp [hkb]
      have g7 := hid (take_eq_succ (l := av) (m := bv) (d := []) hkl hkb)
      obtain ⟨p, hp⟩ : ∃ p, av.getD k [] = p := ⟨_, rfl⟩
      obtain ⟨q, hq⟩ : ∃ q, bv.getD k [] = q := ⟨_, rfl⟩
      rw [hp, hq] at g7
      rw [hp] at g5
      rw [hq] at g6
      clear hp hq
      have c5 : k < (strs av).length := by simpa using hkl
      have c6 : k < (strs bv).length := by simpa using hkb
      by_cases hpq : p = q
      · subst hpq
        repeat' first
          | refine AW_seq ?_
          | (first | refine AW_sreg (by kernel_rfl) ?_ | refine AW_sdreg (by kernel_rfl) ?_ | refine AW_dregM ?_ | refine Nx_in ?_ | refine NxI_in (fun _ => ?_) | refine AW_region ?_ | refine AW_dreg ?_)
            simp (config := { maxSteps := 2000000 }) only [Kon, push_cast, reduceIte, Nat.reduceEqDiff, Nat.reduceAdd, Nat.reduceMul, Nat.reduceSub, Nat.reduceLT, Nat.reduceLeDiff, Int.reduceLT, Int.reduceLE, Int.reduceAdd, Int.reduceSub, Int.reduceNeg, Int.reduceToNat, Int.reduceEq, reduceCtorEq, *]
          | (first | refine SelK_mk (by kernel_rfl) ?_ | refine AW_skip ?_ | refine AW_exit ?_ | refine AW_ret (Back_retR ?_))
            simp only [push_cast, reduceIte, Nat.reduceEqDiff, Nat.reduceAdd, Nat.reduceMul, Nat.reduceSub, Nat.reduceLT, Nat.reduceLeDiff, Int.reduceLT, Int.reduceLE, Int.reduceAdd, Int.reduceSub, Int.reduceNeg, Int.reduceToNat, Int.reduceEq, reduceCtorEq, *]
          | exact IsB_mk
          | first | apply GQ_mkT | apply GQ_mkTN | apply GQ_mkF | apply GQ_mkFN | apply GQ_mkB | apply GQ_mkBF
          | refine AW_block ?_
          | first | refine AW_condT rfl ?_ | refine AW_condF rfl ?_ | refine AW_condAny rfl ?_ ?_ | refine AW_condB rfl (fun _ => ?_) (fun _ => ?_) | refine AW_condN rfl (fun _ => ?_) (fun _ => ?_)
          | ((first | refine ite_introN (fun _ => ?_) (fun _ => ?_) | refine ite_intro (fun _ => ?_) (fun _ => ?_)) <;> try simp (config := { maxSteps := 2000000 }) only [Kon, push_cast, reduceIte, Nat.reduceEqDiff, Nat.reduceAdd, Nat.reduceMul, Nat.reduceSub, Nat.reduceLT, Nat.reduceLeDiff, Int.reduceLT, Int.reduceLE, Int.reduceAdd, Int.reduceSub, Int.reduceNeg, Int.reduceToNat, Int.reduceEq, reduceCtorEq, *])
          | refine And.intro trivial ?_
          | refine And.intro (by omega) ?_
          | refine AW_cond rfl (fun _ => ?_) (fun _ => ?_)
          | refine And.intro ?_ ?_
        exact Nxt_mk _ _ _ (by omega) (Cut_same (by repeat' first | exact SubT_nil | refine SubT_cons rfl rfl ?_ | refine SubT_consF rfl rfl ?_) (Nat.le_refl _)) ⟨k + 1, rfl, hkl, g7.out.2 ⟨htk.out, rfl⟩, rfl, rfl⟩
      · repeat' first
          | refine AW_seq ?_
          | (first | refine AW_sreg (by kernel_rfl) ?_ | refine AW_sdreg (by kernel_rfl) ?_ | refine AW_dregM ?_ | refine Nx_in ?_ | refine NxI_in (fun _ => ?_) | refine AW_region ?_ | refine AW_dreg ?_)
            simp (config := { maxSteps := 2000000 }) only [Kon, push_cast, reduceIte, Nat.reduceEqDiff, Nat.reduceAdd, Nat.reduceMul, Nat.reduceSub, Nat.reduceLT, Nat.reduceLeDiff, Int.reduceLT, Int.reduceLE, Int.reduceAdd, Int.reduceSub, Int.reduceNeg, Int.reduceToNat, Int.reduceEq, reduceCtorEq, *]
          | (first | refine SelK_mk (by kernel_rfl) ?_ | refine AW_skip ?_ | refine AW_exit ?_ | refine AW_ret (Back_retR ?_))
            simp only [push_cast, reduceIte, Nat.reduceEqDiff, Nat.reduceAdd, Nat.reduceMul, Nat.reduceSub, Nat.reduceLT, Nat.reduceLeDiff, Int.reduceLT, Int.reduceLE, Int.reduceAdd, Int.reduceSub, Int.reduceNeg, Int.reduceToNat, Int.reduceEq, reduceCtorEq, *]
          | exact IsB_mk
          | first | apply GQ_mkT | apply GQ_mkTN | apply GQ_mkF | apply GQ_mkFN | apply GQ_mkB | apply GQ_mkBF
          | refine AW_block ?_
          | first | refine AW_condT rfl ?_ | refine AW_condF rfl ?_ | refine AW_condAny rfl ?_ ?_ | refine AW_condB rfl (fun _ => ?_) (fun _ => ?_) | refine AW_condN rfl (fun _ => ?_) (fun _ => ?_)
          | ((first | refine ite_introN (fun _ => ?_) (fun _ => ?_) | refine ite_intro (fun _ => ?_) (fun _ => ?_)) <;> try simp (config := { maxSteps := 2000000 }) only [Kon, push_cast, reduceIte, Nat.reduceEqDiff, Nat.reduceAdd, Nat.reduceMul, Nat.reduceSub, Nat.reduceLT, Nat.reduceLeDiff, Int.reduceLT, Int.reduceLE, Int.reduceAdd, Int.reduceSub, Int.reduceNeg, Int.reduceToNat, Int.reduceEq, reduceCtorEq, *])
          | refine And.intro trivial ?_
          | refine And.intro (by omega) ?_
          | refine AW_cond rfl (fun _ => ?_) (fun _ => ?_)
          | refine And.intro ?_ ?_
        refine Fin_same (differ.out fun e => hpq ?_)
        obtain ⟨-, rfl⟩ := Prod.mk.inj e
        exact (g7.out.1 rfl).2
    · have hke : k = av.length := by omega
      subst hke
      have g1 : ¬ (av.length : Int) < (av.length : Int) := by omega
      repeat' first
        | refine AW_seq ?_
        | (first | refine AW_sreg (by kernel_rfl) ?_ | refine AW_sdreg (by kernel_rfl) ?_ | refine AW_dregM ?_ | refine Nx_in ?_ | refine NxI_in (fun _ => ?_) | refine AW_region ?_ | refine AW_dreg ?_)
          simp (config := { maxSteps := 2000000 }) only [Kon, push_cast, reduceIte, Nat.reduceEqDiff, Nat.reduceAdd, Nat.reduceMul, Nat.reduceSub, Nat.reduceLT, Nat.reduceLeDiff, Int.reduceLT, Int.reduceLE, Int.reduceAdd, Int.reduceSub, Int.reduceNeg, Int.reduceToNat, Int.reduceEq, reduceCtorEq, *]
        | (first | refine SelK_mk (by kernel_rfl) ?_ | refine AW_skip ?_ | refine AW_exit ?_ | refine AW_ret (Back_retR ?_))
          simp only [push_cast, reduceIte, Nat.reduceEqDiff, Nat.reduceAdd, Nat.reduceMul, Nat.reduceSub, Nat.reduceLT, Nat.reduceLeDiff, Int.reduceLT, Int.reduceLE, Int.reduceAdd, Int.reduceSub, Int.reduceNeg, Int.reduceToNat, Int.reduceEq, reduceCtorEq, *]
        | exact IsB_mk
        | first | apply GQ_mkT | apply GQ_mkTN | apply GQ_mkF | apply GQ_mkFN | apply GQ_mkB | apply GQ_mkBF
        | refine AW_block ?_
        | first | refine AW_condT rfl ?_ | refine AW_condF rfl ?_ | refine AW_condAny rfl ?_ ?_ | refine AW_condB rfl (fun _ => ?_) (fun _ => ?_) | refine AW_condN rfl (fun _ => ?_) (fun _ => ?_)
        | ((first | refine ite_introN (fun _ => ?_) (fun _ => ?_) | refine ite_intro (fun _ => ?_) (fun _ => ?_)) <;> try simp (config := { maxSteps := 2000000 }) only [Kon, push_cast, reduceIte, Nat.reduceEqDiff, Nat.reduceAdd, Nat.reduceMul, Nat.reduceSub, Nat.reduceLT, Nat.reduceLeDiff, Int.reduceLT, Int.reduceLE, Int.reduceAdd, Int.reduceSub, Int.reduceNeg, Int.reduceToNat, Int.reduceEq, reduceCtorEq, *])
        | refine And.intro trivial ?_
        | refine And.intro (by omega) ?_
        | refine AW_cond rfl (fun _ => ?_) (fun _ => ?_)
        | refine And.intro ?_ ?_
      refine Nxt_mk _ _ _ (by omega) (Cut_same (by repeat' first | exact SubT_nil | refine SubT_cons rfl rfl ?_ | refine SubT_consF rfl rfl ?_) (Nat.le_refl _)) ⟨i + 1, rfl, hlt, hsucc.out.2 ⟨hti.out, ?_⟩, rfl, rfl⟩
      have e := htk.out
      rw [List.take_length, he2.out, List.take_length] at e
      rw [e]
  · have hke : i = xs.length := by omega
    subst hke
    have h1 : ¬ (xs.length : Int) < (xs.length : Int) := by omega
    have e := hti.out
    rw [List.take_length, hlen.out, List.take_length] at e
    have h' := h.out
    rw [decide_eq_true e] at h'
    clear e
    replace h' := hid h'
    repeat' first
      | refine AW_seq ?_
      | (first | refine AW_sreg (by kernel_rfl) ?_ | refine AW_sdreg (by kernel_rfl) ?_ | refine AW_dregM ?_ | refine Nx_in ?_ | refine NxI_in (fun _ => ?_) | refine AW_region ?_ | refine AW_dreg ?_)
        simp (config := { maxSteps := 2000000 }) only [Kon, push_cast, reduceIte, Nat.reduceEqDiff, Nat.reduceAdd, Nat.reduceMul, Nat.reduceSub, Nat.reduceLT, Nat.reduceLeDiff, Int.reduceLT, Int.reduceLE, Int.reduceAdd, Int.reduceSub, Int.reduceNeg, Int.reduceToNat, Int.reduceEq, reduceCtorEq, *]
      | (first | refine SelK_mk (by kernel_rfl) ?_ | refine AW_skip ?_ | refine AW_exit ?_ | refine AW_ret (Back_retR ?_))
        simp only [push_cast, reduceIte, Nat.reduceEqDiff, Nat.reduceAdd, Nat.reduceMul, Nat.reduceSub, Nat.reduceLT, Nat.reduceLeDiff, Int.reduceLT, Int.reduceLE, Int.reduceAdd, Int.reduceSub, Int.reduceNeg, Int.reduceToNat, Int.reduceEq, reduceCtorEq, *]
      | exact IsB_mk
      | first | apply GQ_mkT | apply GQ_mkTN | apply GQ_mkF | apply GQ_mkFN | apply GQ_mkB | apply GQ_mkBF
      | refine AW_block ?_
      | first | refine AW_condT rfl ?_ | refine AW_condF rfl ?_ | refine AW_condAny rfl ?_ ?_ | refine AW_condB rfl (fun _ => ?_) (fun _ => ?_) | refine AW_condN rfl (fun _ => ?_) (fun _ => ?_)
      | ((first | refine ite_introN (fun _ => ?_) (fun _ => ?_) | refine ite_intro (fun _ => ?_) (fun _ => ?_)) <;> try simp (config := { maxSteps := 2000000 }) only [Kon, push_cast, reduceIte, Nat.reduceEqDiff, Nat.reduceAdd, Nat.reduceMul, Nat.reduceSub, Nat.reduceLT, Nat.reduceLeDiff, Int.reduceLT, Int.reduceLE, Int.reduceAdd, Int.reduceSub, Int.reduceNeg, Int.reduceToNat, Int.reduceEq, reduceCtorEq, *])
      | refine And.intro trivial ?_
      | refine And.intro (by omega) ?_
      | refine AW_cond rfl (fun _ => ?_) (fun _ => ?_)
      | refine And.intro ?_ ?_
    exact Fin_same h'.out
end Go.Proofs.YtafghkbedkjpmaaDoor.Av
