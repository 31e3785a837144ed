/- The document's syntaxes: whether a text is UTF-8. -/
import Derived.Test.YtffnflplocbpiaaGreatDoorQCodeH
import Derived.Test.YtffnflplocbpiaaGreatDoorQD1
import Derived.Test.YtffnflplocbpiaaGreatDoorQP5
import Derived.Lib.ValidLaws
set_option linter.unusedSimpArgs false
set_option linter.unusedVariables false
namespace Go.Proofs.YtffnflplocbpiaaGreatDoor.Av
open Go
set_option maxHeartbeats 8000000
set_option maxRecDepth 100000

/-- How many bytes a character has by its first one, and what that one says of it. -/
def utfHd (b : Nat) : Nat × Nat := if 240 ≤ b then (4, b - 240) else if 224 ≤ b then (3, b - 224) else if 192 ≤ b then (2, b - 192) else (1, b)
def utfOk (n c : Nat) : Bool := decide (¬ (n = 2 ∧ c < 128 ∨ n = 3 ∧ c < 2048 ∨ n = 4 ∧ c < 65536 ∨ 1114111 < c ∨ 55296 ≤ c ∧ c < 57344))
/-- The bytes behind the first one. -/
def conts : Nat → List UInt8 → Nat → Option Nat
  | 0, _, c => some c
  | _ + 1, [], _ => none
  | k + 1, x :: t, c => if 128 ≤ x.toNat ∧ x.toNat < 192 then conts k t (c * 64 + x.toNat - 128) else none
def utfS : Nat → List UInt8 → Bool
  | _, [] => true
  | 0, _ :: _ => true
  | f + 1, b :: t => if 128 ≤ b.toNat ∧ b.toNat < 192 then false else if t.length + 1 < (utfHd b.toNat).1 then false else
    match conts ((utfHd b.toNat).1 - 1) t (utfHd b.toNat).2 with
    | none => false
    | some c => utfOk (utfHd b.toNat).1 c && utfS f (t.drop ((utfHd b.toNat).1 - 1))

theorem utf_k {s : List UInt8} (hs : s.length ≤ 1000000) {L : List Blk} {K : AV → List Blk → Prop} (h : K (.bool (utfS s.length s)) L) : ACall Tryz.prog 22 [.str s] L K := by
  obtain ⟨R, hR⟩ : ∃ R, utfS s.length s = R := ⟨_, rfl⟩
  rw [hR] at h
  replace h := hid h
  refine ACall_fn c_ref12_utf_eq (by simp [c_ref12_utf]) ?_
  simp only [c_ref12_utf, initT]
  refine wk ?_
  refine AW_loopT (fun n T' L' => ∃ (f : Nat) (u : List UInt8), f = n ∧ u.length ≤ 1000000 ∧ Hid (u.length ≤ f ∧ utfS f u = R) ∧ T' = [(0, .str u)] ∧ L = L') (Cut_same (by repeat' first | exact SubT_nil | refine SubT_cons rfl rfl ?_ | refine SubT_consF rfl rfl ?_) (Nat.le_refl _)) ⟨s.length, s, rfl, hs, hid ⟨Nat.le_refl _, hR⟩, rfl, rfl⟩ ?_
  clear hR hs
  rintro _ _ _ ⟨f, u, rfl, hu, hI, rfl, rfl⟩
  rcases u with _ | ⟨b, t⟩
  · have h' := h.out
    rw [← hI.out.2, show utfS f [] = true by cases f <;> rfl] at h'
    replace h' := hid h'
    have e0 : ([] : List UInt8).length = 0 := rfl
    refine wk ?_
    exact Fin_same h'.out
  obtain ⟨u, hut⟩ : ∃ u, b :: t = u := ⟨_, rfl⟩
  obtain ⟨f, rfl⟩ : ∃ g, f = g + 1 := ⟨f - 1, by have := hI.out.1; simp at this; omega⟩
  have hb0 : u.getD 0 0 = b := by rw [← hut]; rfl
  have hul : u.length = t.length + 1 := by rw [← hut]; rfl
  have hI2 := hI.out.2
  have hfl := hI.out.1
  rw [utfS] at hI2
  rw [hut] at hu hfl ⊢
  obtain ⟨x, hx⟩ : ∃ x, b.toNat = x := ⟨_, rfl⟩
  have hx256 : x < 256 := by rw [← hx]; exact b.toNat_lt
  rw [hx] at hI2
  have hpos : (0 : Int) < (u.length : Int) := by omega
  have w0 : IntKind.i64.wrap (x : Int) = (x : Int) := wrap64_in (by omega) (by omega)
  have hxi : (b.toNat : Int) = (x : Int) := by omega
  have hbad : R = false → Fin L (.bool false) L K := fun e => Fin_same (by have h' := h.out; rwa [e] at h')
  replace hbad := hid hbad
  have hdr : ∀ i, u.drop (i + 1) = t.drop i := fun i => by rw [← hut]; rfl
  replace hut := hid hut
  replace hul := hid hul
  clear hx hI
  by_cases hmid : 128 ≤ x ∧ x < 192
  · rw [if_pos hmid] at hI2
    have c1 : ¬ (240 : Int) ≤ (x : Int) := by omega
    have c2 : ¬ (224 : Int) ≤ (x : Int) := by omega
    have c3 : ¬ (192 : Int) ≤ (x : Int) := by omega
    have c4 : (128 : Int) ≤ (x : Int) := by omega
    have e := hid hI2.symm
    clear hmid hI2
    refine wk ?_
    exact hbad.out e.out
  rw [if_neg hmid] at hI2
  obtain ⟨⟨n, c0⟩, hn⟩ : ∃ p, utfHd x = p := ⟨_, rfl⟩
  rw [hn] at hI2
  simp only at hI2
  have hn14 : 1 ≤ n ∧ n ≤ 4 ∧ c0 < 256 := by
    unfold utfHd at hn
    repeat' split at hn
    all_goals (cases hn; omega)
  obtain ⟨hn1, hn4, hc0⟩ := hn14
  replace hI2 := hid hI2
  iterate 13 first
    | refine AW_seq ?_
    | (first | refine AW_sreg (by kernel_rfl) ?_ | refine AW_sdreg (by kernel_rfl) ?_ | refine AW_dregM ?_ | refine Nx_in ?_ | refine NxI_in (fun _ => ?_) | refine AW_region ?_ | refine AW_dreg ?_)
      simp (config := { maxSteps := 2000000 }) only [Kon, push_cast, reduceIte, Nat.reduceEqDiff, Nat.reduceAdd, Nat.reduceMul, Nat.reduceSub, Nat.reduceLT, Nat.reduceLeDiff, Int.reduceLT, Int.reduceLE, Int.reduceAdd, Int.reduceSub, Int.reduceNeg, Int.reduceToNat, Int.reduceEq, reduceCtorEq, *]
    | (first | refine SelK_mk (by kernel_rfl) ?_ | refine AW_skip ?_ | refine AW_exit ?_ | refine AW_ret (Back_retR ?_))
      simp only [push_cast, reduceIte, Nat.reduceEqDiff, Nat.reduceAdd, Nat.reduceMul, Nat.reduceSub, Nat.reduceLT, Nat.reduceLeDiff, Int.reduceLT, Int.reduceLE, Int.reduceAdd, Int.reduceSub, Int.reduceNeg, Int.reduceToNat, Int.reduceEq, reduceCtorEq, *]
    | exact IsB_mk
    | first | apply GQ_mkT | apply GQ_mkTN | apply GQ_mkF | apply GQ_mkFN | apply GQ_mkB | apply GQ_mkBF
    | refine AW_block ?_
    | first | refine AW_condT rfl ?_ | refine AW_condF rfl ?_ | refine AW_condAny rfl ?_ ?_ | refine AW_condB rfl (fun _ => ?_) (fun _ => ?_) | refine AW_condN rfl (fun _ => ?_) (fun _ => ?_)
    | ((first | refine ite_introN (fun _ => ?_) (fun _ => ?_) | refine ite_intro (fun _ => ?_) (fun _ => ?_)) <;> try simp (config := { maxSteps := 2000000 }) only [Kon, push_cast, reduceIte, Nat.reduceEqDiff, Nat.reduceAdd, Nat.reduceMul, Nat.reduceSub, Nat.reduceLT, Nat.reduceLeDiff, Int.reduceLT, Int.reduceLE, Int.reduceAdd, Int.reduceSub, Int.reduceNeg, Int.reduceToNat, Int.reduceEq, reduceCtorEq, *])
    | refine And.intro trivial ?_
    | refine And.intro (by omega) ?_
    | refine AW_cond rfl (fun _ => ?_) (fun _ => ?_)
    | refine And.intro ?_ ?_
  refine AW_seqM (fun T2 L2 => T2 = [(4, .int .i64 (n : Int)), (3, .int .i64 (c0 : Int)), (0, .str u)] ∧ L = L2) ?_ ?_
  · unfold utfHd at hn
    by_cases q1 : 240 ≤ x
    · rw [if_pos q1] at hn
      cases hn
      have c1 : (240 : Int) ≤ (x : Int) := by omega
      have w1 : IntKind.i64.wrap ((x : Int) - 240) = ((x - 240 : Nat) : Int) := by rw [wrap64_in (by omega) (by omega)]; omega
      obtain ⟨d, hd⟩ : ∃ d, x - 240 = d := ⟨_, rfl⟩
      rw [hd] at w1 ⊢
      clear q1 hd hmid
      refine wk ?_
      exact Mid_mk _ _ (Cut_same (by repeat' first | exact SubT_nil | refine SubT_cons rfl rfl ?_ | refine SubT_consF rfl rfl ?_ | refine SubT_cons rfl (congrArg (AV.int _) (by omega)) ?_ | refine SubT_cons rfl (by first | (simp_all; done) | (simp_all; omega) | (simp_all; intros; omega)) ?_) (by simp)) ⟨rfl, rfl⟩
    rw [if_neg q1] at hn
    have c1 : ¬ (240 : Int) ≤ (x : Int) := by omega
    by_cases q2 : 224 ≤ x
    · rw [if_pos q2] at hn
      cases hn
      have c2 : (224 : Int) ≤ (x : Int) := by omega
      have w1 : IntKind.i64.wrap ((x : Int) - 224) = ((x - 224 : Nat) : Int) := by rw [wrap64_in (by omega) (by omega)]; omega
      obtain ⟨d, hd⟩ : ∃ d, x - 224 = d := ⟨_, rfl⟩
      rw [hd] at w1 ⊢
      clear q1 q2 hd hmid
      refine wk ?_
      exact Mid_mk _ _ (Cut_same (by repeat' first | exact SubT_nil | refine SubT_cons rfl rfl ?_ | refine SubT_consF rfl rfl ?_ | refine SubT_cons rfl (congrArg (AV.int _) (by omega)) ?_ | refine SubT_cons rfl (by first | (simp_all; done) | (simp_all; omega) | (simp_all; intros; omega)) ?_) (by simp)) ⟨rfl, rfl⟩
    rw [if_neg q2] at hn
    have c2 : ¬ (224 : Int) ≤ (x : Int) := by omega
    by_cases q3 : 192 ≤ x
    · rw [if_pos q3] at hn
      cases hn
      have c3 : (192 : Int) ≤ (x : Int) := by omega
      have w1 : IntKind.i64.wrap ((x : Int) - 192) = ((x - 192 : Nat) : Int) := by rw [wrap64_in (by omega) (by omega)]; omega
      obtain ⟨d, hd⟩ : ∃ d, x - 192 = d := ⟨_, rfl⟩
      rw [hd] at w1 ⊢
      clear q1 q2 q3 hd hmid
      refine wk ?_
      exact Mid_mk _ _ (Cut_same (by repeat' first | exact SubT_nil | refine SubT_cons rfl rfl ?_ | refine SubT_consF rfl rfl ?_ | refine SubT_cons rfl (congrArg (AV.int _) (by omega)) ?_ | refine SubT_cons rfl (by first | (simp_all; done) | (simp_all; omega) | (simp_all; intros; omega)) ?_) (by simp)) ⟨rfl, rfl⟩
    rw [if_neg q3] at hn
    cases hn
    have c3 : ¬ (192 : Int) ≤ (x : Int) := by omega
    have c4 : ¬ (128 : Int) ≤ (x : Int) := by omega
    clear q1 q2 q3 hmid
    refine wk ?_
    exact Mid_mk _ _ (Cut_same (by repeat' first | exact SubT_nil | refine SubT_cons rfl rfl ?_ | refine SubT_consF rfl rfl ?_ | refine SubT_cons rfl (congrArg (AV.int _) (by omega)) ?_ | refine SubT_cons rfl (by first | (simp_all; done) | (simp_all; omega) | (simp_all; intros; omega)) ?_) (by simp)) ⟨rfl, rfl⟩
  rintro _ _ ⟨rfl, rfl⟩ -
  clear hn hmid hxi w0
  by_cases hsh : t.length + 1 < n
  · have hI3 := hI2.out
    rw [if_pos hsh] at hI3
    have k1 : (u.length : Int) < (n : Int) := by have := hul.out; omega
    have e := hid hI3.symm
    clear hsh hI3
    refine wk ?_
    exact hbad.out e.out
  have hI3 := hI2.out
  rw [if_neg hsh] at hI3
  have k1 : ¬ (u.length : Int) < (n : Int) := by have := hul.out; omega
  have hnu : n ≤ u.length := by have := hul.out; omega
  obtain ⟨o, ho⟩ : ∃ o, conts (n - 1) t c0 = o := ⟨_, rfl⟩
  rw [ho] at hI3
  replace hI3 := hid hI3
  clear hI2
  refine wk ?_
  refine AW_loopT (fun m T' L' => ∃ (i c : Nat), m = n - i ∧ 1 ≤ i ∧ i ≤ n ∧ c < 256 * 64 ^ (i - 1) ∧ Hid (conts (n - i) (u.drop i) c = o) ∧ T' = [(5, .int .i64 (i : Int)), (4, .int .i64 (n : Int)), (3, .int .i64 (c : Int)), (0, .str u)] ∧ L = L') (Cut_same (by repeat' first | exact SubT_nil | refine SubT_cons rfl rfl ?_ | refine SubT_consF rfl rfl ?_) (Nat.le_refl _)) ⟨1, c0, rfl, Nat.le_refl _, hn1, by simpa using hc0, hid (by rw [hdr 0]; exact ho), rfl, rfl⟩ ?_
  clear ho
  rintro _ _ _ ⟨i, c, rfl, hi1, hin, hc, hO, rfl, rfl⟩
  have hc4 : c < 67108864 := by
    refine Nat.lt_of_lt_of_le hc ?_
    have : i = 1 ∨ i = 2 ∨ i = 3 ∨ i = 4 := by omega
    rcases this with rfl | rfl | rfl | rfl <;> decide
  by_cases hlt : i < n
  · have g1 : (i : Int) < (n : Int) := by omega
    have g2 : (i : Int) < (u.length : Int) := by omega
    have g3 : IntKind.i64.wrap ((i : Int) + 1) = (i : Int) + 1 := wrap64_in (by omega) (by omega)
    obtain ⟨y, hy⟩ : ∃ y, u.getD i 0 = y := ⟨_, rfl⟩
    obtain ⟨z, hz⟩ : ∃ z, y.toNat = z := ⟨_, rfl⟩
    have hz256 : z < 256 := by rw [← hz]; exact y.toNat_lt
    have hzi : (y.toNat : Int) = (z : Int) := by omega
    have hO2 := hO.out
    rw [drop1 (show i < u.length by omega), hy, show n - i = (n - (i + 1)) + 1 by omega, conts, hz] at hO2
    have w1 : IntKind.i64.wrap (z : Int) = (z : Int) := wrap64_in (by omega) (by omega)
    clear hz
    by_cases hcn : 128 ≤ z ∧ z < 192
    · rw [if_pos hcn] at hO2
      have k2 : ¬ (z : Int) < 128 := by omega
      have k3 : ¬ (192 : Int) ≤ (z : Int) := by omega
      have w2 : IntKind.i64.wrap ((c : Int) * 64) = (c : Int) * 64 := wrap64_in (by omega) (by omega)
      have w3 : IntKind.i64.wrap ((c : Int) * 64 + (z : Int)) = (c : Int) * 64 + (z : Int) := wrap64_in (by omega) (by omega)
      have w4 : IntKind.i64.wrap ((c : Int) * 64 + (z : Int) - 128) = ((c * 64 + z - 128 : Nat) : Int) := by rw [wrap64_in (by omega) (by omega)]; omega
      have hcc : c * 64 + z - 128 < 256 * 64 ^ (i + 1 - 1) := by
        have : i = 1 ∨ i = 2 ∨ i = 3 := by omega
        rcases this with rfl | rfl | rfl <;> simp at hc ⊢ <;> omega
      obtain ⟨c', hc'⟩ : ∃ c', c * 64 + z - 128 = c' := ⟨_, rfl⟩
      rw [hc'] at w4 hO2 hcc
      replace hO2 := hid hO2
      clear hcn hc'
      refine wk ?_
      exact Nxt_mk _ _ _ (by omega) (Cut_same (by repeat' first | exact SubT_nil | refine SubT_cons rfl rfl ?_ | refine SubT_consF rfl rfl ?_ | refine SubT_cons rfl (congrArg (AV.int _) (by omega)) ?_ | refine SubT_cons rfl (by first | (simp_all; done) | (simp_all; omega) | (simp_all; intros; omega)) ?_) (by simp)) ⟨i + 1, c', rfl, by omega, hlt, hcc, hO2, rfl, rfl⟩
    · rw [if_neg hcn] at hO2
      have hI4 := hI3.out
      rw [← hO2] at hI4
      have e := hid hI4.symm
      by_cases k2 : (z : Int) < 128
      · clear hcn hO2 hI4
        refine wk ?_
        exact hbad.out e.out
      · have k3 : (192 : Int) ≤ (z : Int) := by omega
        clear hcn hO2 hI4
        refine wk ?_
        exact hbad.out e.out
  · have hke : i = n := by omega
    subst hke
    have g1 : ¬ (i : Int) < (i : Int) := by omega
    have hO2 := hO.out
    rw [Nat.sub_self, conts] at hO2
    have hI4 := hI3.out
    rw [← hO2] at hI4
    simp only [utfOk] at hI4
    have e1 : ((i : Int)).toNat = i := by omega
    have g2 : (i : Int) ≤ (u.length : Int) := by omega
    have e2 : (u.drop i).take (u.length - i) = u.drop i := List.take_of_length_le (by simp)
    have e3 : u.drop i = t.drop (i - 1) := by rw [← hdr (i - 1), show i - 1 + 1 = i by omega]
    have hb2 : (i = 2 ∧ c < 128 ∨ i = 3 ∧ c < 2048 ∨ i = 4 ∧ c < 65536 ∨ 1114111 < c ∨ 55296 ≤ c ∧ c < 57344) → R = false := fun e => by
      rw [decide_eq_false (fun hn => hn e), Bool.false_and] at hI4; exact hI4.symm
    have hg2 : ¬ (i = 2 ∧ c < 128 ∨ i = 3 ∧ c < 2048 ∨ i = 4 ∧ c < 65536 ∨ 1114111 < c ∨ 55296 ≤ c ∧ c < 57344) → utfS f (u.drop i) = R := fun e => by
      rw [decide_eq_true e, Bool.true_and] at hI4; rw [e3]; exact hI4
    replace hb2 := hid hb2
    replace hg2 := hid hg2
    replace e3 := hid e3
    clear hI4 hO2 hI3
    repeat' first
      | refine AW_seq ?_
      | (first | refine AW_sreg (by kernel_rfl) ?_ | refine AW_sdreg (by kernel_rfl) ?_ | refine AW_dregM ?_ | refine Nx_in ?_ | refine NxI_in (fun _ => ?_) | refine AW_region ?_ | refine AW_dreg ?_)
        simp (config := { maxSteps := 2000000 }) only [Kon, push_cast, reduceIte, Nat.reduceEqDiff, Nat.reduceAdd, Nat.reduceMul, Nat.reduceSub, Nat.reduceLT, Nat.reduceLeDiff, Int.reduceLT, Int.reduceLE, Int.reduceAdd, Int.reduceSub, Int.reduceNeg, Int.reduceToNat, Int.reduceEq, reduceCtorEq, *]
      | (first | refine SelK_mk (by kernel_rfl) ?_ | refine AW_skip ?_ | refine AW_exit ?_ | refine AW_ret (Back_retR ?_))
        simp only [push_cast, reduceIte, Nat.reduceEqDiff, Nat.reduceAdd, Nat.reduceMul, Nat.reduceSub, Nat.reduceLT, Nat.reduceLeDiff, Int.reduceLT, Int.reduceLE, Int.reduceAdd, Int.reduceSub, Int.reduceNeg, Int.reduceToNat, Int.reduceEq, reduceCtorEq, *]
      | exact IsB_mk
      | first | apply GQ_mkT | apply GQ_mkTN | apply GQ_mkF | apply GQ_mkFN | apply GQ_mkB | apply GQ_mkBF
      | refine AW_block ?_
      | first | refine AW_condT rfl ?_ | refine AW_condF rfl ?_ | refine AW_condAny rfl ?_ ?_ | refine AW_condB rfl (fun _ => ?_) (fun _ => ?_) | refine AW_condN rfl (fun _ => ?_) (fun _ => ?_)
      | ((first | refine ite_introN (fun _ => ?_) (fun _ => ?_) | refine ite_intro (fun _ => ?_) (fun _ => ?_)) <;> try simp (config := { maxSteps := 2000000 }) only [Kon, push_cast, reduceIte, Nat.reduceEqDiff, Nat.reduceAdd, Nat.reduceMul, Nat.reduceSub, Nat.reduceLT, Nat.reduceLeDiff, Int.reduceLT, Int.reduceLE, Int.reduceAdd, Int.reduceSub, Int.reduceNeg, Int.reduceToNat, Int.reduceEq, reduceCtorEq, *])
      | refine And.intro trivial ?_
      | refine And.intro (by omega) ?_
      | refine AW_cond rfl (fun _ => ?_) (fun _ => ?_)
      | refine And.intro ?_ ?_
    · rename_i hx
      exact hbad.out (hb2.out (by omega))
    · rename_i hx
      refine Nxt_mk _ _ _ (by omega) (Cut_same (by repeat' first | exact SubT_nil | refine SubT_cons rfl rfl ?_ | refine SubT_consF rfl rfl ?_ | refine SubT_cons rfl (congrArg (AV.int _) (by omega)) ?_ | refine SubT_cons rfl (by first | (simp_all; done) | (simp_all; omega) | (simp_all; intros; omega)) ?_) (Nat.le_refl _)) ⟨f, u.drop i, rfl, ?_, hid ⟨?_, hg2.out (by omega)⟩, rfl, rfl⟩
      · simp; omega
      · simp; omega
end Go.Proofs.YtffnflplocbpiaaGreatDoor.Av

namespace Go.Proofs.YtffnflplocbpiaaGreatDoor.Av
open Go

/-- Is a byte one of those behind the first? -/
def Cn (x : Nat) : Prop := 128 ≤ x ∧ x < 192
instance (x : Nat) : Decidable (Cn x) := by unfold Cn; infer_instance
def bad2 (n b0 b1 : Nat) : Prop := n < 2 ∨ ¬ Cn b1 ∨ (b0 - 192) * 64 + b1 - 128 < 128
def bad3 (n b0 b1 b2 : Nat) : Prop := n < 3 ∨ ¬ Cn b1 ∨ ¬ Cn b2 ∨ ((b0 - 224) * 64 + b1 - 128) * 64 + b2 - 128 < 2048 ∨ 55296 ≤ ((b0 - 224) * 64 + b1 - 128) * 64 + b2 - 128 ∧ ((b0 - 224) * 64 + b1 - 128) * 64 + b2 - 128 < 57344
def bad4 (n b0 b1 b2 b3 : Nat) : Prop := n < 4 ∨ ¬ Cn b1 ∨ ¬ Cn b2 ∨ ¬ Cn b3 ∨ (((b0 - 240) * 64 + b1 - 128) * 64 + b2 - 128) * 64 + b3 - 128 < 65536 ∨ 1114111 < (((b0 - 240) * 64 + b1 - 128) * 64 + b2 - 128) * 64 + b3 - 128
instance (n b0 b1 : Nat) : Decidable (bad2 n b0 b1) := by unfold bad2; infer_instance
instance (n b0 b1 b2 : Nat) : Decidable (bad3 n b0 b1 b2) := by unfold bad3; infer_instance
instance (n b0 b1 b2 b3 : Nat) : Decidable (bad4 n b0 b1 b2 b3) := by unfold bad4; infer_instance
/-- How many bytes the character at the front has; 0: it is none. -/
def utfN (n b0 b1 b2 b3 : Nat) : Nat :=
  if b0 < 128 then 1 else if b0 < 192 then 0
  else if b0 < 224 then (if bad2 n b0 b1 then 0 else 2)
  else if b0 < 240 then (if bad3 n b0 b1 b2 then 0 else 3)
  else (if bad4 n b0 b1 b2 b3 then 0 else 4)
set_option maxRecDepth 100000 in
set_option maxHeartbeats 4000000 in
theorem utfN_decode (n b0 b1 b2 b3 : Nat) (h0 : b0 < 256) (h1 : b1 < 256) (h2 : b2 < 256) (h3 : b3 < 256) :
    (utfN n b0 b1 b2 b3 = 0 ∧ Lib.decodeN n b0 b1 b2 b3 = (65533, 1)) ∨ (1 ≤ utfN n b0 b1 b2 b3 ∧ (Lib.decodeN n b0 b1 b2 b3).2 = utfN n b0 b1 b2 b3 ∧ ¬ ((Lib.decodeN n b0 b1 b2 b3).1 = 65533 ∧ (Lib.decodeN n b0 b1 b2 b3).2 = 1)) := by
  unfold utfN Lib.decodeN
  by_cases c1 : b0 < 128
  · rw [if_pos c1, if_pos c1]
    right; exact ⟨by omega, rfl, fun h => by have h1 : b0 = 65533 := h.1; omega⟩
  rw [if_neg c1, if_neg c1]
  by_cases c2 : b0 < 192
  · rw [if_pos c2, if_neg (by omega), if_neg (by omega), if_neg (by omega)]
    exact .inl ⟨rfl, rfl⟩
  rw [if_neg c2]
  by_cases c3 : b0 < 224
  · rw [if_pos c3]
    by_cases hA : bad2 n b0 b1
    · rw [if_pos hA]
      refine .inl ⟨rfl, ?_⟩
      unfold bad2 Cn at hA
      by_cases hc : b0 / 32 = 6 ∧ (1 < n ∧ b1 / 64 = 2)
      · rw [if_pos hc, if_neg (by omega)]
      · rw [if_neg hc, if_neg (by omega), if_neg (by omega)]
    · rw [if_neg hA]
      unfold bad2 Cn at hA
      rw [if_pos (by omega), if_pos (by omega)]
      exact .inr ⟨by omega, rfl, fun h => by have h2 : (2 : Nat) = 1 := h.2; omega⟩
  rw [if_neg c3]
  by_cases c4 : b0 < 240
  · rw [if_pos c4, if_neg (show ¬ (b0 / 32 = 6 ∧ (1 < n ∧ b1 / 64 = 2)) by omega)]
    by_cases hA : bad3 n b0 b1 b2
    · rw [if_pos hA]
      refine .inl ⟨rfl, ?_⟩
      unfold bad3 Cn at hA
      by_cases hc : b0 / 16 = 14 ∧ (1 < n ∧ b1 / 64 = 2) ∧ (2 < n ∧ b2 / 64 = 2)
      · rw [if_pos hc, if_neg (by omega)]
      · rw [if_neg hc, if_neg (by omega)]
    · rw [if_neg hA]
      unfold bad3 Cn at hA
      rw [if_pos (by omega), if_pos (by omega)]
      exact .inr ⟨by omega, rfl, fun h => by have h2 : (3 : Nat) = 1 := h.2; omega⟩
  · rw [if_neg c4, if_neg (show ¬ (b0 / 32 = 6 ∧ (1 < n ∧ b1 / 64 = 2)) by omega), if_neg (show ¬ (b0 / 16 = 14 ∧ (1 < n ∧ b1 / 64 = 2) ∧ (2 < n ∧ b2 / 64 = 2)) by omega)]
    by_cases hA : bad4 n b0 b1 b2 b3
    · rw [if_pos hA]
      refine .inl ⟨rfl, ?_⟩
      unfold bad4 Cn at hA
      by_cases hc : b0 / 8 = 30 ∧ (1 < n ∧ b1 / 64 = 2) ∧ (2 < n ∧ b2 / 64 = 2) ∧ (3 < n ∧ b3 / 64 = 2)
      · rw [if_pos hc, if_neg (by omega)]
      · rw [if_neg hc]
    · rw [if_neg hA]
      unfold bad4 Cn at hA
      rw [if_pos (by omega), if_pos (by omega)]
      exact .inr ⟨by omega, rfl, fun h => by have h2 : (4 : Nat) = 1 := h.2; omega⟩
theorem utf_step (b : UInt8) (t : List UInt8) (f : Nat) : utfS (f + 1) (b :: t) = if utfN (t.length + 1) b.toNat (t.getD 0 0).toNat (t.getD 1 0).toNat (t.getD 2 0).toNat = 0 then false else utfS f ((b :: t).drop (utfN (t.length + 1) b.toNat (t.getD 0 0).toNat (t.getD 1 0).toNat (t.getD 2 0).toNat)) := by
  have hb := b.toNat_lt
  rw [utfS]
  obtain ⟨x, hx⟩ : ∃ x, b.toNat = x := ⟨_, rfl⟩
  rw [hx] at hb ⊢
  unfold utfN
  by_cases c1 : x < 128
  · have e1 : ¬ (128 ≤ x ∧ x < 192) := by omega
    have hh : utfHd x = (1, x) := by unfold utfHd; rw [if_neg (by omega), if_neg (by omega), if_neg (by omega)]
    rw [hh, if_neg e1, if_pos c1]
    simp only [conts, Nat.sub_self, List.drop_zero]
    rw [if_neg (by omega), if_neg (by omega), show utfOk 1 x = true from decide_eq_true (by omega)]
    rfl
  by_cases c2 : x < 192
  · simp [c1, c2, show 128 ≤ x by omega]
  have e1 : ¬ (128 ≤ x ∧ x < 192) := by omega
  rw [if_neg e1, if_neg c1, if_neg c2]
  by_cases c3 : x < 224
  · have hh : utfHd x = (2, x - 192) := by unfold utfHd; rw [if_neg (by omega), if_neg (by omega), if_pos (by omega)]
    rw [if_pos c3, hh]
    simp only [show 2 - 1 = 1 from rfl]
    rcases t with _ | ⟨y, t⟩
    · simp [bad2]
    · simp only [List.length_cons, List.getD_cons_zero, conts]
      rw [if_neg (by omega)]
      by_cases hA : bad2 (t.length + 1 + 1) x y.toNat
      · simp only [if_pos hA, if_true]
        by_cases hy : 128 ≤ y.toNat ∧ y.toNat < 192
        · simp only [if_pos hy]
          unfold bad2 Cn at hA
          rw [show utfOk 2 ((x - 192) * 64 + y.toNat - 128) = false from decide_eq_false (by omega)]; rfl
        · simp only [if_neg hy]
      · simp only [if_neg hA]
        unfold bad2 Cn at hA
        simp only [if_pos (show 128 ≤ y.toNat ∧ y.toNat < 192 by omega), Nat.reduceEqDiff, if_false]
        rw [show utfOk 2 ((x - 192) * 64 + y.toNat - 128) = true from decide_eq_true (by omega)]; rfl
  · rw [if_neg c3]
    by_cases c4 : x < 240
    · have hh : utfHd x = (3, x - 224) := by unfold utfHd; rw [if_neg (by omega), if_pos (by omega)]
      rw [if_pos c4, hh]
      simp only [show 3 - 1 = 2 from rfl]
      rcases t with _ | ⟨y, _ | ⟨z, t⟩⟩
      · simp [bad3]
      · simp [bad3]
      · simp only [List.length_cons, List.getD_cons_zero, List.getD_cons_succ, conts]
        rw [if_neg (by omega)]
        by_cases hA : bad3 (t.length + 1 + 1 + 1) x y.toNat z.toNat
        · simp only [if_pos hA, if_true]
          by_cases hy : 128 ≤ y.toNat ∧ y.toNat < 192
          · by_cases hz : 128 ≤ z.toNat ∧ z.toNat < 192
            · simp only [if_pos hy, if_pos hz]
              unfold bad3 Cn at hA
              rw [show utfOk 3 (((x - 224) * 64 + y.toNat - 128) * 64 + z.toNat - 128) = false from decide_eq_false (by omega)]; rfl
            · simp only [if_pos hy, if_neg hz]
          · simp only [if_neg hy]
        · simp only [if_neg hA]
          unfold bad3 Cn at hA
          simp only [if_pos (show 128 ≤ y.toNat ∧ y.toNat < 192 by omega), if_pos (show 128 ≤ z.toNat ∧ z.toNat < 192 by omega), Nat.reduceEqDiff, if_false]
          rw [show utfOk 3 (((x - 224) * 64 + y.toNat - 128) * 64 + z.toNat - 128) = true from decide_eq_true (by omega)]; rfl
    · have hh : utfHd x = (4, x - 240) := by unfold utfHd; rw [if_pos (by omega)]
      rw [if_neg c4, hh]
      simp only [show 4 - 1 = 3 from rfl]
      rcases t with _ | ⟨y, _ | ⟨z, _ | ⟨w, t⟩⟩⟩
      · simp [bad4]
      · simp [bad4]
      · simp [bad4]
      · simp only [List.length_cons, List.getD_cons_zero, List.getD_cons_succ, conts]
        rw [if_neg (by omega)]
        by_cases hA : bad4 (t.length + 1 + 1 + 1 + 1) x y.toNat z.toNat w.toNat
        · simp only [if_pos hA, if_true]
          by_cases hy : 128 ≤ y.toNat ∧ y.toNat < 192
          · by_cases hz : 128 ≤ z.toNat ∧ z.toNat < 192
            · by_cases hw : 128 ≤ w.toNat ∧ w.toNat < 192
              · simp only [if_pos hy, if_pos hz, if_pos hw]
                unfold bad4 Cn at hA
                rw [show utfOk 4 ((((x - 240) * 64 + y.toNat - 128) * 64 + z.toNat - 128) * 64 + w.toNat - 128) = false from decide_eq_false (by omega)]; rfl
              · simp only [if_pos hy, if_pos hz, if_neg hw]
            · simp only [if_pos hy, if_neg hz]
          · simp only [if_neg hy]
        · simp only [if_neg hA]
          unfold bad4 Cn at hA
          simp only [if_pos (show 128 ≤ y.toNat ∧ y.toNat < 192 by omega), if_pos (show 128 ≤ z.toNat ∧ z.toNat < 192 by omega), if_pos (show 128 ≤ w.toNat ∧ w.toNat < 192 by omega), Nat.reduceEqDiff, if_false]
          rw [show utfOk 4 ((((x - 240) * 64 + y.toNat - 128) * 64 + z.toNat - 128) * 64 + w.toNat - 128) = true from decide_eq_true (by omega)]; rfl
theorem utf_valid : ∀ (f : Nat) (l : List UInt8), l.length ≤ f → utfS f l = Lib.validD l
  | _, [], _ => by simp [utfS, Lib.validD_nil]
  | 0, _ :: _, h => by simp at h
  | f + 1, b :: t, h => by
    rw [utf_step, Lib.validD_step _ (by simp), Lib.decodeL_N]
    simp only [List.length_cons, List.getD_cons_zero, List.getD_cons_succ]
    rcases utfN_decode (t.length + 1) b.toNat (t.getD 0 0).toNat (t.getD 1 0).toNat (t.getD 2 0).toNat b.toNat_lt (t.getD 0 0).toNat_lt (t.getD 1 0).toNat_lt (t.getD 2 0).toNat_lt with ⟨h1, h2⟩ | ⟨h1, h2, h3⟩
    · rw [h1, h2]; simp
    · rw [if_neg (by omega), if_neg h3, h2]
      refine utf_valid f _ ?_
      rw [List.length_drop]
      simp only [List.length_cons] at h ⊢
      omega
end Go.Proofs.YtffnflplocbpiaaGreatDoor.Av
