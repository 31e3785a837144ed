/- Numbers as texts: plain laws. No program in sight. -/
import Derived.Lib.ItoaNum
import Derived.Lib.ParseIntB
set_option linter.unusedSimpArgs false
set_option linter.unusedVariables false
namespace Go.Proofs.YtpednpndahgleaaGreatDoor.Av
open Go

theorem u8n {n : Nat} (h : n < 256) : (UInt8.ofNat n).toNat = n := by
  simp only [UInt8.toNat_ofNat']
  exact Nat.mod_eq_of_lt h

theorem dec_head : ∀ (u : Nat), ∃ c r, Lib.decDigits u = c :: r ∧ 48 ≤ c.toNat ∧ c.toNat ≤ 57 ∧ (c.toNat = 48 → u = 0) := by
  intro u
  induction u using Nat.strongRecOn with
  | _ u ih =>
    by_cases h10 : u < 10
    · refine ⟨UInt8.ofNat (48 + u), [], by rw [Lib.decDigits, dif_pos h10], ?_⟩
      rw [u8n (by omega)]
      omega
    · obtain ⟨c, r, e, h1, h2, h3⟩ := ih (u / 10) (by omega)
      exact ⟨c, r ++ [UInt8.ofNat (48 + u % 10)], by rw [Lib.decDigits, dif_neg h10, e]; rfl, h1, h2, fun h => by have := h3 h; omega⟩

theorem parse_dec (t : List UInt8) : ∀ (u : Nat), u ≤ 18446744073709551615 → Lib.parseUintM 18446744073709551615 0 (Lib.decDigits u ++ t) = Lib.parseUintM 18446744073709551615 u t := by
  intro u
  induction u using Nat.strongRecOn generalizing t with
  | _ u ih =>
    intro hu
    by_cases h10 : u < 10
    · rw [Lib.decDigits, dif_pos h10]
      simp only [List.cons_append, List.nil_append]
      rw [Lib.parseUintM, u8n (by omega), if_pos (by omega), if_neg (by omega), if_neg (by omega)]
      congr 1; omega
    · rw [Lib.decDigits, dif_neg h10, List.append_assoc, ih (u / 10) (by omega) _ (by omega)]
      simp only [List.cons_append, List.nil_append]
      rw [Lib.parseUintM, u8n (by omega), if_pos (by omega), if_neg (by omega), if_neg (by omega)]
      congr 1; omega

theorem parse_dec0 {u : Nat} (hu : u ≤ 18446744073709551615) : Lib.parseUintB 64 (Lib.decDigits u) = .ok u := by
  obtain ⟨c, r, e, _⟩ := dec_head u
  unfold Lib.parseUintB
  rw [if_neg (by rw [e]; simp)]
  have := parse_dec [] u hu
  rw [List.append_nil] at this
  exact this

/-- Is an int64. -/
def I64 (m : Int) : Prop := -9223372036854775808 ≤ m ∧ m ≤ 9223372036854775807

theorem parse_itoa {m : Int} (hm : I64 m) : Lib.parseIntB 64 (Lib.itoa m) = .ok m := by
  obtain ⟨h0, h1⟩ := hm
  unfold Lib.itoa
  by_cases hn : m < 0
  · rw [if_pos hn]
    simp only [Lib.parseIntB]
    have e45 : (45 : UInt8).toNat = 45 := rfl
    rw [if_pos (.inr e45), parse_dec0 (by omega)]
    simp only [e45]
    simp only [not_true_eq_false, false_and, if_false, true_and, if_true]
    rw [if_neg (by omega)]
    congr 1; omega
  · rw [if_neg hn]
    obtain ⟨c, r, e, h2, h3, _⟩ := dec_head m.toNat
    have hp := parse_dec0 (u := m.toNat) (by omega)
    rw [e] at hp ⊢
    simp only [Lib.parseIntB]
    rw [if_neg (by omega), hp]
    simp only
    rw [if_neg (by omega), if_neg (by omega), if_neg (by omega)]
    congr 1; omega

theorem itoa_cons (m : Int) : ∃ c r, Lib.itoa m = c :: r ∧ (c.toNat = 45 ∨ 48 ≤ c.toNat ∧ c.toNat ≤ 57) ∧ (c.toNat = 48 → r = []) := by
  unfold Lib.itoa
  by_cases hn : m < 0
  · rw [if_pos hn]
    exact ⟨45, _, rfl, .inl rfl, fun h => by simp at h⟩
  · rw [if_neg hn]
    obtain ⟨c, r, e, h2, h3, h4⟩ := dec_head m.toNat
    refine ⟨c, r, e, .inr ⟨h2, h3⟩, fun h => ?_⟩
    rw [h4 h, Lib.decDigits, dif_pos (by omega)] at e
    cases e; rfl

theorem itoa_zero {m n : Int} : Lib.itoa n ≠ 48 :: Lib.itoa m := by
  obtain ⟨c, r, e, _, h⟩ := itoa_cons n
  obtain ⟨d, s, e2, _, _⟩ := itoa_cons m
  rw [e, e2]
  intro h2
  simp only [List.cons.injEq] at h2
  obtain ⟨rfl, h3⟩ := h2
  rw [h rfl] at h3
  cases h3
theorem itoa_plus {m n : Int} : Lib.itoa n ≠ 43 :: Lib.itoa m := by
  obtain ⟨c, r, e, h1, h⟩ := itoa_cons n
  rw [e]
  intro h2
  simp only [List.cons.injEq] at h2
  obtain ⟨rfl, h3⟩ := h2
  have : (43 : UInt8).toNat = 43 := rfl
  omega

theorem nDigits_le : ∀ (k u : Nat), u < 10 ^ (k + 1) → Lib.nDigits u ≤ k + 1
  | 0, u, h => by rw [Lib.nDigits_small (by simpa using h)]; exact Nat.le_refl _
  | k + 1, u, h => by
    by_cases h10 : u < 10
    · rw [Lib.nDigits_small h10]; omega
    · rw [Lib.nDigits_big h10]
      have := nDigits_le k (u / 10) (by rw [Nat.pow_succ] at h; omega)
      omega
theorem itoa_short {m : Int} (hm : I64 m) : (Lib.itoa m).length ≤ 20 := by
  obtain ⟨h0, h1⟩ := hm
  unfold Lib.itoa
  by_cases hn : m < 0
  · rw [if_pos hn, List.length_cons, Lib.decDigits_length]
    have := nDigits_le 18 m.natAbs (by omega)
    omega
  · rw [if_neg hn, Lib.decDigits_length]
    have := nDigits_le 18 m.toNat (by omega)
    omega

theorem parse_range {l : List UInt8} {v : Int} (h : Lib.parseIntB 64 l = .ok v) : I64 v := by
  unfold Lib.parseIntB at h
  split at h
  · cases h
  · simp only at h
    split at h
    · cases h
    · cases h
    · rename_i u _
      split at h
      · cases h
      · rename_i h1
        split at h
        · cases h
        · rename_i h2
          cases h
          unfold I64
          by_cases e : (‹UInt8›).toNat = 45
          · simp only [e, true_and, if_true] at h2 ⊢
            omega
          · simp only [e, not_false_eq_true, true_and, if_false] at h1 ⊢
            omega

/-- What a text spells; is it a number as it should stand? -/
def numV (l : List UInt8) : Int := match Lib.parseIntB 64 l with
  | .ok n => n
  | .syntax => 0
  | .range => Lib.intSat 64 l
def numOk (l : List UInt8) : Bool := match Lib.parseIntB 64 l with
  | .ok n => decide (Lib.itoa n = l)
  | _ => false

theorem num_itoa {m : Int} (hm : I64 m) : numOk (Lib.itoa m) = true ∧ numV (Lib.itoa m) = m := by
  simp [numOk, numV, parse_itoa hm]
theorem num_zero (m : Int) : numOk (48 :: Lib.itoa m) = false := by
  unfold numOk
  split
  · simp [itoa_zero]
  · rfl
theorem num_plus (m : Int) : numOk (43 :: Lib.itoa m) = false := by
  unfold numOk
  split
  · simp [itoa_plus]
  · rfl
theorem itoa_inj {m n : Int} (hm : I64 m) (hn : I64 n) (h : Lib.itoa m = Lib.itoa n) : m = n := by
  have h1 := parse_itoa hm
  rw [h, parse_itoa hn] at h1
  cases h1; rfl

end Go.Proofs.YtpednpndahgleaaGreatDoor.Av
