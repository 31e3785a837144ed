/- Syntaxes: the order is one. No program in sight. -/
import Derived.Test.YtffnflplocbpiaaGreatDoorQS1
set_option linter.unusedSimpArgs false
set_option linter.unusedVariables false
namespace Go.Proofs.YtffnflplocbpiaaGreatDoor.Av
open Go

theorem cmpB_eq : ∀ a b : List UInt8, Lib.compareBytes a b = if a < b then -1 else if b < a then 1 else 0
  | [], [] => by simp [Lib.compareBytes]
  | [], b :: bs => by simp [Lib.compareBytes]
  | a :: xs, [] => by simp [Lib.compareBytes]
  | a :: xs, b :: bs => by
    rw [Lib.compareBytes, cmpB_eq xs bs]
    simp only [List.cons_lt_cons_iff]
    by_cases h1 : a < b
    · rw [if_pos h1, if_pos (.inl h1)]
    · rw [if_neg h1]
      by_cases h2 : b < a
      · rw [if_pos h2, if_neg, if_pos (.inl h2)]
        rintro (e | ⟨e, _⟩)
        · exact h1 e
        · subst e; exact h1 h2
      · rw [if_neg h2]
        have e : a = b := by
          rcases Nat.lt_trichotomy a.toNat b.toNat with h | h | h
          · exact absurd h h1
          · exact UInt8.toNat_inj.1 h
          · exact absurd h h2
        subst e
        simp
/-- What a comparison says, of an order. -/
theorem cmp_ok {α : Type} {lt : α → α → Prop} [DecidableRel lt] (irr : ∀ a, ¬ lt a a) (tr : ∀ a b c, lt a b → lt b c → lt a c) (tri : ∀ a b, ¬ lt a b → ¬ lt b a → a = b) (cmp : α → α → Int) (hc : ∀ a b, cmp a b = if lt a b then -1 else if lt b a then 1 else 0) (a b c : α) :
    cmp b a = - cmp a b ∧ (cmp a b = 0 ↔ a = b) ∧ (cmp a b ≤ 0 → cmp b c ≤ 0 → cmp a c ≤ 0) ∧ (0 ≤ cmp a b → 0 ≤ cmp b c → 0 ≤ cmp a c) ∧ -1 ≤ cmp a b ∧ cmp a b ≤ 1 := by
  have asym : ∀ a b, lt a b → ¬ lt b a := fun a b h1 h2 => irr a (tr a b a h1 h2)
  have le : ∀ a b, cmp a b ≤ 0 ↔ ¬ lt b a := fun a b => by
    rw [hc]
    by_cases h1 : lt a b
    · simp [h1, asym a b h1]
    · by_cases h2 : lt b a <;> simp [h1, h2]
  have ge : ∀ a b, 0 ≤ cmp a b ↔ ¬ lt a b := fun a b => by
    rw [hc]
    by_cases h1 : lt a b
    · simp [h1]
    · by_cases h2 : lt b a <;> simp [h1, h2]
  have tr2 : ∀ a b c, ¬ lt b a → ¬ lt c b → ¬ lt c a := fun a b c h1 h2 h3 => by
    by_cases h4 : lt a b
    · exact h2 (tr c a b h3 h4)
    · have := tri a b h4 h1
      subst this; exact h2 h3
  refine ⟨?_, ?_, ?_, ?_, ?_, ?_⟩
  · rw [hc, hc]
    by_cases h1 : lt a b
    · simp [h1, asym a b h1]
    · by_cases h2 : lt b a <;> simp [h1, h2]
  · constructor
    · intro h
      exact tri a b ((ge a b).1 (by omega)) ((le a b).1 (by omega))
    · rintro rfl
      rw [hc]; simp [irr]
  · intro h1 h2; exact (le a c).2 (tr2 a b c ((le a b).1 h1) ((le b c).1 h2))
  · intro h1 h2; exact (ge a c).2 (tr2 c b a ((ge b c).1 h2) ((ge a b).1 h1))
  · rw [hc]; split
    · omega
    · split <;> omega
  · rw [hc]; split
    · omega
    · split <;> omega

/-- What a comparison of three says. -/
def CmpOk {α : Type} (cmp : α → α → Int) (a b c : α) : Prop := cmp b a = - cmp a b ∧ (cmp a b = 0 ↔ a = b) ∧ (cmp a b ≤ 0 → cmp b c ≤ 0 → cmp a c ≤ 0) ∧ (0 ≤ cmp a b → 0 ≤ cmp b c → 0 ≤ cmp a c) ∧ -1 ≤ cmp a b ∧ cmp a b ≤ 1
theorem ranks_bytes (a b c : List UInt8) : CmpOk Lib.compareBytes a b c := cmp_ok (lt := fun a b : List UInt8 => a < b) (fun a => List.lt_irrefl a) (fun a b c h1 h2 => List.lt_trans h1 h2) (fun a b h1 h2 => List.le_antisymm (List.not_lt.1 h2) (List.not_lt.1 h1)) Lib.compareBytes cmpB_eq a b c
theorem ranks_int (a b c : Int) : CmpOk cmpI a b c := cmp_ok (lt := fun a b : Int => a < b) (fun a => by omega) (fun a b c h1 h2 => by omega) (fun a b h1 h2 => by omega) cmpI (fun a b => rfl) a b c
theorem numOk_text {x : List UInt8} (h : numOk x = true) : Lib.itoa (numV x) = x := by
  unfold numOk at h
  unfold numV
  split at h
  · rename_i n hn
    rw [hn]
    simpa using h
  · cases h
theorem ranks_syn {syn : Int} {x y z : List UInt8} (hx : syn = 4 → numOk x = true) (hy : syn = 4 → numOk y = true) : CmpOk (cmpS syn) x y z := by
  unfold CmpOk cmpS
  by_cases h4 : syn = 4
  · simp only [if_pos h4]
    obtain ⟨h1, h2, h3⟩ := ranks_int (numV x) (numV y) (numV z)
    refine ⟨h1, ?_, h3⟩
    rw [h2]
    constructor
    · intro e
      rw [← numOk_text (hx h4), ← numOk_text (hy h4), e]
    · rintro rfl; rfl
  · simp only [if_neg h4]
    exact ranks_bytes x y z
theorem ordO_some {syn : Int} {a b : List UInt8} {c : Int} (h : ordO syn a b = some c) : ∃ x y, normO syn a = some x ∧ normO syn b = some y ∧ ¬ (syn = 5 ∨ syn = 6 ∨ syn = 7) ∧ c = cmpS syn x y := by
  unfold ordO at h
  split at h
  · rename_i x y h1 h2
    split at h
    · cases h
    · rename_i h3
      exact ⟨x, y, h1, h2, h3, (Option.some.inj h).symm⟩
  · cases h
theorem ordO_mk {syn : Int} {a b x y : List UInt8} (h1 : normO syn a = some x) (h2 : normO syn b = some y) (h3 : ¬ (syn = 5 ∨ syn = 6 ∨ syn = 7)) : ordO syn a b = some (cmpS syn x y) := by
  unfold ordO
  rw [h1, h2]
  simp only [if_neg h3]
theorem ranks_law {syn : Int} {a b c : List UInt8} {p q : Int} (h1 : ordO syn a b = some p) (h2 : ordO syn b c = some q) :
    ∃ x y r, normO syn a = some x ∧ normO syn b = some y ∧ ordO syn a c = some r ∧ ordO syn b a = some (-p) ∧ (p = 0 ↔ x = y) ∧ (p ≤ 0 → q ≤ 0 → r ≤ 0) ∧ (0 ≤ p → 0 ≤ q → 0 ≤ r) ∧ -1 ≤ p ∧ p ≤ 1 := by
  obtain ⟨x, y, hx, hy, hs, rfl⟩ := ordO_some h1
  obtain ⟨y', z, hy', hz, _, rfl⟩ := ordO_some h2
  rw [hy] at hy'
  cases hy'
  have four : ∀ {v w : List UInt8}, normO syn v = some w → syn = 4 → numOk w = true := fun h e => by
    subst e
    obtain ⟨rfl, h⟩ := normO_four h
    exact h
  obtain ⟨k1, k2, k3, k4, k5, k6⟩ := ranks_syn (z := z) (four hx) (four hy)
  exact ⟨x, y, _, hx, hy, ordO_mk hx hz hs, by rw [ordO_mk hy hx hs, k1], k2, k3, k4, k5, k6⟩
end Go.Proofs.YtffnflplocbpiaaGreatDoor.Av
