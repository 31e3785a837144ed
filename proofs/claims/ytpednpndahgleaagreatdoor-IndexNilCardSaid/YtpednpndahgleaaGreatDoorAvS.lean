/- Regions over abstract values. No program in sight. -/
import Derived.Test.YtpednpndahgleaaGreatDoorAvN
set_option linter.unusedSimpArgs false
set_option linter.unusedVariables false
namespace Go.Proofs.YtpednpndahgleaaGreatDoor.Av
open Go

section
variable {P : Program} {w0 : World} {S0 : Nat → Prop} {N : Nat}

theorem yielded_look {E : Env} {T : Tm} {a : Act} {ops : Array Oper} {j t : Nat} (hT : TR E T a) (hj : (ops[j]?).bind (·.dst) = some t) (ht : t < a.tmps.size) :
    (∀ x, look T t = some (.bool x) → yielded ops a.tmps j = some x) ∧ (look T t = some (.tup []) → yielded ops a.tmps j = none) := by
  refine ⟨fun x hx => ?_, fun hx => ?_⟩
  · have := hT t _ hx
    simp only [VR] at this
    unfold yielded
    rw [hj]
    simp only [Option.bind_some]
    rw [Array.getElem?_eq_getElem ht]
    rw [Array.getD_eq_getD_getElem?, Array.getElem?_eq_getElem ht] at this
    simp only [Option.getD_some] at this
    rw [this]
  · have := hT t _ hx
    simp only [VR, VRL] at this
    obtain ⟨vs, h1, h2⟩ := this
    subst h2
    unfold yielded
    rw [hj]
    simp only [Option.bind_some]
    rw [Array.getElem?_eq_getElem ht]
    rw [Array.getD_eq_getD_getElem?, Array.getElem?_eq_getElem ht] at h1
    simp only [Option.getD_some] at h1
    rw [h1]

theorem lowOper_spec {own : Nat → Nat} {ops : Array Oper} {i : Nat} {lo : LOper} (h : lowOper P N own ops i = some lo) :
    ∃ o, ops[i]? = some o ∧ (lowOp P (own i) o.op).getD .bad = lo.op ∧ o.dst = lo.dst ∧ (∀ d, o.dst = some d → d < N) ∧
      ((o.guard = none ∧ lo.guard = none) ∨ ∃ j b t, o.guard = some (j, b) ∧ (ops[j]?).bind (·.dst) = some t ∧ t < N ∧ lo.guard = some (t, b)) := by
  unfold lowOper at h
  split at h
  · cases h
  rename_i o ho
  generalize hl : (lowOp P (own i) o.op).getD .bad = lo' at h
  simp only at h
  split at h
  · rename_i hd
    have hd' : ∀ d, o.dst = some d → d < N := fun d e => by rw [e] at hd; simpa [dstOk] using hd
    split at h
    · rename_i hg
      cases h
      exact ⟨o, ho, hl, rfl, hd', .inl ⟨hg, rfl⟩⟩
    · rename_i j b hg
      split at h
      · rename_i t ht
        split at h
        · rename_i hlt
          cases h
          exact ⟨o, ho, hl, rfl, hd', .inr ⟨j, b, t, hg, ht, hlt, rfl⟩⟩
        · cases h
      · cases h
  · cases h

theorem st_skip {E : Env} {T : Tm} {L : List Blk} {a : Act} {w : World} (h : St w0 S0 N E T L a w) {d : Option Nat} (hd : ∀ k, d = some k → k < N) : St w0 S0 N E (putT d (.tup []) T) L (a.put d undef) w :=
  ⟨h.1, h.2.1.putT (fun k hk => by rw [h.2.2.1]; exact hd k hk) ⟨[], rfl, rfl⟩, by rw [put_size]; exact h.2.2.1, by rw [put_defers]; exact h.2.2.2⟩

/-- A region's operations, in the text's order. -/
theorem aops_sound {own : Nat → Nat} {ops : Array Oper} {K : Tm → List Blk → Prop} {Q : Exit → Act → World → Prop} : ∀ (is : List Nat) (los : List LOper), lowOps P N own ops is = some los →
    ∀ {T : Tm} {L : List Blk} {E : Env} {a : Act} {w : World}, St w0 S0 N E T L a w → AOps P K los T L → (∀ E' T' L' a' w', E.le E' → K T' L' → St w0 S0 N E' T' L' a' w' → Q .normal a' w') → wpOps P ops Q is a w
  | [], los, hl, T, L, E, a, w, hst, h, hK => by
    simp [lowOps] at hl; subst hl
    exact hK E T L a w (.refl E) h hst
  | i :: is, los, hl, T, L, E, a, w, hst, h, hK => by
    simp only [lowOps] at hl
    split at hl <;> try cases hl
    rename_i lo los' h1 h2
    obtain ⟨o, ho, hop, hdst, hd, hg⟩ := lowOper_spec h1
    obtain ⟨ld, lop, lg⟩ := lo
    simp only at hop hdst hg
    subst hdst
    simp only [wpOps, ho]
    have go : AOp P ⟨o.dst, lop, lg⟩ (AOps P K los') T L → o.wp P a w (wpOps P ops Q is) Q := fun h' =>
      aop_sound hop hd hst h' fun E' T' L' a' w' hle hk' hst' => aops_sound is los' h2 hst' hk' fun E'' T'' L'' a'' w'' hle' => hK E'' T'' L'' a'' w'' (hle.trans hle')
    have skip : AOps P K los' (putT o.dst (.tup []) T) L → wpOps P ops Q is (a.put o.dst undef) w := fun h' =>
      aops_sound is los' h2 (st_skip hst hd) h' hK
    rcases hg with ⟨g1, g2⟩ | ⟨j, b, t, g1, g2, g3, g4⟩
    · subst g2
      simp only [AOps] at h
      rw [if_pos (by simp [Region.wanted, g1])]
      exact .inl (go h)
    · subst g4
      simp only [AOps] at h
      have hy := yielded_look (E := E) (T := T) (a := a) (ops := ops) hst.2.1 g2 (by rw [hst.2.2.1]; exact g3)
      rcases hx : look T t with _ | u
      · rw [hx] at h; exact h.elim
      rw [hx] at h
      cases u <;> try exact h.elim
      · rename_i x
        rw [Grd_bool] at h
        have := hy.1 x hx
        by_cases e : x = b
        · rw [if_pos (by simp [Region.wanted, g1, this, e])]
          rw [if_pos e] at h
          exact .inl (go h)
        · rw [if_neg (by simp [Region.wanted, g1, this, e])]
          rw [if_neg e] at h
          exact skip h
      · rename_i l
        cases l with
        | cons _ _ => exact h.elim
        | nil =>
          have := hy.2 hx
          rw [if_neg (by simp [Region.wanted, g1, this])]
          exact skip h

theorem St.weak {T : Tm} {L : List Blk} {E : Env} {a : Act} {w : World} {T' : Tm} {L' : List Blk} (h : St w0 S0 N E T L a w) (hT : ∀ t v, look T' t = some v → look T t = some v) (hL : L'.length = L.length)
    (hsub : ∀ (i : Nat) (k : Blk), L'[i]? = some k → k = .dead ∨ L[i]? = some k) : St w0 S0 N E T' L' a w := ⟨h.1.kill hL hsub, h.2.1.weak hT, h.2.2⟩

end
end Go.Proofs.YtpednpndahgleaaGreatDoor.Av
