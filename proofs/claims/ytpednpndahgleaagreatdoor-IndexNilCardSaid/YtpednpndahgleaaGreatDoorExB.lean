/- The reckoning of an operation does what the operation does, with other blocks ahead as well. No program in sight. -/
import Derived.Test.YtpednpndahgleaaGreatDoorExA
set_option linter.unusedSimpArgs false
set_option linter.unusedVariables false
namespace Go.Proofs.YtpednpndahgleaaGreatDoor.Av
open Go
set_option maxHeartbeats 4000000

theorem condEl_ok {L : List Blk} {sz : Nat} {a : AV} {c : Prop} {l : List AV} {n : Nat} (h : elems L sz a = some (c, l, n)) (hc : condEl L sz a = true) : c := by
  cases a <;> simp only [elems, condEl, reduceCtorEq, Option.some.injEq, Prod.mk.injEq] at h hc
  case nilsl => rw [← h.1]; trivial
  case sl => rw [← h.1]; simpa using hc
  case gsl => rw [← h.1]; simpa using hc
  case str =>
    split at h
    · simp only [Option.some.injEq, Prod.mk.injEq] at h
      rw [← h.1]; trivial
    · cases h
  case lsl i off n cp s =>
    split at h <;> try (cases h; done)
    rename_i m hm
    rw [hm] at hc
    simp only [Option.some.injEq, Prod.mk.injEq] at h
    rw [← h.1]
    simpa using hc

theorem condBin_ok {op : BinOp} {x y v : AV} {c : Prop} (h : bin op x y = some (c, v)) (hc : condBin op x y = true) : c := by
  unfold bin at h
  split at h
  · simp only [Option.some.injEq, Prod.mk.injEq] at h; obtain ⟨rfl, _⟩ := h; simpa [condBin] using hc
  · simp only [Option.some.injEq, Prod.mk.injEq] at h; obtain ⟨rfl, _⟩ := h; simpa [condBin] using hc
  · rename_i k a k' b _ _
    split at h
    · unfold binI at h
      split at h <;> simp only [Option.some.injEq, Prod.mk.injEq, reduceCtorEq] at h <;> (try obtain ⟨rfl, _⟩ := h) <;> first | trivial | simpa [condBin] using hc
    · cases h
  · unfold binS at h
    split at h <;> simp only [Option.some.injEq, Prod.mk.injEq, reduceCtorEq] at h <;> (try obtain ⟨rfl, _⟩ := h) <;> first | trivial | simpa [condBin] using hc
  · cases h

theorem condApp_ok {own sz bytes : Nat} {L L' : List Blk} {a b v : AV} {c : Prop} (h : app own sz bytes L a b = some (c, v, L')) (hc : condApp own sz bytes L a b = true) : c := by
  unfold app at h
  unfold condApp at hc
  cases he : elems L sz b with
  | none => rw [he] at h; simp at h
  | some r =>
    obtain ⟨c0, new, n⟩ := r
    rw [he] at h hc
    simp only [Bool.and_eq_true] at hc
    obtain ⟨hel, hc⟩ := hc
    have hc0 := condEl_ok he hel
    cases a <;> simp only [reduceCtorEq] at h hc
    case sl l m k =>
      cases k <;> simp only [reduceCtorEq] at h hc
      rename_i k
      split at h
      · rename_i e; rw [if_pos e] at hc
        simp only [Option.some.injEq, Prod.mk.injEq] at h; obtain ⟨rfl, _⟩ := h
        simp only [decide_eq_true_eq] at hc; exact ⟨hc0, hc⟩
      · rename_i e; rw [if_neg e] at hc
        split at h
        · rename_i e2; rw [if_pos e2] at hc
          split at h
          · rename_i e3; rw [if_pos e3] at hc
            simp only [Option.some.injEq, Prod.mk.injEq] at h; obtain ⟨rfl, _⟩ := h
            simp only [decide_eq_true_eq] at hc; exact ⟨hc0, hc⟩
          · rename_i e3; rw [if_neg e3] at hc
            simp only [Option.some.injEq, Prod.mk.injEq] at h; obtain ⟨rfl, _⟩ := h
            simp only [decide_eq_true_eq] at hc; exact ⟨hc0, hc⟩
        · rename_i e2; rw [if_neg e2] at hc
          simp only [Option.some.injEq, Prod.mk.injEq] at h; obtain ⟨rfl, _⟩ := h
          simp only [decide_eq_true_eq] at hc; exact ⟨hc0, hc⟩
    case gsl l m i s =>
      split at h <;> try (cases h; done)
      rename_i m' s' hk
      rw [hk] at hc
      simp only [Option.some.injEq, Prod.mk.injEq] at h; obtain ⟨rfl, _⟩ := h
      simp only [Bool.and_eq_true, decide_eq_true_eq] at hc
      exact ⟨hc0, hc.1, hc.2⟩
    case lsl i off m cp s =>
      split at h <;> try (cases h; done)
      rename_i l hk
      rw [hk] at hc
      split at h <;> try (cases h; done)
      simp only [Option.some.injEq, Prod.mk.injEq] at h; obtain ⟨rfl, _⟩ := h
      simp only [Bool.and_eq_true, decide_eq_true_eq] at hc
      exact ⟨hc0, hc.1, hc.2⟩

theorem condE_ok {T : Tm} {L L' : List Blk} {lo : LOp} {c : Prop} {v : AV} (h : evalOp T L lo = some (c, v, L')) (hc : condE T L lo = true) : c := by
  cases lo
  case bin op x y =>
    simp only [evalOp, condE] at h hc
    cases hx : evX T x <;> cases hy : evX T y <;> rw [hx, hy] at h hc <;> simp only [reduceCtorEq, Option.map_eq_some_iff, Prod.mk.injEq] at h
    obtain ⟨⟨c1, v1⟩, h1, rfl, _⟩ := h
    exact condBin_ok h1 hc
  case app own sz bytes z a b =>
    simp only [evalOp, condE] at h hc
    cases hx : evX T a <;> cases hy : evX T b <;> rw [hx, hy] at h hc <;> simp only [reduceCtorEq] at h
    exact condApp_ok h hc
  case b2s x =>
    simp only [evalOp, condE] at h hc
    cases hx : evX T x with
    | none => rw [hx] at h; cases h
    | some v0 =>
    rw [hx] at h hc
    have h' : (match elems L 1 v0 with | some (c, l, _) => some (c ∧ l.all isU8 = true, AV.str (l.map u8of), L) | none => none) = some (c, v, L') := by
      cases v0 <;> first | exact h | cases h
    clear h
    have h := h'
    split at h <;> try (cases h; done)
    rename_i c0 l n he
    simp only [he] at hc
    simp only [Option.some.injEq, Prod.mk.injEq] at h; obtain ⟨rfl, _⟩ := h
    simp only [Bool.and_eq_true] at hc
    exact ⟨condEl_ok he hc.1, hc.2⟩
  case copy sz a b =>
    simp only [evalOp, condE] at h hc
    cases hy : evX T b with
    | none => rw [hy] at h; simp at h
    | some b' =>
      rw [hy] at h hc
      simp only [Option.bind_some] at h
      split at h <;> try (cases h; done)
      · rename_i c0 l n hx he
        rw [hx] at hc
        simp only [Option.some.injEq, Prod.mk.injEq] at h; obtain ⟨rfl, _⟩ := h
        exact condEl_ok he hc
      · rename_i i off m cp s c0 new n hx he
        rw [hx] at hc
        simp only [he] at hc
        split at h <;> try (cases h; done)
        rename_i l hk
        rw [hk] at hc
        split at h <;> try (cases h; done)
        simp only [Option.some.injEq, Prod.mk.injEq] at h; obtain ⟨rfl, _⟩ := h
        simp only [Bool.and_eq_true, decide_eq_true_eq] at hc
        exact ⟨condEl_ok he hc.1.1, hc.1.2, hc.2⟩
  case slV sz x lo hi mx =>
    simp only [evalOp, condE] at h hc
    split at h
    all_goals first
      | (cases h; done)
      | skip
    case h_1 h1 h2 h3 h4 =>
      rw [h1, h2, h3, h4] at hc
      simp only [Option.some.injEq, Prod.mk.injEq] at h
      rw [← h.1]; exact of_decide_eq_true hc
    case h_2 h1 h2 h3 h4 =>
      rw [h1, h2, h3, h4] at hc
      simp only [Option.some.injEq, Prod.mk.injEq] at h
      rw [← h.1]; exact of_decide_eq_true hc
    case h_3 h1 h2 h3 h4 =>
      rw [h1, h2, h3, h4] at hc
      simp only [Option.some.injEq, Prod.mk.injEq] at h
      rw [← h.1]; exact of_decide_eq_true hc
    case h_4 h1 h2 h3 h4 =>
      rw [h1, h2, h3, h4] at hc
      simp only [Option.some.injEq, Prod.mk.injEq] at h
      rw [← h.1]; exact of_decide_eq_true hc
    case h_5 l n i s lo' hi' h1 h2 h3 h4 =>
      rw [h1, h2, h3, h4] at hc
      simp only [Option.some.injEq, Prod.mk.injEq] at h
      rw [← h.1]; cases hi' <;> exact of_decide_eq_true hc
    case h_6 h1 h2 h3 h4 =>
      rw [h1, h2, h3, h4] at hc
      split at h
      · simp only [Option.some.injEq, Prod.mk.injEq] at h
        rw [← h.1]; exact of_decide_eq_true hc
      · cases h
  case len str x =>
    cases str <;> simp only [evalOp] at h <;> (repeat' split at h) <;> first
      | (cases h; done)
      | (simp only [Option.some.injEq, Prod.mk.injEq] at h; rw [← h.1]; trivial)
  case minmax mx xs =>
    rcases xs with _ | ⟨x, _ | ⟨y, _ | ⟨z, l⟩⟩⟩ <;> simp only [evalOp, reduceCtorEq] at h
    repeat' split at h
    all_goals first
      | (cases h; done)
      | (simp only [Option.some.injEq, Prod.mk.injEq] at h; rw [← h.1]; trivial)
  all_goals
    simp only [evalOp, condE] at h hc
    repeat' split at h
    all_goals first
      | (cases h; done)
      | (simp only [Option.some.injEq, Prod.mk.injEq, Option.map_eq_some_iff] at h
         first
           | (obtain ⟨rfl, _⟩ := h; trivial)
           | (obtain ⟨_, _, rfl, _⟩ := h; trivial)
           | (obtain ⟨rfl, _⟩ := h; simp_all; done)
           | (obtain ⟨rfl, _⟩ := h; simp_all; omega))
      | skip

theorem evalE_ok {T : Tm} {L L' : List Blk} {lo : LOp} {v : AV} (h : evalE T L lo = some (v, L')) : ∃ c, evalOp T L lo = some (c, v, L') ∧ c := by
  unfold evalE at h
  split at h
  · rename_i c u L1 he
    split at h
    · rename_i hc
      simp only [Option.some.injEq, Prod.mk.injEq] at h
      obtain ⟨rfl, rfl⟩ := h
      exact ⟨c, he, condE_ok he hc⟩
    · cases h
  · cases h

theorem quiet_ok {T : Tm} {L L' : List Blk} {lo : LOp} {c : Prop} {v : AV} (hq : lo.effB = false) (h : evalOp T L lo = some (c, v, L')) : L' = L := by
  cases lo <;> simp only [LOp.effB, Bool.true_eq_false] at hq
  case len str x =>
    cases str <;> simp only [evalOp] at h <;> (repeat' split at h) <;> first
      | (cases h; done)
      | (simp only [Option.some.injEq, Prod.mk.injEq] at h; exact h.2.2.symm)
  case minmax mx xs =>
    rcases xs with _ | ⟨x, _ | ⟨y, _ | ⟨z, l⟩⟩⟩ <;> simp only [evalOp, reduceCtorEq] at h
    repeat' split at h
    all_goals first
      | (cases h; done)
      | (simp only [Option.some.injEq, Prod.mk.injEq] at h; exact h.2.2.symm)
  all_goals
    simp only [evalOp] at h
    repeat' split at h
    all_goals first
      | (cases h; done)
      | (simp only [Option.some.injEq, Prod.mk.injEq, Option.map_eq_some_iff] at h
         first
           | exact h.2.2.symm
           | (obtain ⟨_, _, _, _, rfl⟩ := h; rfl)
           | (simp_all; done))
      | skip

end Go.Proofs.YtpednpndahgleaaGreatDoor.Av
