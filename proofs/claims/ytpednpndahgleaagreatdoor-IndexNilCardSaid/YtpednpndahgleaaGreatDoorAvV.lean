/- The call's own blocks, seen more weakly. No program in sight. -/
import Derived.Test.YtpednpndahgleaaGreatDoorAvT
set_option linter.unusedSimpArgs false
set_option linter.unusedVariables false
namespace Go.Proofs.YtpednpndahgleaaGreatDoor.Av
open Go

/-- A block's cells, where rows that grew stay as they are from now on. -/
theorem Rel.frzB {w0 : World} {S0 : Nat → Prop} {E : Env} {L : List Blk} {w : World} (h : Rel w0 S0 E L w) {i : Nat} {c : List AV} (hL : L[i]? = some (.cells c)) : Rel w0 S0 E (L.set i (.cells (AV.frzL c))) w := by
  have hi : i < L.length := (List.getElem?_eq_some_iff.1 hL).1
  have fix : ∀ (j : Nat) (k : Blk), (L.set i (.cells (AV.frzL c)))[j]? = some k → k.live = true → ∃ k', L[j]? = some k' ∧ k'.live = true := fun j k hk hl => by
    rw [List.getElem?_set] at hk
    split at hk
    · rename_i e; subst e; exact ⟨_, hL, rfl⟩
    · exact ⟨k, hk, hl⟩
  have fixs : ∀ (j n sz : Nat), (L.set i (.cells (AV.frzL c)))[j]? = some (.spare n sz) → L[j]? = some (.spare n sz) := fun j n sz hk => by
    rw [List.getElem?_set] at hk
    split at hk
    · cases hk
    · exact hk
  refine ⟨h.mem, fun j k hk => ?_, fun i hi => h.fresh i (by simpa using hi), fun i k c hk hl hc => ?_, fun i j k k' c c' hi li hj lj => ?_,
    fun i hi => h.tkfresh i (by simpa using hi), fun i n sz t d hi => h.tkown i n sz t d (fixs i n sz hi), fun i n sz t d j k' c' hi ht hd hj hl => ?_,
    fun i n sz t d i' n' sz' t' d' hi ht hd hi' => h.tkinj i n sz t d i' n' sz' t' d' (fixs i n sz hi) ht hd (fixs i' n' sz' hi'), h.frame, h.size, h.os, h.tape, h.output, h.glob, h.gsz⟩
  · rw [List.getElem?_set] at hk
    split at hk
    · rename_i e; subst e
      cases hk
      obtain ⟨cl, cs, ty, fr, g1, g2, g3, g4, g5, g6⟩ := h.blk _ _ hL
      refine ⟨cl, cs, ty, fr, g1, g2, g3, by rw [AV.frzL_eq]; simpa using g4, fun j a ha => ?_, g6⟩
      rw [AV.frzL_eq, List.getElem?_map, Option.map_eq_some_iff] at ha
      obtain ⟨b, hb, rfl⟩ := ha
      obtain ⟨v, h1, h2⟩ := g5 j b hb
      exact ⟨v, h1, VR.frz _ _ h2⟩
    · exact h.blk j k hk
  · obtain ⟨k', h1, h2⟩ := fix i k hk hl
    exact h.own i k' c h1 h2 hc
  · obtain ⟨k1, h1, h2⟩ := fix i k hi li
    obtain ⟨k2, h3, h4⟩ := fix j k' hj lj
    exact h.inj i j k1 k2 c c' h1 h2 h3 h4
  · obtain ⟨k1, h1, h2⟩ := fix j k' hj hl
    exact h.tkloc i n sz t d j k1 c' (fixs i n sz hi) ht hd h1 h2

theorem AW_frzB {P : Program} {N : Nat} {own : Nat → Nat → Nat} {Q : Exit → Tm → List Blk → Prop} {T : Tm} {L : List Blk} {lc : LCode} (i : Nat) {c : List AV} (hL : L[i]? = some (.cells c)) (h : AW P N own lc Q T (L.set i (.cells (AV.frzL c)))) : AW P N own lc Q T L := fun cd hc w0 S0 E a w hst =>
  h cd hc w0 S0 E a w ⟨hst.1.frzB hL, hst.2⟩

/-- A call, its rows that grew seen as rows that stay. -/
theorem ACall_frz {P : Program} {f : FuncId} {args : List AV} {L : List Blk} {K : AV → List Blk → Prop} (h : ACall P f (AV.frzL args) L K) : ACall P f args L K := fun w0 S0 E w vs hR hv =>
  h w0 S0 E w vs hR (VRL.frz _ _ hv)

end Go.Proofs.YtpednpndahgleaaGreatDoor.Av
