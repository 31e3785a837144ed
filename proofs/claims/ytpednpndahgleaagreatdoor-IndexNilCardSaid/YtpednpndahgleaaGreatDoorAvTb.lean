/- From a row's list of tables to what the walks ask of the package-level variables. -/
import Derived.Test.YtpednpndahgleaaGreatDoorAvBr
import Derived.Lib.LaidTab
import Derived.Stop.LaidErr
set_option linter.unusedSimpArgs false
set_option linter.unusedVariables false
namespace Go.Proofs.YtpednpndahgleaaGreatDoor.Av
open Go

theorem tab_ok {P : Program} {W : World} {name : String} {k : IntKind} {zs : List Int} {g : Nat} (h : Lib.TabIs P W name k zs) (hg : P.globalNamed name = some g) :
    VRC ⟨(EnvW W).mem, fun _ => none, fun _ => none⟩ (zs.map (AV.int k)) g 0 ∧ ∃ cs ty fr, W.heap[g]? = some (.cells cs ty fr) ∧ cs.size = (zs.map (AV.int k)).length := by
  refine ⟨VRC.of_get fun i a ha => ?_, ?_⟩
  · obtain ⟨z, hz, rfl⟩ := List.getElem?_map .. ▸ ha |> Option.map_eq_some_iff.1
    have hi := (List.getElem?_eq_some_iff.1 hz).1
    refine ⟨.int k z, ?_, by simp [VR]⟩
    have := h.cell hg i hi
    rw [List.getD_eq_getElem?_getD, hz] at this
    simpa [EnvW] using this
  · simp only [Lib.TabIs, World.var?, hg, Option.bind_some] at h
    split at h
    · rename_i cs ty fr he
      refine ⟨cs, ty, fr, he, ?_⟩
      rw [Option.some.inj h]; simp
    · cases h

theorem sent_ok {P : Program} {W : World} {name : String} {g : Nat} {tp : TypeId} {x : Value} (h : W.var? P name = some #[.iface tp x]) (hg : P.globalNamed name = some g) :
    VRC ⟨(EnvW W).mem, fun _ => none, fun _ => none⟩ [.iface tp .undef] g 0 ∧ ∃ cs ty fr, W.heap[g]? = some (.cells cs ty fr) ∧ cs.size = [AV.iface tp .undef].length := by
  refine ⟨VRC.of_get fun i a ha => ?_, ?_⟩
  · cases i with
    | zero =>
      simp only [List.getElem?_cons_zero, Option.some.injEq] at ha
      subst ha
      have := World.var?_cell hg h 0
      exact ⟨.iface tp x, by simpa [EnvW] using this, by simp [VR]⟩
    | succ i => simp at ha
  · simp only [World.var?, hg, Option.bind_some] at h
    split at h
    · rename_i cs ty fr he
      exact ⟨cs, ty, fr, he, by rw [Option.some.inj h]; rfl⟩
    · cases h

theorem glob_nil {m : Nat → Nat → Option Value} {w : World} : (∀ p ∈ ([] : List (Nat × List AV)), VRC ⟨m, fun _ => none, fun _ => none⟩ p.2 p.1 0 ∧ ∃ cs ty fr, w.heap[p.1]? = some (.cells cs ty fr) ∧ cs.size = p.2.length) := fun _ h => by cases h
theorem glob_cons {m : Nat → Nat → Option Value} {w : World} {g : Nat} {l : List AV} {r : List (Nat × List AV)} (h : VRC ⟨m, fun _ => none, fun _ => none⟩ l g 0 ∧ ∃ cs ty fr, w.heap[g]? = some (.cells cs ty fr) ∧ cs.size = l.length)
    (hr : ∀ p ∈ r, VRC ⟨m, fun _ => none, fun _ => none⟩ p.2 p.1 0 ∧ ∃ cs ty fr, w.heap[p.1]? = some (.cells cs ty fr) ∧ cs.size = p.2.length) :
    ∀ p ∈ (g, l) :: r, VRC ⟨m, fun _ => none, fun _ => none⟩ p.2 p.1 0 ∧ ∃ cs ty fr, w.heap[p.1]? = some (.cells cs ty fr) ∧ cs.size = p.2.length := fun p hp => by
  rcases List.mem_cons.1 hp with rfl | hp
  · exact h
  · exact hr p hp
theorem glob_both {w : World} (h : ∀ p ∈ globTab, VRC ⟨(EnvW w).mem, fun _ => none, fun _ => none⟩ p.2 p.1 0 ∧ ∃ cs ty fr, w.heap[p.1]? = some (.cells cs ty fr) ∧ cs.size = p.2.length) : GlobOk (EnvW w).mem ∧ GszOk w :=
  ⟨fun p hp => (h p hp).1, fun p hp _ => (h p hp).2⟩
end Go.Proofs.YtpednpndahgleaaGreatDoor.Av
