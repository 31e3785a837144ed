/- From a row's list to what the walks ask of the tables of unicode/utf8, and of a variable that holds an int, whichever. -/
import Derived.Test.YtffnflplocbpiaaGreatDoorQP5
import Derived.Test.YtffnflplocbpiaaGreatDoorQShelfP
import Derived.Lib.LaidU8T
import Derived.Shelf.Vars
set_option linter.unusedSimpArgs false
set_option linter.unusedVariables false
namespace Go.Proofs.YtffnflplocbpiaaGreatDoor.Av
open Go Go.Lib
set_option maxRecDepth 100000

theorem maxlen_open {W : World} (h : W.ShapedOpen Tryz.prog) : ∀ g ∈ openTab, ∃ z, (EnvW W).mem g 0 = some (.int .i64 z) := fun g hg => by
  simp only [openTab, List.mem_singleton] at hg
  subst hg
  obtain ⟨m, hm⟩ := cell_of_shapedOpen_int (zero := #[.int .i64 0]) (t := 3) h (of_decide_eq_true (by kernel_rfl)) (by kernel_rfl) (by kernel_rfl) (by kernel_rfl) (by kernel_rfl) Tryz.underlying3
  exact ⟨m, by simpa [EnvW] using hm⟩

theorem arr_len {H : Type} {enc : TypeId × Value → H} {P : Program} {w : World} {base : Nat} {sp : Nat → Bool} {held : Bool} {fuel : Nat} {t e : TypeId} {n : Nat} {cs : List Value} {x : DataW H × List MemPlace}
    (ht : P.underlying t = some (.array n e)) (h : DataW.trod enc P w base sp held fuel t cs = some x) : cs.length = P.cellsOf t := by
  cases fuel with
  | zero => simp [DataW.trod] at h
  | succ fuel =>
    simp only [DataW.trod, ht] at h
    split at h
    · assumption
    · cases h
theorem reads_size {P : Program} {W : World} {name : String} {d : DataW Unit} {g : Nat} {t e : TypeId} {n : Nat} (h : VarReads P W name d) (hg : P.globalNamed name = some g) (hty : (P.globals[g]?).map (·.type) = some t) (ht : P.underlying t = some (.array n e)) :
    ∃ cs ty fr, W.heap[g]? = some (.cells cs ty fr) ∧ cs.size = P.cellsOf t := by
  obtain ⟨g', t', cs, fuel, p, hg', hty', hvar, hd⟩ := h
  obtain rfl := Option.some.inj (hg.symm.trans hg')
  obtain rfl := Option.some.inj (hty.symm.trans hty')
  have hl := arr_len ht hd
  simp only [World.var?, hg, Option.bind_some] at hvar
  split at hvar
  · rename_i cs' ty fr he
    exact ⟨cs', ty, fr, he, by rw [Option.some.inj hvar]; simpa using hl⟩
  · cases hvar

theorem u8_extra : U8Extra Tryz.prog Tryz.lays196_ren := { n3 := by kernel_rfl, n4 := by kernel_rfl, y3 := by kernel_rfl, y4 := by kernel_rfl, c5 := by kernel_rfl, c119 := by kernel_rfl, c138 := by kernel_rfl }
theorem u8_types : U8Types Tryz.prog Tryz.lays196_ren := U8Types.of196 Tryz.lays196

theorem vrc_ints {W : World} {g : Nat} {l : List AV} (h : ∀ i a, l[i]? = some a → ∃ k z, a = .int k z ∧ W.cell? ⟨g, i, none⟩ = some (.int k z)) : VRC ⟨(EnvW W).mem, fun _ => none, fun _ => none⟩ l g 0 :=
  VRC.of_get fun i a ha => by
    obtain ⟨k, z, rfl, hc⟩ := h i a ha
    exact ⟨.int k z, by simpa [EnvW] using hc, by simp [VR]⟩
theorem first_ok {W : World} (h3 : VarReads Tryz.prog W "unicode/utf8.first" firstData) (h4 : VarReads Tryz.prog W "unicode/utf8.acceptRanges" acceptData) (l : List AV) (hl : globOf 0 = some l) :
    VRC ⟨(EnvW W).mem, fun _ => none, fun _ => none⟩ l 0 0 ∧ ∃ cs ty fr, W.heap[0]? = some (.cells cs ty fr) ∧ cs.size = l.length := by
  have hT := utf8Tabs_of_readsT u8_types u8_extra h3 h4
  have e : globOf 0 = some ((List.range 256).map fun c => AV.int .u8 (Lib.firstT c : Int)) := by kernel_rfl
  rw [e] at hl
  obtain rfl := Option.some.inj hl
  refine ⟨vrc_ints fun i a ha => ?_, ?_⟩
  · simp only [List.getElem?_map, Option.map_eq_some_iff] at ha
    obtain ⟨c, hc, rfl⟩ := ha
    have hi : i < 256 := by have := (List.getElem?_eq_some_iff.1 hc).1; simpa using this
    have hci : c = i := by
      have := (List.getElem?_eq_some_iff.1 hc).2
      simpa using this.symm
    subst hci
    exact ⟨_, _, rfl, hT.1 c hi⟩
  · obtain ⟨cs, ty, fr, h1, h2⟩ := reads_size h3 u8_extra.n3 u8_extra.y3 u8_types.t119
    exact ⟨cs, ty, fr, h1, by rw [h2, u8_extra.c119]; simp⟩
theorem acc_at : ∀ (n : Nat) (i : Nat) (a : AV), ((List.range n).flatMap fun i => [AV.int .u8 (Lib.accLo i : Int), AV.int .u8 (Lib.accHi i : Int)])[i]? = some a → ∃ j, j < n ∧ ((i = 2 * j ∧ a = .int .u8 (Lib.accLo j : Int)) ∨ (i = 2 * j + 1 ∧ a = .int .u8 (Lib.accHi j : Int)))
  | 0, i, a, h => by simp at h
  | n + 1, i, a, h => by
    have hlen : ∀ n : Nat, ((List.range n).flatMap fun i => [AV.int .u8 (Lib.accLo i : Int), AV.int .u8 (Lib.accHi i : Int)]).length = 2 * n := fun n => by
      induction n with
      | zero => simp
      | succ n ih => rw [List.range_succ, List.flatMap_append, List.length_append, ih]; simp; omega
    rw [List.range_succ, List.flatMap_append] at h
    rcases Nat.lt_or_ge i (2 * n) with hi | hi
    · rw [List.getElem?_append_left (by rw [hlen]; exact hi)] at h
      obtain ⟨j, hj, hh⟩ := acc_at n i a h
      exact ⟨j, by omega, hh⟩
    · rw [List.getElem?_append_right (by rw [hlen]; exact hi), hlen] at h
      refine ⟨n, by omega, ?_⟩
      rcases hk : i - 2 * n with _ | _ | k
      · rw [hk] at h
        simp at h
        exact .inl ⟨by omega, h.symm⟩
      · rw [hk] at h
        simp at h
        exact .inr ⟨by omega, h.symm⟩
      · rw [hk] at h
        simp at h
theorem acc_ok {W : World} (h3 : VarReads Tryz.prog W "unicode/utf8.first" firstData) (h4 : VarReads Tryz.prog W "unicode/utf8.acceptRanges" acceptData) (l : List AV) (hl : globOf 1 = some l) :
    VRC ⟨(EnvW W).mem, fun _ => none, fun _ => none⟩ l 1 0 ∧ ∃ cs ty fr, W.heap[1]? = some (.cells cs ty fr) ∧ cs.size = l.length := by
  have hT := utf8Tabs_of_readsT u8_types u8_extra h3 h4
  have e : globOf 1 = some ((List.range 16).flatMap fun i => [AV.int .u8 (Lib.accLo i : Int), AV.int .u8 (Lib.accHi i : Int)]) := by kernel_rfl
  rw [e] at hl
  obtain rfl := Option.some.inj hl
  refine ⟨vrc_ints fun i a ha => ?_, ?_⟩
  · obtain ⟨j, hj, ⟨rfl, rfl⟩ | ⟨rfl, rfl⟩⟩ := acc_at 16 i a ha
    · exact ⟨_, _, rfl, (hT.2 j hj).1⟩
    · exact ⟨_, _, rfl, (hT.2 j hj).2⟩
  · obtain ⟨cs, ty, fr, h1, h2⟩ := reads_size h4 u8_extra.n4 u8_extra.y4 u8_types.t139
    exact ⟨cs, ty, fr, h1, by rw [h2, show Tryz.prog.cellsOf (Tryz.lays196_ren.t 139) = 32 by kernel_rfl]; rfl⟩
end Go.Proofs.YtffnflplocbpiaaGreatDoor.Av
