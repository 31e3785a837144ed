/- Small laws for the reckoning with states. No program in sight. -/
import Derived.Test.YtpednpndahgleaaGreatDoorAvP
set_option linter.unusedSimpArgs false
set_option linter.unusedVariables false
namespace Go.Proofs.YtpednpndahgleaaGreatDoor.Av
open Go

theorem getApp0 {α : Type} (L : List α) (x : α) (l : List α) : (L ++ x :: l)[L.length]? = some x := by simp
theorem getAppK {α : Type} (L l : List α) (k : Nat) : (L ++ l)[L.length + k]? = l[k]? := by
  rw [List.getElem?_append_right (by omega)]; congr 1; omega
theorem setApp0 {α : Type} (L : List α) (x y : α) (l : List α) : (L ++ x :: l).set L.length y = L ++ y :: l := by
  rw [List.set_append_right _ _ (by omega)]; simp
theorem setAppK {α : Type} (L l : List α) (k : Nat) (y : α) : (L ++ l).set (L.length + k) y = L ++ l.set k y := by
  rw [List.set_append_right _ _ (by omega)]; congr 2; omega
theorem appSnoc {α : Type} (L l m : List α) : (L ++ l) ++ m = L ++ (l ++ m) := List.append_assoc _ _ _

theorem wrap64_in {n : Int} (h0 : -9223372036854775808 ≤ n) (h1 : n < 9223372036854775808) : IntKind.i64.wrap n = n := by
  simp only [IntKind.wrap, IntKind.bits, IntKind.signed]; simp; omega
theorem wrapU8_in {n : Int} (h0 : 0 ≤ n) (h1 : n < 256) : IntKind.u8.wrap n = n := by
  simp only [IntKind.wrap, IntKind.bits, IntKind.signed]; simp; omega
theorem wrapU64_in {n : Int} (h0 : 0 ≤ n) (h1 : n < 18446744073709551616) : IntKind.u64.wrap n = n := by
  simp only [IntKind.wrap, IntKind.bits, IntKind.signed]; simp; omega

/-- A statement, and what stands behind it: told apart by what holds between them. -/
theorem AW_cut {P : Program} {N : Nat} {own : Nat → Nat → Nat} {lc : LCode} {Q : Exit → Tm → List Blk → Prop} {T : Tm} {L : List Blk} (R : Exit → Tm → List Blk → Prop) (h : AW P N own lc R T L) (hq : ∀ e T L, R e T L → Q e T L) : AW P N own lc Q T L := h.mono hq

theorem AW_condT {P : Program} {N : Nat} {own : Nat → Nat → Nat} {Q : Exit → Tm → List Blk → Prop} {T : Tm} {L : List Blk} {x : Opd} {y z : LCode} (hx : evX T x = some (.bool true)) (h : AW P N own y Q T L) : AW P N own (.cond x y z) Q T L :=
  AW_cond hx (fun _ => h) (fun e => by cases e)
theorem AW_condF {P : Program} {N : Nat} {own : Nat → Nat → Nat} {Q : Exit → Tm → List Blk → Prop} {T : Tm} {L : List Blk} {x : Opd} {y z : LCode} (hx : evX T x = some (.bool false)) (h : AW P N own z Q T L) : AW P N own (.cond x y z) Q T L :=
  AW_cond hx (fun e => by cases e) (fun _ => h)
theorem AW_normal {P : Program} {N : Nat} {own : Nat → Nat → Nat} {Q : Exit → Tm → List Blk → Prop} {T : Tm} {L : List Blk} (h : Q .normal T L) : AW P N own .skip Q T L := AW_skip h

/-- A list of numbers, as a slice that stays reads. -/
def Ints (v : AV) (xs : List Int) : Prop := (v = .nilsl ∧ xs = []) ∨ ∃ cap, v = .sl (xs.map (AV.int .i64)) xs.length cap

theorem refs_ints {p : Nat → Bool} (xs : List Int) : AV.refsL p (xs.map (AV.int .i64)) = true := AV.refsL_iff.2 fun a ha => by
  obtain ⟨x, _, rfl⟩ := List.mem_map.1 ha
  rfl
theorem Ints.refs {p : Nat → Bool} {v : AV} {xs : List Int} (h : Ints v xs) : v.refs p = true := by
  rcases h with ⟨rfl, _⟩ | ⟨cap, rfl⟩
  · rfl
  · exact refs_ints xs
theorem getD_ints {xs : List Int} {k : Nat} (h : k < xs.length) : (xs.map (AV.int .i64)).getD k .undef = .int .i64 xs[k] := by simp [h]

end Go.Proofs.YtpednpndahgleaaGreatDoor.Av
