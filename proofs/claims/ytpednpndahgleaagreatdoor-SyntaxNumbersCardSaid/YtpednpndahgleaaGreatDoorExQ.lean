/- The bodiless functions of the library that the interpreter is told of; the table. -/
import Derived.Test.YtpednpndahgleaaGreatDoorTanT
import Derived.Test.YtpednpndahgleaaGreatDoorAvLf
import Derived.Test.YtpednpndahgleaaGreatDoorShelf
import Derived.Lib.Bytealg
import Derived.Laws.Externs
set_option linter.unusedSimpArgs false
set_option linter.unusedVariables false
namespace Go.Proofs.YtpednpndahgleaaGreatDoor.Av
open Go

/-- What the bodiless functions come to. -/
def prims (f : FuncId) (args : List AV) : Option AV :=
  match Nat.beq f 106 with
  | true => match args with
    | [.str a, .str b] => some (.int .i64 (Lib.compareBytes a b))
    | _ => none
  | false => match Nat.beq f 140 with
    | true => match args with
      | [.str a, .int .u8 c] => some (.int .i64 (Lib.indexByte a c.toNat.toUInt8))
      | _ => none
    | false => none

theorem prims_ok {f : FuncId} {args : List AV} {v : AV} (h : prims f args = some v) (L : List Blk) : ACall Tryz.prog f args L fun av K => av = v ∧ K = L := by
  unfold prims at h
  split at h
  · rename_i e
    obtain rfl := Nat.eq_of_beq_eq_true e
    split at h
    · rename_i a b
      simp only [Option.some.injEq] at h
      subst h
      intro w0 S0 E w vs hR hv
      simp only [VRL] at hv
      obtain ⟨v1, vs1, rfl, h1, v2, vs2, rfl, h2, rfl⟩ := hv
      simp only [VR] at h1 h2
      subst h1; subst h2
      refine .inr ⟨E, .int .i64 (Lib.compareBytes a b), _, L, w, ?_, .refl E, ⟨rfl, rfl⟩, by simp [VR], hR⟩
      rw [run_callFunc_extern (P := Tryz.prog) (e := Extern.BytealgCompare.compare) Tryz.func106 (by kernel_rfl) (by kernel_rfl) (by rfl) (by rfl)]
      have := Lib.run_compareString (P := Tryz.prog) ⟨⟨a⟩⟩ ⟨⟨b⟩⟩ w
      simp only at this
      rw [show (⟨[Value.string ⟨⟨a⟩⟩, Value.string ⟨⟨b⟩⟩]⟩ : Array Value) = #[Value.string ⟨⟨a⟩⟩, Value.string ⟨⟨b⟩⟩] from rfl, this]
      rfl
    · cases h
  · split at h
    · rename_i e
      obtain rfl := Nat.eq_of_beq_eq_true e
      split at h
      · rename_i a c
        simp only [Option.some.injEq] at h
        subst h
        exact ACall_lift Tryz.func140 rfl (by kernel_rfl) (fun w0 S0 E w vs hR hv => by
          simp only [VRL, VR] at hv
          obtain ⟨_, _, rfl, rfl, _, _, rfl, rfl, rfl⟩ := hv
          exact (Tryz.stringslite_IndexByte ⟨⟨a⟩⟩ c w).mono fun e w' ⟨he, hw⟩ => ⟨_, he, by simp [VR], by subst hw; exact Grew.refl _⟩) ⟨rfl, rfl⟩
      · cases h
    · cases h

/-- Functions that are gone into with the caller's own blocks. -/
def inls (f : FuncId) : Bool := Nat.beq f 79
def xtab : Tab := ⟨ftab.get, inls, prims, 100000⟩
theorem xtab_ok : TabOk Tryz.prog ftab.own xtab := ⟨fun f lf hf => FT.get_ok ftab_ok f lf hf, fun f args v hp _ _ L => prims_ok hp L⟩
end Go.Proofs.YtpednpndahgleaaGreatDoor.Av
