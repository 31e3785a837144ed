/- The bodiless functions of the library that the interpreter is told of; the table. -/
import Derived.Test.YtpednpndahgleaaGreatDoorTapT
import Derived.Test.YtpednpndahgleaaGreatDoorRisA
import Derived.Test.YtpednpndahgleaaGreatDoorAvLf
import Derived.Test.YtpednpndahgleaaGreatDoorShelfP
import Derived.Lib.Bytealg
import Derived.Laws.Externs
set_option linter.unusedSimpArgs false
set_option linter.unusedVariables false
namespace Go.Proofs.YtpednpndahgleaaGreatDoor.Av
open Go

/-- What the bodiless functions come to. -/
def prims (f : FuncId) (args : List AV) : Option AV :=
  match Nat.beq f 106 with
  | true => match args with
    | [.str a, .str b] => some (.int .i64 (Lib.compareBytes a b))
    | _ => none
  | false => match Nat.beq f 140 with
    | true => match args with
      | [.str a, .int .u8 c] => some (.int .i64 (Lib.indexByte a c.toNat.toUInt8))
      | _ => none
    | false => match Nat.beq f 87 with
      | true => match args with
        | [.sl [] 0 _] => some (.sl [] 0 none)
        | _ => none
      | false => none

theorem clone_empty {c : Option Nat} {L : List Blk} {K : AV → List Blk → Prop} (h : K (.sl [] 0 none) L) : ACall Tryz.prog 87 [.sl [] 0 c] L K := by
  refine ACall_new Tryz.func87 rfl (by kernel_rfl) (fun w0 S0 E w vs hR hv => ?_) h
  simp only [VRL, VR] at hv
  obtain ⟨_, _, rfl, ⟨p, cp, rfl, _, _, _⟩, rfl⟩ := hv
  cases p with
  | none =>
    refine (Tryz.slices_Clone_int_nil 0 cp w).mono ?_
    rintro e w' ⟨rfl, rfl⟩
    refine ⟨_, rfl, Grew.refl _, fun E' hE hnew => ?_⟩
    simp only [VR]
    exact ⟨none, 0, rfl, Nat.le_refl _, (fun k hk => by cases hk), .inl (by simp)⟩
  | some a =>
    refine (Tryz.slices_Clone_int_zero a cp w).mono ?_
    rintro e w' ⟨v, rfl, hrow, _, hbel⟩
    refine ⟨v, rfl, ⟨fun b hb => hbel.block b hb, hbel.size, hbel.os, hbel.tape, hbel.output⟩, fun E' hE hnew => ?_⟩
    simp only [VR]
    rcases hrow.2 with ⟨rfl, _⟩ | ⟨g, cap, cur, rfl, _⟩
    · exact ⟨none, 0, rfl, Nat.le_refl _, (fun k hk => by cases hk), .inl (by simp)⟩
    · exact ⟨_, cap, rfl, Nat.zero_le _, (fun k hk => by cases hk), .inr ⟨g, 0, rfl, by simp [VRC]⟩⟩

theorem prims_ok {f : FuncId} {args : List AV} {v : AV} (h : prims f args = some v) (L : List Blk) : ACall Tryz.prog f args L fun av K => av = v ∧ K = L := by
  unfold prims at h
  split at h
  · rename_i e
    obtain rfl := Nat.eq_of_beq_eq_true e
    split at h
    · rename_i a b
      simp only [Option.some.injEq] at h
      subst h
      intro w0 S0 E w vs hR hv
      simp only [VRL] at hv
      obtain ⟨v1, vs1, rfl, h1, v2, vs2, rfl, h2, rfl⟩ := hv
      simp only [VR] at h1 h2
      subst h1; subst h2
      refine .inr ⟨E, .int .i64 (Lib.compareBytes a b), _, L, w, ?_, .refl E, ⟨rfl, rfl⟩, by simp [VR], hR⟩
      rw [run_callFunc_extern (P := Tryz.prog) (e := Extern.BytealgCompare.compare) Tryz.func106 (by kernel_rfl) (by kernel_rfl) (by rfl) (by rfl)]
      have := Lib.run_compareString (P := Tryz.prog) ⟨⟨a⟩⟩ ⟨⟨b⟩⟩ w
      simp only at this
      rw [show (⟨[Value.string ⟨⟨a⟩⟩, Value.string ⟨⟨b⟩⟩]⟩ : Array Value) = #[Value.string ⟨⟨a⟩⟩, Value.string ⟨⟨b⟩⟩] from rfl, this]
      rfl
    · cases h
  · split at h
    · rename_i e
      obtain rfl := Nat.eq_of_beq_eq_true e
      split at h
      · rename_i a c
        simp only [Option.some.injEq] at h
        subst h
        exact ACall_lift Tryz.func140 rfl (by kernel_rfl) (fun w0 S0 E w vs hR hv => by
          simp only [VRL, VR] at hv
          obtain ⟨_, _, rfl, rfl, _, _, rfl, rfl, rfl⟩ := hv
          exact (Tryz.stringslite_IndexByte ⟨⟨a⟩⟩ c w).mono fun e w' ⟨he, hw⟩ => ⟨_, he, by simp [VR], by subst hw; exact Grew.refl _⟩) ⟨rfl, rfl⟩
      · cases h
    · split at h
      · rename_i e
        obtain rfl := Nat.eq_of_beq_eq_true e
        split at h
        · simp only [Option.some.injEq] at h
          subst h
          exact clone_empty ⟨rfl, rfl⟩
        · cases h
      · cases h

/-- What some functions come to that look at the caller's blocks. -/
def primsL (f : FuncId) (args : List AV) (L : List Blk) : Option (AV × List Blk) :=
  match Nat.beq f 47 with
  | true => match args with
    | [.nilmap] => some (.sl [] 0 (some 0), L)
    | [.lmap i] => match L[i]? with
      | some (.map es ck) => match mkeysI es with
        | some ks => match mapFine es ck ks with
          | true => some (.sl ((isortI ks).map (AV.int .i64)) ks.length none, L)
          | false => none
        | none => none
      | _ => none
    | _ => none
  | false => none

theorem mkeysI_sh (B : Nat) : ∀ es : List (AV × AV × Nat), mkeysI (shE B es) = mkeysI es
  | [] => rfl
  | (q, x, b) :: es => by
    have ih := mkeysI_sh B es
    simp only [shE, List.map_cons] at ih ⊢
    cases q <;> try rfl
    rename_i kd k
    cases kd <;> first | rfl | (simp only [AV.sh, AV.ren, mkeysI, ih])
theorem mapFine_sh (B : Nat) (es : List (AV × AV × Nat)) (ck : Nat) (ks : List Int) : mapFine (shE B es) ck ks = mapFine es ck ks := by
  simp only [mapFine, shE, List.map_map, Function.comp_def, List.all_map, List.length_map]
theorem ints_closed (B : Nat) : ∀ l : List Int, AV.renL (sf B) (l.map (AV.int .i64)) = l.map (AV.int .i64)
  | [] => rfl
  | x :: l => by simp only [List.map_cons, AV.renL, AV.ren, ints_closed B l]
theorem onto_at {L0 L : List Blk} {i : Nat} {k : Blk} (h : L[i]? = some k) : (onto L0 L)[sf L0.length i]? = some (k.sh L0.length) := by
  simp only [onto, sf]
  rw [List.getElem?_append_right (by omega), Nat.add_sub_cancel, List.getElem?_map, h]; rfl
theorem primsL_ok {f : FuncId} {args : List AV} {L L' : List Blk} {v : AV} (h : primsL f args L = some (v, L')) (L0 : List Blk) : ACall Tryz.prog f (shL L0.length args) (onto L0 L) fun av K => av = v.sh L0.length ∧ K = onto L0 L' := by
  unfold primsL at h
  split at h
  · rename_i e
    obtain rfl := Nat.eq_of_beq_eq_true e
    split at h
    · simp only [Option.some.injEq, Prod.mk.injEq] at h
      obtain ⟨rfl, rfl⟩ := h
      exact rising_nil ⟨rfl, rfl⟩
    · split at h
      · rename_i i es ck hi
        split at h
        · rename_i ks hks
          split at h
          · rename_i hf
            simp only [Option.some.injEq, Prod.mk.injEq] at h
            obtain ⟨rfl, rfl⟩ := h
            refine rising_k (es := shE L0.length es) (ck := ck) (ks := ks) (onto_at hi) (by rw [mkeysI_sh]; exact hks) (by rw [mapFine_sh]; exact hf) ⟨?_, rfl⟩
            simp only [AV.sh, AV.ren, ints_closed]
          · cases h
        · cases h
      · cases h
    · cases h
  · cases h

/-- Functions that are gone into with the caller's own blocks. -/
def inls (f : FuncId) : Bool := Nat.beq f 79 || Nat.beq f 59 || Nat.beq f 92
def xtab : Tab := ⟨ftab.get, inls, prims, primsL, 100000⟩
theorem xtab_ok : TabOk Tryz.prog ftab.own xtab := ⟨fun f lf hf => FT.get_ok ftab_ok f lf hf, fun f args v hp _ _ L => prims_ok hp L, fun f args L v L' hp L0 => primsL_ok hp L0⟩
end Go.Proofs.YtpednpndahgleaaGreatDoor.Av
