/- Tables of bodies. No program in sight. -/
import Derived.Test.YtpednpndahgleaaGreatDoorExD
set_option linter.unusedSimpArgs false
set_option linter.unusedVariables false
namespace Go.Proofs.YtpednpndahgleaaGreatDoor.Av
open Go

/-- Bodies by their numbers. -/
inductive FT where
  | leaf
  | node (f : FuncId) (own : Nat → Nat → Nat) (lf : LFun) (l r : FT)
def FT.get : FT → FuncId → Option LFun
  | .leaf, _ => none
  | .node f _ lf l r, k => match Nat.beq k f with
    | true => some lf
    | false => match Nat.blt k f with
      | true => l.get k
      | false => r.get k
def FT.own : FT → FuncId → Nat → Nat → Nat
  | .leaf, _ => fun _ _ => 1
  | .node f o lf l r, k => match Nat.beq k f with
    | true => o
    | false => match Nat.blt k f with
      | true => l.own k
      | false => r.own k
def FT.Ok (P : Program) : FT → Prop
  | .leaf => True
  | .node f o lf l r => lowF P o f = some lf.raw ∧ lf.code.okc = true ∧ l.Ok P ∧ r.Ok P

theorem FT.get_ok {P : Program} : ∀ {t : FT}, t.Ok P → ∀ k lf, t.get k = some lf → lowF P (t.own k) k = some lf.raw ∧ lf.code.okc = true
  | .leaf, _, k, lf, h => by simp [FT.get] at h
  | .node f o c l r, hok, k, lf, h => by
    obtain ⟨h1, h2, h3, h4⟩ := hok
    unfold FT.get at h
    unfold FT.own
    cases e : Nat.beq k f with
    | true =>
      rw [e] at h
      obtain rfl := Nat.eq_of_beq_eq_true e
      simp only [Option.some.injEq] at h
      subst h
      exact ⟨h1, h2⟩
    | false =>
      rw [e] at h
      cases e2 : Nat.blt k f with
      | true => rw [e2] at h; exact FT.get_ok h3 k lf h
      | false => rw [e2] at h; exact FT.get_ok h4 k lf h

/-- A table with functions that are gone into, and no others known. -/
def mkTab (t : FT) (inl : FuncId → Bool) (fuel : Nat) : Tab := ⟨t.get, inl, fun _ _ => none, fun _ _ _ => none, fuel⟩
theorem mkTab_ok {P : Program} {t : FT} (h : t.Ok P) (inl : FuncId → Bool) (fuel : Nat) : TabOk P t.own (mkTab t inl fuel) :=
  ⟨fun f lf hf => FT.get_ok h f lf hf, fun f args v hp => by simp [mkTab] at hp, fun f args L v L' hp => by simp [mkTab] at hp⟩

/-- What is known of some calls. -/
def memoP (l : List (FuncId × List AV × AV)) (f : FuncId) (args : List AV) : Option AV :=
  match l.find? fun e => Nat.beq e.1 f && AV.beqL e.2.1 args with
  | some e => some e.2.2
  | none => none
theorem memo_ok {P : Program} {l : List (FuncId × List AV × AV)} (hl : ∀ e ∈ l, ∀ L, ACall P e.1 e.2.1 L fun av K => av = e.2.2 ∧ K = L) {f : FuncId} {args : List AV} {v : AV} (h : memoP l f args = some v) (L : List Blk) : ACall P f args L fun av K => av = v ∧ K = L := by
  unfold memoP at h
  split at h
  · rename_i e he
    simp only [Option.some.injEq] at h
    subst h
    have h1 := List.find?_some he
    have h2 := List.mem_of_find?_eq_some he
    simp only [Bool.and_eq_true] at h1
    obtain rfl := Nat.eq_of_beq_eq_true h1.1
    rw [← AV.beqL_eq h1.2]
    exact hl e h2 L
  · cases h

end Go.Proofs.YtpednpndahgleaaGreatDoor.Av
