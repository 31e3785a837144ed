/- For every policy, every beginning and every wait the law PolicyLocks returns true, and what it was handed reads as it did. No condition. -/
import Derived.Test.YtafghkbedkjpmaaLckB
import Derived.Test.YtafghkbedkjpmaaAvBr
set_option linter.unusedSimpArgs false
set_option linter.unusedVariables false
namespace Go.Proofs.Ytafghkbedkjpmaa.Av
open Go Go.ChangeShapes Go.WideShapes Go.ChangeAt Go.RowKit
set_option maxRecDepth 100000

theorem lawPolicyLocks_own : ownKnob Try.prog.godebug = none := by kernel_rfl

theorem lawPolicyLocks_args : ∃ (X : Type) (ec : X → List AV) (ok : X → Prop), RdA Try.prog Try.f4.params.toList ec ok ∧ ∀ y, ok y → ACall Try.prog 4 (ec y) [] fun av _ => av = .bool true := by
  have i64 : Rd Try.prog 2 (fun n : Int => [.int .i64 n]) (fun n => IntKind.i64.min ≤ n ∧ n ≤ IntKind.i64.max) := rd_int Try.underlying2
  have i : Rd Try.prog 3 (fun n : Int => [.int .i64 n]) (fun n => IntKind.i64.min ≤ n ∧ n ≤ IntKind.i64.max) := rd_int Try.underlying3
  refine ⟨_, _, _, rdA_agg (t := 23) (by kernel_rfl) (rd_struct Try.underlying23 (N := 4) (by kernel_rfl) (rdF_cons (sz := 1) rfl (by kernel_rfl) i (rdF_cons (sz := 1) rfl (by kernel_rfl) i64 (rdF_cons (sz := 1) rfl (by kernel_rfl) i64 (rdF_cons (sz := 1) rfl (by kernel_rfl) i64 (rdF_nil rfl))))))
    (rdA_val (t := 2) (by kernel_rfl) i64 (rdA_val (t := 2) (by kernel_rfl) i64 rdA_nil)), ?_⟩
  rintro ⟨⟨a, b, c, d, _⟩, e, f, _⟩ _
  exact locks_k (pf := a) (pw := b) (pl := c) (pa := d) (a := e) (wt := f) (L := []) (K := fun av _ => av = .bool true) rfl

theorem lawPolicyLocks_lifted (os : Os) (started : os.Started) (H : Type) (enc : TypeId × Value → H) :
    ReturnsInHanded {} Try.checked os 4 .any (Rows.policyLocksSpec.pre6 enc Try.prog Try.f4 Rows.policyLocksRow.domain false) (Rows.policyLocksSpec.post enc Try.prog Try.f4 false true false false) := by
  refine returnsInHanded_of_change (C := Try.checked) (s := Rows.policyLocksSpec) lawPolicyLocks_own started (by kernel_rfl) Try.func4
    (ChangeSpec.witness6 (enc := enc) (C := Try.checked) (s := Rows.policyLocksSpec) false ⟨#[], #[.agg #[.int .i64 0, .int .i64 0, .int .i64 0, .int .i64 0], .int .i64 0, .int .i64 0], []⟩ 8 (by kernel_rfl) (by kernel_rfl) (by kernel_rfl) (by kernel_rfl) (by kernel_rfl)) ?_
  intro W base args ds gs before hval hW _ _
  obtain ⟨X, ec, ok, h1, h2⟩ := lawPolicyLocks_args
  exact law_contract (tb := 4) Try.func4 rfl (by kernel_rfl) (by kernel_rfl) (by kernel_rfl) (by kernel_rfl) (by kernel_rfl) rfl Try.underlying4 rfl
    (fun H ds h => match ds, h with | [_, _, _], _ => ⟨rfl, rfl, rfl⟩) h1 h2 enc W base args ds gs before hval hW

theorem lawPolicyLocks_holds : Rows.PolicyLocksSaid :=
  OpenClaim.holds_of_wide 4 Try.f4 rfl rfl rfl rfl rfl rfl rfl ⟨rfl, rfl, rfl, rfl, rfl⟩ rfl rfl rfl rfl rfl (by kernel_rfl) Try.func4 (by kernel_rfl)
    (of_decide_eq_true (by kernel_rfl)) (by unfold Func.isWrapper; first | (rw [if_pos (by decide +kernel)]; kernel_rfl) | (rw [if_neg (by decide +kernel)]; exact ⟨rfl, rfl⟩))
    (fun os started H enc _ => lawPolicyLocks_lifted os started H enc)
end Go.Proofs.Ytafghkbedkjpmaa.Av
