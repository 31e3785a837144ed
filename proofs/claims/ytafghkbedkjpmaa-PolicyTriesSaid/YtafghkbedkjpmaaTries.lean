/- For every policy, every state and every list of tries the law PolicyTries returns true, and what it was handed reads as it did. No condition. -/
import Derived.Test.YtafghkbedkjpmaaPolK
import Derived.Test.YtafghkbedkjpmaaAvBr
set_option linter.unusedSimpArgs false
namespace Go.Proofs.Ytafghkbedkjpmaa.Av
open Go Go.ChangeShapes Go.WideShapes Go.ChangeAt Go.RowKit
set_option maxRecDepth 100000
set_option linter.unusedVariables false

theorem rd_i64 : Rd Try.prog 2 (fun n : Int => [.int .i64 n]) (fun n => IntKind.i64.min ≤ n ∧ n ≤ IntKind.i64.max) := rd_int Try.underlying2
theorem rd_i : Rd Try.prog 3 (fun n : Int => [.int .i64 n]) (fun n => IntKind.i64.min ≤ n ∧ n ≤ IntKind.i64.max) := rd_int Try.underlying3
theorem rd_b : Rd Try.prog 4 (fun b : Bool => [.bool b]) (fun _ => True) := rd_bool Try.underlying4

theorem law_own : ownKnob Try.prog.godebug = none := by kernel_rfl

theorem tries_args : ∃ (X : Type) (ec : X → List AV) (ok : X → Prop), RdA Try.prog Try.f3.params.toList ec ok ∧ ∀ y, ok y → ACall Try.prog 3 (ec y) [] fun av _ => av = .bool true := by
  refine ⟨_, _, _, rdA_agg (t := 23) (by kernel_rfl) (rd_struct Try.underlying23 (N := 4) (by kernel_rfl) (rdF_cons (sz := 1) rfl (by kernel_rfl) rd_i (rdF_cons (sz := 1) rfl (by kernel_rfl) rd_i64 (rdF_cons (sz := 1) rfl (by kernel_rfl) rd_i64 (rdF_cons (sz := 1) rfl (by kernel_rfl) rd_i64 (rdF_nil rfl))))))
    (rdA_agg (t := 26) (by kernel_rfl) (rd_struct Try.underlying26 (N := 3) (by kernel_rfl) (rdF_cons (sz := 1) rfl (by kernel_rfl) (rd_slice1 Try.underlying24 rd_i64 (by kernel_rfl)) (rdF_cons (sz := 1) rfl (by kernel_rfl) rd_i64 (rdF_cons (sz := 1) rfl (by kernel_rfl) rd_i64 (rdF_nil rfl)))))
    (rdA_val (t := 27) (by kernel_rfl) (rd_slice Try.underlying27 (rd_struct Try.underlying37 (N := 2) (by kernel_rfl) (rdF_cons (sz := 1) rfl (by kernel_rfl) rd_i64 (rdF_cons (sz := 1) rfl (by kernel_rfl) rd_b (rdF_nil rfl)))) (by kernel_rfl)) rdA_nil)), ?_⟩
  rintro ⟨⟨a, b, c, d, _⟩, ⟨l, lk, ch, _⟩, ts, _⟩ _
  have key := tries_k (pf := a) (pw := b) (pl := c) (pa := d) (fs := l) (cap := none) (cap' := none) (lk := lk) (ch := ch) (ts := ts.map fun t => (t.1, t.2.1)) (L := []) (K := fun av _ => av = .bool true) rfl
  have e : tryC (ts.map fun t => (t.1, t.2.1)) = ts.flatMap fun y => [AV.int .i64 y.1] ++ ([AV.bool y.2.1] ++ []) := by
    simp [tryC, List.flatMap_map]
  rw [e, List.length_map] at key
  exact key

theorem tries_lifted (os : Os) (started : os.Started) (H : Type) (enc : TypeId × Value → H) :
    ReturnsInHanded {} Try.checked os 3 .any (Rows.policyTriesSpec.pre6 enc Try.prog Try.f3 Rows.policyTriesRow.domain false) (Rows.policyTriesSpec.post enc Try.prog Try.f3 false true false false) := by
  refine returnsInHanded_of_change (C := Try.checked) (s := Rows.policyTriesSpec) law_own started (by kernel_rfl) Try.func3
    (ChangeSpec.witness6 (enc := enc) (C := Try.checked) (s := Rows.policyTriesSpec) false ⟨#[], #[.agg #[.int .i64 0, .int .i64 0, .int .i64 0, .int .i64 0], .agg #[.slice none 0 0, .int .i64 0, .int .i64 0], .slice none 0 0], []⟩ 8 (by kernel_rfl) (by kernel_rfl) (by kernel_rfl) (by kernel_rfl) (by kernel_rfl)) ?_
  intro W base args ds gs before hval hW _ _
  obtain ⟨X, ec, ok, h1, h2⟩ := tries_args
  exact law_contract (tb := 4) Try.func3 rfl (by kernel_rfl) (by kernel_rfl) (by kernel_rfl) (by kernel_rfl) (by kernel_rfl) rfl Try.underlying4 rfl
    (fun H ds h => match ds, h with | [_, _, _], _ => ⟨rfl, rfl, rfl⟩) h1 h2 enc W base args ds gs before hval hW

theorem tries_holds : Rows.PolicyTriesSaid :=
  OpenClaim.holds_of_wide 3 Try.f3 rfl rfl rfl rfl rfl rfl rfl ⟨rfl, rfl, rfl, rfl, rfl⟩ rfl rfl rfl rfl rfl (by kernel_rfl) Try.func3 (by kernel_rfl)
    (of_decide_eq_true (by kernel_rfl)) (by unfold Func.isWrapper; first | (rw [if_pos (by decide +kernel)]; kernel_rfl) | (rw [if_neg (by decide +kernel)]; exact ⟨rfl, rfl⟩))
    (fun os started H enc _ => tries_lifted os started H enc)
end Go.Proofs.Ytafghkbedkjpmaa.Av
