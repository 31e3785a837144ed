/- For every list of truths and every number the law TruthTables returns true, and what it was handed reads as it did. -/
import Derived.Test.YtkmfnbhdjijlnaaGreatDoorTruL
import Derived.Test.YtkmfnbhdjijlnaaGreatDoorAvTb
import Derived.Test.YtkmfnbhdjijlnaaGreatDoorTruthF
import Derived.Test.YtkmfnbhdjijlnaaGreatDoorCards
import Derived.Test.YtkmfnbhdjijlnaaGreatDoorTie
import Derived.WalkKit
import Derived.ProofKit
import Derived.OpenShut
import Derived.Deep.DeepHandedRow
import Derived.Lib.LaidTab
set_option linter.unusedSimpArgs false
set_option linter.unusedVariables false
namespace Go.Proofs.YtkmfnbhdjijlnaaGreatDoor.Av
open Go Go.ChangeShapes Go.WideShapes Go.ChangeAt Go.RowKit
set_option maxRecDepth 100000



theorem lawTruthTables_glob {W : World} : GlobOk (EnvW W).mem ∧ GszOk W := ⟨fun p hp => by simp [globTab] at hp, fun p hp => by simp [globTab] at hp⟩

theorem lawTruthTables_own : ownKnob Tryz.prog.godebug = none := by kernel_rfl

theorem lawTruthTables_args : ∃ (X : Type) (ec : X → List AV) (ok : X → Prop), RdA Tryz.prog Tryz.f4.params.toList ec ok ∧ ∀ y, ok y → ACall Tryz.prog 4 (ec y) [] fun av _ => av = .bool true := by
  refine ⟨_, _, _, rdA_val (t := 27) (by kernel_rfl) (rd_slice1 Tryz.underlying27 (rd_int Tryz.underlying3) (by kernel_rfl)) (rdA_val (t := 3) (by kernel_rfl) (rd_int Tryz.underlying3) rdA_nil), ?_⟩
  rintro ⟨l, v, _⟩ _
  exact tables_k (xs := l) (cap := none) (v := v) (L := []) (K := fun av _ => av = .bool true) rfl

noncomputable def lawTruthTables_world (os : Os) : World := { World.holding Tryz.prog os ⟨#[], #[], []⟩ with heap := let h := (World.holding Tryz.prog os ⟨#[], #[], []⟩).heap; ((((((((((h.modify 7 fun
      | .cells _ t frozen => .cells ([Value.int .u8 0, Value.int .u8 1, Value.int .u8 28, Value.int .u8 2, Value.int .u8 29, Value.int .u8 14, Value.int .u8 24, Value.int .u8 3, Value.int .u8 30, Value.int .u8 22, Value.int .u8 20, Value.int .u8 15, Value.int .u8 25, Value.int .u8 17, Value.int .u8 4, Value.int .u8 8, Value.int .u8 31, Value.int .u8 27, Value.int .u8 13, Value.int .u8 23, Value.int .u8 21, Value.int .u8 19, Value.int .u8 16, Value.int .u8 7, Value.int .u8 26, Value.int .u8 12, Value.int .u8 18, Value.int .u8 6, Value.int .u8 11, Value.int .u8 5, Value.int .u8 10, Value.int .u8 9] : List Value).toArray t frozen
      | o => o).modify 8 fun
      | .cells _ t frozen => .cells ([Value.int .u8 0, Value.int .u8 1, Value.int .u8 56, Value.int .u8 2, Value.int .u8 57, Value.int .u8 49, Value.int .u8 28, Value.int .u8 3, Value.int .u8 61, Value.int .u8 58, Value.int .u8 42, Value.int .u8 50, Value.int .u8 38, Value.int .u8 29, Value.int .u8 17, Value.int .u8 4, Value.int .u8 62, Value.int .u8 47, Value.int .u8 59, Value.int .u8 36, Value.int .u8 45, Value.int .u8 43, Value.int .u8 51, Value.int .u8 22, Value.int .u8 53, Value.int .u8 39, Value.int .u8 33, Value.int .u8 30, Value.int .u8 24, Value.int .u8 18, Value.int .u8 12, Value.int .u8 5, Value.int .u8 63, Value.int .u8 55, Value.int .u8 48, Value.int .u8 27, Value.int .u8 60, Value.int .u8 41, Value.int .u8 37, Value.int .u8 16, Value.int .u8 46, Value.int .u8 35, Value.int .u8 44, Value.int .u8 21, Value.int .u8 52, Value.int .u8 32, Value.int .u8 23, Value.int .u8 11, Value.int .u8 54, Value.int .u8 26, Value.int .u8 40, Value.int .u8 15, Value.int .u8 34, Value.int .u8 20, Value.int .u8 31, Value.int .u8 10, Value.int .u8 25, Value.int .u8 14, Value.int .u8 19, Value.int .u8 9, Value.int .u8 13, Value.int .u8 8, Value.int .u8 7, Value.int .u8 6] : List Value).toArray t frozen
      | o => o).modify 6 fun
      | .cells _ t frozen => .cells ([Value.int .u64 1, Value.int .u64 10, Value.int .u64 100, Value.int .u64 1000, Value.int .u64 10000, Value.int .u64 100000, Value.int .u64 1000000, Value.int .u64 10000000, Value.int .u64 100000000, Value.int .u64 1000000000, Value.int .u64 10000000000, Value.int .u64 100000000000, Value.int .u64 1000000000000, Value.int .u64 10000000000000, Value.int .u64 100000000000000, Value.int .u64 1000000000000000, Value.int .u64 10000000000000000, Value.int .u64 100000000000000000, Value.int .u64 1000000000000000000, Value.int .u64 10000000000000000000] : List Value).toArray t frozen
      | o => o).modify 1 fun
      | .cells _ t frozen => .cells ([Value.int .u8 128, Value.int .u8 191, Value.int .u8 160, Value.int .u8 191, Value.int .u8 128, Value.int .u8 159, Value.int .u8 144, Value.int .u8 191, Value.int .u8 128, Value.int .u8 143, Value.int .u8 0, Value.int .u8 0, Value.int .u8 0, Value.int .u8 0, Value.int .u8 0, Value.int .u8 0, Value.int .u8 0, Value.int .u8 0, Value.int .u8 0, Value.int .u8 0, Value.int .u8 0, Value.int .u8 0, Value.int .u8 0, Value.int .u8 0, Value.int .u8 0, Value.int .u8 0, Value.int .u8 0, Value.int .u8 0, Value.int .u8 0, Value.int .u8 0, Value.int .u8 0, Value.int .u8 0] : List Value).toArray t frozen
      | o => o).modify 5 fun
      | .cells _ t frozen => .cells ([Value.iface 395 (.pointer (some ⟨h.size + 0, 0, none⟩))] : List Value).toArray t frozen
      | o => o).modify 4 fun
      | .cells _ t frozen => .cells ([Value.iface 395 (.pointer (some ⟨h.size + 1, 0, none⟩))] : List Value).toArray t frozen
      | o => o).modify 2 fun
      | .cells _ t frozen => .cells ([Value.int .i64 31, Value.int .i64 28, Value.int .i64 31, Value.int .i64 30, Value.int .i64 31, Value.int .i64 30, Value.int .i64 31, Value.int .i64 31, Value.int .i64 30, Value.int .i64 31, Value.int .i64 30, Value.int .i64 31] : List Value).toArray t frozen
      | o => o).modify 0 fun
      | .cells _ t frozen => .cells ((Go.Pinned.utf8FirstZ.map fun (n : Nat) => Value.int .u8 (Int.ofNat n)) : List Value).toArray t frozen
      | o => o).push (.cells (#[Value.string ⟨⟨[118, 97, 108, 117, 101, 32, 111, 117, 116, 32, 111, 102, 32, 114, 97, 110, 103, 101]⟩⟩] : Array Value) 397)).push (.cells (#[Value.string ⟨⟨[105, 110, 118, 97, 108, 105, 100, 32, 115, 121, 110, 116, 97, 120]⟩⟩] : Array Value) 397)) }
theorem lawTruthTables_met (os : Os) : laidMet Tryz.prog Rows.truthTablesRow.laid ((lawTruthTables_world os).forCall (fun _ _ => 0) ⟨#[], #[.slice none 0 0, .int .i64 0], []⟩).memory :=
  laidMet_of_run' 8 (by kernel_rfl) (by kernel_rfl)

set_option maxRecDepth 100000 in
theorem lawTruthTables_lifted (os : Os) (started : os.Started) (H : Type) (enc : TypeId × Value → H) (I : Stop.Interp) :
    ReturnsInHanded {} Tryz.checked os 4 .any ((OpenSpec.ofChange Rows.truthTablesSpec).preRow enc Tryz.prog Tryz.f4 Rows.truthTablesRow.domain false Rows.truthTablesRow.laid) (((OpenSpec.ofChange Rows.truthTablesSpec).at I).post enc Tryz.prog Tryz.f4 false true false false) := by
  have hs : (DataW.whole enc Tryz.prog ((lawTruthTables_world os).forCall (fun _ _ => 0) ⟨#[], #[.slice none 0 0, .int .i64 0], []⟩).memory Tryz.f4.params.toList Rows.truthTablesSpec.vars false #[.slice none 0 0, .int .i64 0].toList 8).isSome = true := by kernel_rfl
  refine returnsInHanded_of_row (C := Tryz.checked) (s := OpenSpec.ofChange Rows.truthTablesSpec) lawTruthTables_own started (by kernel_rfl) Tryz.func4
    (witness_row_at (enc := enc) (C := Tryz.checked) false (lawTruthTables_world os) #[.slice none 0 0, .int .i64 0] rfl (by kernel_rfl) (by kernel_rfl) (by kernel_rfl)
      (OpenSpec.preRow_of_cond 8 (Option.some_get hs).symm (by kernel_rfl) (fun k hk => by cases hk) (by kernel_rfl) (lawTruthTables_met os))) ?_
  intro W base args ds gs before hval hW _ _ _ hL _ _
  obtain ⟨X, ec, ok, h1, h2⟩ := lawTruthTables_args
  exact law_contract (tb := 4) Tryz.func4 rfl (by kernel_rfl) factTruthTables_5 factTruthTables_6 factTruthTables_7 (by kernel_rfl) rfl Tryz.underlying4 rfl
    (fun H ds h => match ds, h with | [_, _], _ => ⟨rfl, rfl, rfl⟩) h1 h2 enc W base args ds gs before hval hW lawTruthTables_glob

theorem lawTruthTables_said : Rows.TruthTablesSaid :=
  OpenClaim.holds_of_cond 4 Tryz.f4 rfl rfl rfl rfl rfl rfl rfl ⟨rfl, rfl, rfl, rfl, rfl⟩ rfl rfl rfl rfl rfl factTruthTables_11 Tryz.func4 factTruthTables_closed
    (of_decide_eq_true (by kernel_rfl)) (by unfold Func.isWrapper; first | (rw [if_pos (by decide +kernel)]; kernel_rfl) | (rw [if_neg (by decide +kernel)]; exact ⟨rfl, rfl⟩))
    (fun os started H enc _ F => by rw [OpenClaim.pre_eq_preRow]; exact lawTruthTables_lifted os started H enc F)

theorem lawTruthTables_plain (f : FuncId) (fn : Func) (hf : Tryz.pinned.checked.prog.funcNamed "castellan/castellanlaw21.TruthTables" = some f) (hfn : Tryz.pinned.checked.prog.funcs[f]? = some fn) :
    true = Tryz.pinned.checked.prog.looks [] ∧ ∀ (j : Nat) t, fn.params[j]? = some t → Tryz.pinned.checked.prog.wantsStandIn t = false := by
  obtain rfl : f = 4 := Option.some.inj ((factTruthTables_11).symm.trans hf) |>.symm
  obtain rfl : fn = Tryz.f4 := (Option.some.inj (Tryz.func4.symm.trans hfn)).symm
  refine ⟨(factTruthTables_8).symm, fun j t ht => ?_⟩
  have hall : Tryz.f4.params.toList.all (fun t => !Tryz.prog.wantsStandIn t) = true := factTruthTables_12
  have hm : t ∈ Tryz.f4.params.toList := by simpa using Array.mem_of_getElem? ht
  have h2 : Tryz.prog.wantsStandIn t = false := by simpa using List.all_eq_true.1 hall t hm
  exact h2

theorem lawTruthTables_card : Rows.TruthTablesCardSaid :=
  Claim7.holds_tied_plain_at .later [] _ _ _ _ lawTruthTables_said (fun _ h => by cases h) (by kernel_rfl) (fun _ h => by cases h) truthTables_row_tie rfl ⟨rfl, rfl⟩ factTruthTables_10 rfl lawTruthTables_plain factTruthTables_9
end Go.Proofs.YtkmfnbhdjijlnaaGreatDoor.Av
