/- For every list of lists of numbers the law PlanLists returns true, and what it was handed reads as it did. -/
import Derived.Test.YtpednpndahgleaaGreatDoorPlaU
import Derived.Test.YtpednpndahgleaaGreatDoorAvTb
import Derived.Test.YtpednpndahgleaaGreatDoorPlanListsF
import Derived.Test.YtpednpndahgleaaGreatDoorCards
import Derived.Test.YtpednpndahgleaaGreatDoorTie
import Derived.WalkKit
import Derived.ProofKit
import Derived.OpenShut
import Derived.Deep.DeepHandedRow
import Derived.Lib.LaidTab
set_option linter.unusedSimpArgs false
set_option linter.unusedVariables false
namespace Go.Proofs.YtpednpndahgleaaGreatDoor.Av
open Go Go.ChangeShapes Go.WideShapes Go.ChangeAt Go.RowKit
set_option maxRecDepth 100000



theorem tabPlanLists_2_named : Tryz.prog.globalNamed "internal/strconv.uint64pow10" = some 3 := by kernel_rfl
def tabPlanLists_2 : List Int := [1, 10, 100, 1000, 10000, 100000, 1000000, 10000000, 100000000, 1000000000, 10000000000, 100000000000, 1000000000000, 10000000000000, 100000000000000, 1000000000000000, 10000000000000000, 100000000000000000, 1000000000000000000, 10000000000000000000]
theorem tabPlanLists_2_type : (Tryz.prog.globals[3]?).map (·.type) = some 153 := by kernel_rfl
theorem tabPlanLists_2_cells : Tryz.prog.cellsOf 153 = 20 := by kernel_rfl
theorem tabPlanLists_2_one : Tryz.prog.cellsOf 111 = 1 := by kernel_rfl
theorem tabPlanLists_4_named : Tryz.prog.globalNamed "strconv.ErrRange" = some 8 := by kernel_rfl
theorem starPlanLists_s : "*" ++ "errors.errorString" = "*errors.errorString" := by decide
theorem starPlanLists_row (u : TypeId) (h : Tryz.prog.typeName? 3 u = some "*errors.errorString") : u = 230 :=
  typeName_ptr_named (nm := "errors.errorString") (by rw [starPlanLists_s]; kernel_rfl) (by kernel_rfl) (by decide) u (by rw [starPlanLists_s]; exact h)
theorem tabPlanLists_4_type : (Tryz.prog.globals[8]?).map (·.type) = some 125 := by kernel_rfl
theorem tabPlanLists_5_named : Tryz.prog.globalNamed "strconv.ErrSyntax" = some 7 := by kernel_rfl
theorem tabPlanLists_5_type : (Tryz.prog.globals[7]?).map (·.type) = some 125 := by kernel_rfl
theorem lawPlanLists_glob {W : World} (h0 : laidMet Tryz.prog Rows.planListsRow.laid W) : GlobOk (EnvW W).mem ∧ GszOk W := by
  have h1 := laidMet.tail h0
  have h2 := laidMet.tail h1
  have t2 := Lib.tabIs_of_head (zs := tabPlanLists_2) tabPlanLists_2_named tabPlanLists_2_type Tryz.underlying153 Tryz.underlying111 tabPlanLists_2_one tabPlanLists_2_cells h2
  have h3 := laidMet.tail h2
  have h4 := laidMet.tail h3
  obtain ⟨a4, s4, v4, _⟩ := laid_sentinel h4 tabPlanLists_4_named tabPlanLists_4_type Tryz.underlying125 starPlanLists_row Tryz.underlying230 Tryz.underlying232 rfl rfl Tryz.underlying9 (by kernel_rfl) (by kernel_rfl)
  have h5 := laidMet.tail h4
  obtain ⟨a5, s5, v5, _⟩ := laid_sentinel h5 tabPlanLists_5_named tabPlanLists_5_type Tryz.underlying125 starPlanLists_row Tryz.underlying230 Tryz.underlying232 rfl rfl Tryz.underlying9 (by kernel_rfl) (by kernel_rfl)
  have h6 := laidMet.tail h5
  have h7 := laidMet.tail h6
  have h8 := laidMet.tail h7
  exact glob_both (glob_cons (tab_ok t2 tabPlanLists_2_named) (glob_cons (sent_ok v4 tabPlanLists_4_named) (glob_cons (sent_ok v5 tabPlanLists_5_named) glob_nil)))

theorem lawPlanLists_own : ownKnob Tryz.prog.godebug = none := by kernel_rfl

theorem lawPlanLists_args : ∃ (X : Type) (ec : X → List AV) (ok : X → Prop), RdA Tryz.prog Tryz.f5.params.toList ec ok ∧ ∀ y, ok y → ACall Tryz.prog 5 (ec y) [] fun av _ => av = .bool true := by
  refine ⟨_, _, _, rdA_val (t := 38) (by kernel_rfl) (rd_slice1 Tryz.underlying38 (rd_slice1 Tryz.underlying33 (rd_int Tryz.underlying3) (by kernel_rfl)) (by kernel_rfl)) rdA_nil, ?_⟩
  rintro ⟨ls, _⟩ ⟨hls, _⟩
  exact planLists_k (ls := ls) (cap := none) (L := []) (K := fun av _ => av = .bool true) (by have h0 : ls.length ≤ 2 ^ 63 - 1 := hls.1; omega) rfl

noncomputable def lawPlanLists_world (os : Os) : World := { World.holding Tryz.prog os ⟨#[], #[], []⟩ with heap := let h := (World.holding Tryz.prog os ⟨#[], #[], []⟩).heap; ((((((((((h.modify 5 fun
      | .cells _ t frozen => .cells ([Value.int .u8 0, Value.int .u8 1, Value.int .u8 28, Value.int .u8 2, Value.int .u8 29, Value.int .u8 14, Value.int .u8 24, Value.int .u8 3, Value.int .u8 30, Value.int .u8 22, Value.int .u8 20, Value.int .u8 15, Value.int .u8 25, Value.int .u8 17, Value.int .u8 4, Value.int .u8 8, Value.int .u8 31, Value.int .u8 27, Value.int .u8 13, Value.int .u8 23, Value.int .u8 21, Value.int .u8 19, Value.int .u8 16, Value.int .u8 7, Value.int .u8 26, Value.int .u8 12, Value.int .u8 18, Value.int .u8 6, Value.int .u8 11, Value.int .u8 5, Value.int .u8 10, Value.int .u8 9] : List Value).toArray t frozen
      | o => o).modify 6 fun
      | .cells _ t frozen => .cells ([Value.int .u8 0, Value.int .u8 1, Value.int .u8 56, Value.int .u8 2, Value.int .u8 57, Value.int .u8 49, Value.int .u8 28, Value.int .u8 3, Value.int .u8 61, Value.int .u8 58, Value.int .u8 42, Value.int .u8 50, Value.int .u8 38, Value.int .u8 29, Value.int .u8 17, Value.int .u8 4, Value.int .u8 62, Value.int .u8 47, Value.int .u8 59, Value.int .u8 36, Value.int .u8 45, Value.int .u8 43, Value.int .u8 51, Value.int .u8 22, Value.int .u8 53, Value.int .u8 39, Value.int .u8 33, Value.int .u8 30, Value.int .u8 24, Value.int .u8 18, Value.int .u8 12, Value.int .u8 5, Value.int .u8 63, Value.int .u8 55, Value.int .u8 48, Value.int .u8 27, Value.int .u8 60, Value.int .u8 41, Value.int .u8 37, Value.int .u8 16, Value.int .u8 46, Value.int .u8 35, Value.int .u8 44, Value.int .u8 21, Value.int .u8 52, Value.int .u8 32, Value.int .u8 23, Value.int .u8 11, Value.int .u8 54, Value.int .u8 26, Value.int .u8 40, Value.int .u8 15, Value.int .u8 34, Value.int .u8 20, Value.int .u8 31, Value.int .u8 10, Value.int .u8 25, Value.int .u8 14, Value.int .u8 19, Value.int .u8 9, Value.int .u8 13, Value.int .u8 8, Value.int .u8 7, Value.int .u8 6] : List Value).toArray t frozen
      | o => o).modify 3 fun
      | .cells _ t frozen => .cells ([Value.int .u64 1, Value.int .u64 10, Value.int .u64 100, Value.int .u64 1000, Value.int .u64 10000, Value.int .u64 100000, Value.int .u64 1000000, Value.int .u64 10000000, Value.int .u64 100000000, Value.int .u64 1000000000, Value.int .u64 10000000000, Value.int .u64 100000000000, Value.int .u64 1000000000000, Value.int .u64 10000000000000, Value.int .u64 100000000000000, Value.int .u64 1000000000000000, Value.int .u64 10000000000000000, Value.int .u64 100000000000000000, Value.int .u64 1000000000000000000, Value.int .u64 10000000000000000000] : List Value).toArray t frozen
      | o => o).modify 1 fun
      | .cells _ t frozen => .cells ([Value.int .u8 128, Value.int .u8 191, Value.int .u8 160, Value.int .u8 191, Value.int .u8 128, Value.int .u8 159, Value.int .u8 144, Value.int .u8 191, Value.int .u8 128, Value.int .u8 143, Value.int .u8 0, Value.int .u8 0, Value.int .u8 0, Value.int .u8 0, Value.int .u8 0, Value.int .u8 0, Value.int .u8 0, Value.int .u8 0, Value.int .u8 0, Value.int .u8 0, Value.int .u8 0, Value.int .u8 0, Value.int .u8 0, Value.int .u8 0, Value.int .u8 0, Value.int .u8 0, Value.int .u8 0, Value.int .u8 0, Value.int .u8 0, Value.int .u8 0, Value.int .u8 0, Value.int .u8 0] : List Value).toArray t frozen
      | o => o).modify 8 fun
      | .cells _ t frozen => .cells ([Value.iface 230 (.pointer (some ⟨h.size + 0, 0, none⟩))] : List Value).toArray t frozen
      | o => o).modify 7 fun
      | .cells _ t frozen => .cells ([Value.iface 230 (.pointer (some ⟨h.size + 1, 0, none⟩))] : List Value).toArray t frozen
      | o => o).modify 2 fun
      | .cells _ t frozen => .cells ([Value.int .i64 31, Value.int .i64 28, Value.int .i64 31, Value.int .i64 30, Value.int .i64 31, Value.int .i64 30, Value.int .i64 31, Value.int .i64 31, Value.int .i64 30, Value.int .i64 31, Value.int .i64 30, Value.int .i64 31] : List Value).toArray t frozen
      | o => o).modify 0 fun
      | .cells _ t frozen => .cells ((Go.Pinned.utf8FirstZ.map fun (n : Nat) => Value.int .u8 (Int.ofNat n)) : List Value).toArray t frozen
      | o => o).push (.cells (#[Value.string ⟨⟨[118, 97, 108, 117, 101, 32, 111, 117, 116, 32, 111, 102, 32, 114, 97, 110, 103, 101]⟩⟩] : Array Value) 232)).push (.cells (#[Value.string ⟨⟨[105, 110, 118, 97, 108, 105, 100, 32, 115, 121, 110, 116, 97, 120]⟩⟩] : Array Value) 232)) }
theorem lawPlanLists_met (os : Os) : laidMet Tryz.prog Rows.planListsRow.laid ((lawPlanLists_world os).forCall (fun _ _ => 0) ⟨#[], #[.slice none 0 0], []⟩).memory :=
  laidMet_of_run' 8 (by kernel_rfl) (by kernel_rfl)

set_option maxRecDepth 100000 in
theorem lawPlanLists_lifted (os : Os) (started : os.Started) (H : Type) (enc : TypeId × Value → H) (I : Stop.Interp) :
    ReturnsInHanded {} Tryz.checked os 5 .any ((OpenSpec.ofChange Rows.planListsSpec).preRow enc Tryz.prog Tryz.f5 Rows.planListsRow.domain false Rows.planListsRow.laid) (((OpenSpec.ofChange Rows.planListsSpec).at I).post enc Tryz.prog Tryz.f5 false true false false) := by
  have hs : (DataW.whole enc Tryz.prog ((lawPlanLists_world os).forCall (fun _ _ => 0) ⟨#[], #[.slice none 0 0], []⟩).memory Tryz.f5.params.toList Rows.planListsSpec.vars false #[.slice none 0 0].toList 8).isSome = true := by kernel_rfl
  refine returnsInHanded_of_row (C := Tryz.checked) (s := OpenSpec.ofChange Rows.planListsSpec) lawPlanLists_own started (by kernel_rfl) Tryz.func5
    (witness_row_at (enc := enc) (C := Tryz.checked) false (lawPlanLists_world os) #[.slice none 0 0] rfl (by kernel_rfl) (by kernel_rfl) (by kernel_rfl)
      (OpenSpec.preRow_of_cond 8 (Option.some_get hs).symm (by kernel_rfl) (fun k hk => by cases hk) (by kernel_rfl) (lawPlanLists_met os))) ?_
  intro W base args ds gs before hval hW _ _ _ hL _ _
  obtain ⟨X, ec, ok, h1, h2⟩ := lawPlanLists_args
  exact law_contract (tb := 4) Tryz.func5 rfl (by kernel_rfl) factPlanLists_5 factPlanLists_6 factPlanLists_7 (by kernel_rfl) rfl Tryz.underlying4 rfl
    (fun H ds h => match ds, h with | [_], _ => ⟨rfl, rfl, rfl⟩) h1 h2 enc W base args ds gs before hval hW (lawPlanLists_glob hL)

theorem lawPlanLists_said : Rows.PlanListsSaid :=
  OpenClaim.holds_of_cond 5 Tryz.f5 rfl rfl rfl rfl rfl rfl rfl ⟨rfl, rfl, rfl, rfl, rfl⟩ rfl rfl rfl rfl rfl factPlanLists_11 Tryz.func5 factPlanLists_closed
    (of_decide_eq_true (by kernel_rfl)) (by unfold Func.isWrapper; first | (rw [if_pos (by decide +kernel)]; kernel_rfl) | (rw [if_neg (by decide +kernel)]; exact ⟨rfl, rfl⟩))
    (fun os started H enc _ F => by rw [OpenClaim.pre_eq_preRow]; exact lawPlanLists_lifted os started H enc F)

theorem lawPlanLists_plain (f : FuncId) (fn : Func) (hf : Tryz.pinned.checked.prog.funcNamed "castellan/castellanlaw20.PlanLists" = some f) (hfn : Tryz.pinned.checked.prog.funcs[f]? = some fn) :
    true = Tryz.pinned.checked.prog.looks [] ∧ ∀ (j : Nat) t, fn.params[j]? = some t → Tryz.pinned.checked.prog.wantsStandIn t = false := by
  obtain rfl : f = 5 := Option.some.inj ((factPlanLists_11).symm.trans hf) |>.symm
  obtain rfl : fn = Tryz.f5 := (Option.some.inj (Tryz.func5.symm.trans hfn)).symm
  refine ⟨(factPlanLists_8).symm, fun j t ht => ?_⟩
  have hall : Tryz.f5.params.toList.all (fun t => !Tryz.prog.wantsStandIn t) = true := factPlanLists_12
  have hm : t ∈ Tryz.f5.params.toList := by simpa using Array.mem_of_getElem? ht
  have h2 : Tryz.prog.wantsStandIn t = false := by simpa using List.all_eq_true.1 hall t hm
  exact h2

theorem lawPlanLists_card : Rows.PlanListsCardSaid :=
  Claim7.holds_tied_plain_at .later [] _ _ _ _ lawPlanLists_said (fun _ h => by cases h) (by kernel_rfl) (fun _ h => by cases h) planLists_row_tie rfl ⟨rfl, rfl⟩ factPlanLists_10 rfl lawPlanLists_plain factPlanLists_9
end Go.Proofs.YtpednpndahgleaaGreatDoor.Av
