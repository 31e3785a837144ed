/- For every state the law PolicyMods returns true, and what it was handed reads as it did. -/
import Derived.Test.YtafghkbedkjpmaaDoorModL
import Derived.Test.YtafghkbedkjpmaaDoorAvTb
import Derived.Test.YtafghkbedkjpmaaDoorCards
import Derived.Test.YtafghkbedkjpmaaDoorTie
import Derived.WalkKit
import Derived.ProofKit
import Derived.OpenShut
import Derived.Deep.DeepHandedRow
import Derived.Lib.LaidTab
set_option linter.unusedSimpArgs false
set_option linter.unusedVariables false
namespace Go.Proofs.YtafghkbedkjpmaaDoor.Av
open Go Go.ChangeShapes Go.WideShapes Go.ChangeAt Go.RowKit
set_option maxRecDepth 100000

def tab_0 : List Int := [0, 1, 28, 2, 29, 14, 24, 3, 30, 22, 20, 15, 25, 17, 4, 8, 31, 27, 13, 23, 21, 19, 16, 7, 26, 12, 18, 6, 11, 5, 10, 9]
def tab_1 : List Int := [0, 1, 56, 2, 57, 49, 28, 3, 61, 58, 42, 50, 38, 29, 17, 4, 62, 47, 59, 36, 45, 43, 51, 22, 53, 39, 33, 30, 24, 18, 12, 5, 63, 55, 48, 27, 60, 41, 37, 16, 46, 35, 44, 21, 52, 32, 23, 11, 54, 26, 40, 15, 34, 20, 31, 10, 25, 14, 19, 9, 13, 8, 7, 6]
def tab_2 : List Int := [1, 10, 100, 1000, 10000, 100000, 1000000, 10000000, 100000000, 1000000000, 10000000000, 100000000000, 1000000000000, 10000000000000, 100000000000000, 1000000000000000, 10000000000000000, 100000000000000000, 1000000000000000000, 10000000000000000000]
theorem tab_0_named : Tryd.prog.globalNamed "math/bits.deBruijn32tab" = some 1 := by kernel_rfl
theorem tab_0_type : (Tryd.prog.globals[1]?).map (·.type) = some 77 := by kernel_rfl
theorem tab_0_cells : Tryd.prog.cellsOf 77 = 32 := by kernel_rfl
theorem tab_0_one : Tryd.prog.cellsOf 5 = 1 := by kernel_rfl
theorem tab_1_named : Tryd.prog.globalNamed "math/bits.deBruijn64tab" = some 2 := by kernel_rfl
theorem tab_1_type : (Tryd.prog.globals[2]?).map (·.type) = some 78 := by kernel_rfl
theorem tab_1_cells : Tryd.prog.cellsOf 78 = 64 := by kernel_rfl
theorem tab_1_one : Tryd.prog.cellsOf 5 = 1 := by kernel_rfl
theorem tab_2_named : Tryd.prog.globalNamed "internal/strconv.uint64pow10" = some 0 := by kernel_rfl
theorem tab_2_type : (Tryd.prog.globals[0]?).map (·.type) = some 70 := by kernel_rfl
theorem tab_2_cells : Tryd.prog.cellsOf 70 = 20 := by kernel_rfl
theorem tab_2_one : Tryd.prog.cellsOf 63 = 1 := by kernel_rfl

theorem lawPolicyMods_glob {W : World} (h0 : laidMet Tryd.prog [("math/bits.deBruijn32tab", Lib.tabData .u8 tab_0), ("math/bits.deBruijn64tab", Lib.tabData .u8 tab_1), ("internal/strconv.uint64pow10", Lib.tabData .u64 tab_2)] W) : GlobOk (EnvW W).mem ∧ GszOk W := by
  have t0 := Lib.tabIs_of_head tab_0_named tab_0_type Tryd.underlying77 Tryd.underlying5 tab_0_one tab_0_cells h0
  have h1 := laidMet.tail h0
  have t1 := Lib.tabIs_of_head tab_1_named tab_1_type Tryd.underlying78 Tryd.underlying5 tab_1_one tab_1_cells h1
  have h2 := laidMet.tail h1
  have t2 := Lib.tabIs_of_head tab_2_named tab_2_type Tryd.underlying70 Tryd.underlying63 tab_2_one tab_2_cells h2
  exact glob_both (glob_cons (tab_ok t0 tab_0_named) (glob_cons (tab_ok t1 tab_1_named) (glob_cons (tab_ok t2 tab_2_named) glob_nil)))

theorem lawPolicyMods_own : ownKnob Tryd.prog.godebug = none := by kernel_rfl

theorem lawPolicyMods_args : ∃ (X : Type) (ec : X → List AV) (ok : X → Prop), RdA Tryd.prog Tryd.f3.params.toList ec ok ∧ ∀ y, ok y → ACall Tryd.prog 3 (ec y) [] fun av _ => av = .bool true := by
  refine ⟨_, _, _, rdA_agg (t := 24) (by kernel_rfl) (rd_struct Tryd.underlying24 (N := 3) (by kernel_rfl) (rdF_cons (sz := 1) rfl (by kernel_rfl) (rd_slice1 Tryd.underlying22 (rd_int Tryd.underlying2) (by kernel_rfl)) (rdF_cons (sz := 1) rfl (by kernel_rfl) (rd_int Tryd.underlying2) (rdF_cons (sz := 1) rfl (by kernel_rfl) (rd_int Tryd.underlying2) (rdF_nil rfl))))) rdA_nil, ?_⟩
  rintro ⟨⟨l, lk, ch, _⟩, _⟩ hok
  have hl : (l.length : Int) ≤ 9223372036854775807 := by
    have := hok.1.1.1
    simp only [maxLen] at this
    omega
  exact pmods_k (fs := l) (cap := none) (lk := lk) (ch := ch) (L := []) (K := fun av _ => av = .bool true) hl rfl

noncomputable def lawPolicyMods_world (os : Os) : World := { World.holding Tryd.prog os ⟨#[], #[], []⟩ with heap := ((((World.holding Tryd.prog os ⟨#[], #[], []⟩).heap.modify 1 fun
      | .cells _ t frozen => .cells (tab_0.map (Value.int .u8)).toArray t frozen
      | o => o).modify 2 fun
      | .cells _ t frozen => .cells (tab_1.map (Value.int .u8)).toArray t frozen
      | o => o).modify 0 fun
      | .cells _ t frozen => .cells (tab_2.map (Value.int .u64)).toArray t frozen
      | o => o) }
theorem lawPolicyMods_met (os : Os) : laidMet Tryd.prog Rows.policyModsRow.laid ((lawPolicyMods_world os).forCall (fun _ _ => 0) ⟨#[], #[.agg #[.slice none 0 0, .int .i64 0, .int .i64 0]], []⟩).memory :=
  laidMet_of_run' 8 (by kernel_rfl) (by kernel_rfl)

set_option maxRecDepth 100000 in
theorem lawPolicyMods_lifted (os : Os) (started : os.Started) (H : Type) (enc : TypeId × Value → H) (I : Stop.Interp) :
    ReturnsInHanded {} Tryd.checked os 3 .any ((OpenSpec.ofChange Rows.policyModsSpec).preRow enc Tryd.prog Tryd.f3 Rows.policyModsRow.domain false Rows.policyModsRow.laid) (((OpenSpec.ofChange Rows.policyModsSpec).at I).post enc Tryd.prog Tryd.f3 false true false false) := by
  have hs : (DataW.whole enc Tryd.prog ((lawPolicyMods_world os).forCall (fun _ _ => 0) ⟨#[], #[.agg #[.slice none 0 0, .int .i64 0, .int .i64 0]], []⟩).memory Tryd.f3.params.toList Rows.policyModsSpec.vars false #[.agg #[.slice none 0 0, .int .i64 0, .int .i64 0]].toList 8).isSome = true := by kernel_rfl
  refine returnsInHanded_of_row (C := Tryd.checked) (s := OpenSpec.ofChange Rows.policyModsSpec) lawPolicyMods_own started (by kernel_rfl) Tryd.func3
    (witness_row_at (enc := enc) (C := Tryd.checked) false (lawPolicyMods_world os) #[.agg #[.slice none 0 0, .int .i64 0, .int .i64 0]] rfl (by kernel_rfl) (by kernel_rfl) (by kernel_rfl)
      (OpenSpec.preRow_of_cond 8 (Option.some_get hs).symm (by kernel_rfl) (fun k hk => by cases hk) (by kernel_rfl) (lawPolicyMods_met os))) ?_
  intro W base args ds gs before hval hW _ _ _ hL _ _
  obtain ⟨X, ec, ok, h1, h2⟩ := lawPolicyMods_args
  exact law_contract (tb := 4) Tryd.func3 rfl (by kernel_rfl) (by kernel_rfl) (by kernel_rfl) (by kernel_rfl) (by kernel_rfl) rfl Tryd.underlying4 rfl
    (fun H ds h => match ds, h with | [_], _ => ⟨rfl, rfl, rfl⟩) h1 h2 enc W base args ds gs before hval hW (lawPolicyMods_glob hL)

theorem lawPolicyMods_said : Rows.PolicyModsSaid :=
  OpenClaim.holds_of_cond 3 Tryd.f3 rfl rfl rfl rfl rfl rfl rfl ⟨rfl, rfl, rfl, rfl, rfl⟩ rfl rfl rfl rfl rfl (by kernel_rfl) Tryd.func3 (by kernel_rfl)
    (of_decide_eq_true (by kernel_rfl)) (by unfold Func.isWrapper; first | (rw [if_pos (by decide +kernel)]; kernel_rfl) | (rw [if_neg (by decide +kernel)]; exact ⟨rfl, rfl⟩))
    (fun os started H enc _ F => by rw [OpenClaim.pre_eq_preRow]; exact lawPolicyMods_lifted os started H enc F)

theorem lawPolicyMods_plain (f : FuncId) (fn : Func) (hf : Tryd.pinned.checked.prog.funcNamed "castellan/castellanlaw23.PolicyMods" = some f) (hfn : Tryd.pinned.checked.prog.funcs[f]? = some fn) :
    false = Tryd.pinned.checked.prog.looks [] ∧ ∀ (j : Nat) t, fn.params[j]? = some t → Tryd.pinned.checked.prog.wantsStandIn t = false := by
  obtain rfl : f = 3 := Option.some.inj ((show Tryd.prog.funcNamed "castellan/castellanlaw23.PolicyMods" = some 3 by kernel_rfl).symm.trans hf) |>.symm
  obtain rfl : fn = Tryd.f3 := (Option.some.inj (Tryd.func3.symm.trans hfn)).symm
  refine ⟨by kernel_rfl, fun j t ht => ?_⟩
  have hall : Tryd.f3.params.toList.all (fun t => !Tryd.prog.wantsStandIn t) = true := by kernel_rfl
  have hm : t ∈ Tryd.f3.params.toList := by simpa using Array.mem_of_getElem? ht
  have h2 : Tryd.prog.wantsStandIn t = false := by simpa using List.all_eq_true.1 hall t hm
  exact h2

theorem lawPolicyMods_card : Rows.PolicyModsCardSaid :=
  Claim7.holds_tied_plain_at .later [] _ _ _ _ lawPolicyMods_said (fun _ h => by cases h) (by kernel_rfl) (fun _ h => by cases h) policyMods_row_tie rfl ⟨rfl, rfl⟩ (by kernel_rfl) rfl lawPolicyMods_plain (by kernel_rfl)
end Go.Proofs.YtafghkbedkjpmaaDoor.Av
