/- For every syntax and every value the law SyntaxTwice returns true, and what it was handed reads as it did. -/
import Derived.Test.YtffnflplocbpiaaGreatDoorQT1
import Derived.Test.YtffnflplocbpiaaGreatDoorQAvTu
import Derived.Test.YtffnflplocbpiaaGreatDoorQTwiceF
import Derived.Test.YtffnflplocbpiaaGreatDoorCards
import Derived.Test.YtffnflplocbpiaaGreatDoorTie
import Derived.WalkKit
import Derived.ProofKit
import Derived.OpenShut
import Derived.Deep.DeepHandedRow
import Derived.Lib.LaidTab
set_option linter.unusedSimpArgs false
set_option linter.unusedVariables false
namespace Go.Proofs.YtffnflplocbpiaaGreatDoor.Av
open Go Go.ChangeShapes Go.WideShapes Go.ChangeAt Go.RowKit
set_option maxRecDepth 100000



theorem tabSyntaxTwice_2_named : Tryz.prog.globalNamed "internal/strconv.uint64pow10" = some 6 := by kernel_rfl
def tabSyntaxTwice_2 : List Int := [1, 10, 100, 1000, 10000, 100000, 1000000, 10000000, 100000000, 1000000000, 10000000000, 100000000000, 1000000000000, 10000000000000, 100000000000000, 1000000000000000, 10000000000000000, 100000000000000000, 1000000000000000000, 10000000000000000000]
theorem tabSyntaxTwice_2_type : (Tryz.prog.globals[6]?).map (·.type) = some 133 := by kernel_rfl
theorem tabSyntaxTwice_2_cells : Tryz.prog.cellsOf 133 = 20 := by kernel_rfl
theorem tabSyntaxTwice_2_one : Tryz.prog.cellsOf 88 = 1 := by kernel_rfl
theorem tabSyntaxTwice_4_named : Tryz.prog.globalNamed "strconv.ErrRange" = some 5 := by kernel_rfl
theorem starSyntaxTwice_s : "*" ++ "errors.errorString" = "*errors.errorString" := by decide
theorem starSyntaxTwice_row (u : TypeId) (h : Tryz.prog.typeName? 3 u = some "*errors.errorString") : u = 149 :=
  typeName_ptr_named (nm := "errors.errorString") (by rw [starSyntaxTwice_s]; kernel_rfl) (by kernel_rfl) (by decide) u (by rw [starSyntaxTwice_s]; exact h)
theorem tabSyntaxTwice_4_type : (Tryz.prog.globals[5]?).map (·.type) = some 66 := by kernel_rfl
theorem tabSyntaxTwice_5_named : Tryz.prog.globalNamed "strconv.ErrSyntax" = some 4 := by kernel_rfl
theorem tabSyntaxTwice_5_type : (Tryz.prog.globals[4]?).map (·.type) = some 66 := by kernel_rfl
theorem tabSyntaxTwice_6_named : Tryz.prog.globalNamed "castellan/syntax.days" = some 2 := by kernel_rfl
def tabSyntaxTwice_6 : List Int := [31, 28, 31, 30, 31, 30, 31, 31, 30, 31, 30, 31]
theorem tabSyntaxTwice_6_type : (Tryz.prog.globals[2]?).map (·.type) = some 76 := by kernel_rfl
theorem tabSyntaxTwice_6_cells : Tryz.prog.cellsOf 76 = 12 := by kernel_rfl
theorem tabSyntaxTwice_6_one : Tryz.prog.cellsOf 3 = 1 := by kernel_rfl
theorem lawSyntaxTwice_glob {W : World} (h0 : laidMet Tryz.prog Rows.syntaxTwiceRow.laid W) (hsh : W.ShapedOpen Tryz.prog) : GlobOk (EnvW W).mem ∧ GszOk W := by
  have hu3 : Lib.VarReads Tryz.prog W "unicode/utf8.first" Lib.firstData := by
    have := Lib.laidMet.reads h0 (n := "unicode/utf8.first") (d := Rows.laid_unicode_utf8_first) (List.mem_of_getElem? (i := 7) rfl)
    rwa [show (Rows.laid_unicode_utf8_first : DataW Unit) = Lib.firstData by kernel_rfl] at this
  have hu4 : Lib.VarReads Tryz.prog W "unicode/utf8.acceptRanges" Lib.acceptData := by
    have := Lib.laidMet.reads h0 (n := "unicode/utf8.acceptRanges") (d := Rows.laid_unicode_utf8_acceptRanges) (List.mem_of_getElem? (i := 3) rfl)
    rwa [show (Rows.laid_unicode_utf8_acceptRanges : DataW Unit) = Lib.acceptData by kernel_rfl] at this
  have h1 := laidMet.tail h0
  have h2 := laidMet.tail h1
  have t2 := Lib.tabIs_of_head (zs := tabSyntaxTwice_2) tabSyntaxTwice_2_named tabSyntaxTwice_2_type Tryz.underlying133 Tryz.underlying88 tabSyntaxTwice_2_one tabSyntaxTwice_2_cells h2
  have h3 := laidMet.tail h2
  have h4 := laidMet.tail h3
  obtain ⟨a4, s4, v4, _⟩ := laid_sentinel h4 tabSyntaxTwice_4_named tabSyntaxTwice_4_type Tryz.underlying66 starSyntaxTwice_row Tryz.underlying149 Tryz.underlying151 rfl rfl Tryz.underlying9 (by kernel_rfl) (by kernel_rfl)
  have h5 := laidMet.tail h4
  obtain ⟨a5, s5, v5, _⟩ := laid_sentinel h5 tabSyntaxTwice_5_named tabSyntaxTwice_5_type Tryz.underlying66 starSyntaxTwice_row Tryz.underlying149 Tryz.underlying151 rfl rfl Tryz.underlying9 (by kernel_rfl) (by kernel_rfl)
  have h6 := laidMet.tail h5
  have t6 := Lib.tabIs_of_head (zs := tabSyntaxTwice_6) tabSyntaxTwice_6_named tabSyntaxTwice_6_type Tryz.underlying76 Tryz.underlying3 tabSyntaxTwice_6_one tabSyntaxTwice_6_cells h6
  have h7 := laidMet.tail h6
  have h8 := laidMet.tail h7
  exact glob_both (maxlen_open hsh) (glob_cons (tab_ok t2 tabSyntaxTwice_2_named) (glob_cons (acc_ok hu3 hu4 gtab_1 (by rfl)) (glob_cons (sent_ok v4 tabSyntaxTwice_4_named) (glob_cons (sent_ok v5 tabSyntaxTwice_5_named) (glob_cons (tab_ok t6 tabSyntaxTwice_6_named) (glob_cons (first_ok hu3 hu4 gtab_5 (by rfl)) glob_nil))))))

theorem lawSyntaxTwice_own : ownKnob Tryz.prog.godebug = none := by kernel_rfl

theorem lawSyntaxTwice_args : ∃ (X : Type) (ec : X → List AV) (ok : X → Prop), RdA Tryz.prog Tryz.f7.params.toList ec ok ∧ ∀ y, ok y → ACall Tryz.prog 7 (ec y) [] fun av _ => av = .bool true := by
  refine ⟨_, _, _, rdA_val (t := 3) (by kernel_rfl) (rd_int Tryz.underlying3) (rdA_val (t := 9) (by kernel_rfl) (rd_str Tryz.underlying9) rdA_nil), ?_⟩
  rintro ⟨m, a, _⟩ ⟨hm, ha, _⟩
  exact twice_k (syn := m) (v := a) (L := []) (K := fun av _ => av = .bool true) rfl

noncomputable def lawSyntaxTwice_world (os : Os) : World := { World.holding Tryz.prog os ⟨#[], #[], []⟩ with heap := let h := (World.holding Tryz.prog os ⟨#[], #[], []⟩).heap; ((((((((((h.modify 7 fun
      | .cells _ t frozen => .cells ([Value.int .u8 0, Value.int .u8 1, Value.int .u8 28, Value.int .u8 2, Value.int .u8 29, Value.int .u8 14, Value.int .u8 24, Value.int .u8 3, Value.int .u8 30, Value.int .u8 22, Value.int .u8 20, Value.int .u8 15, Value.int .u8 25, Value.int .u8 17, Value.int .u8 4, Value.int .u8 8, Value.int .u8 31, Value.int .u8 27, Value.int .u8 13, Value.int .u8 23, Value.int .u8 21, Value.int .u8 19, Value.int .u8 16, Value.int .u8 7, Value.int .u8 26, Value.int .u8 12, Value.int .u8 18, Value.int .u8 6, Value.int .u8 11, Value.int .u8 5, Value.int .u8 10, Value.int .u8 9] : List Value).toArray t frozen
      | o => o).modify 8 fun
      | .cells _ t frozen => .cells ([Value.int .u8 0, Value.int .u8 1, Value.int .u8 56, Value.int .u8 2, Value.int .u8 57, Value.int .u8 49, Value.int .u8 28, Value.int .u8 3, Value.int .u8 61, Value.int .u8 58, Value.int .u8 42, Value.int .u8 50, Value.int .u8 38, Value.int .u8 29, Value.int .u8 17, Value.int .u8 4, Value.int .u8 62, Value.int .u8 47, Value.int .u8 59, Value.int .u8 36, Value.int .u8 45, Value.int .u8 43, Value.int .u8 51, Value.int .u8 22, Value.int .u8 53, Value.int .u8 39, Value.int .u8 33, Value.int .u8 30, Value.int .u8 24, Value.int .u8 18, Value.int .u8 12, Value.int .u8 5, Value.int .u8 63, Value.int .u8 55, Value.int .u8 48, Value.int .u8 27, Value.int .u8 60, Value.int .u8 41, Value.int .u8 37, Value.int .u8 16, Value.int .u8 46, Value.int .u8 35, Value.int .u8 44, Value.int .u8 21, Value.int .u8 52, Value.int .u8 32, Value.int .u8 23, Value.int .u8 11, Value.int .u8 54, Value.int .u8 26, Value.int .u8 40, Value.int .u8 15, Value.int .u8 34, Value.int .u8 20, Value.int .u8 31, Value.int .u8 10, Value.int .u8 25, Value.int .u8 14, Value.int .u8 19, Value.int .u8 9, Value.int .u8 13, Value.int .u8 8, Value.int .u8 7, Value.int .u8 6] : List Value).toArray t frozen
      | o => o).modify 6 fun
      | .cells _ t frozen => .cells ([Value.int .u64 1, Value.int .u64 10, Value.int .u64 100, Value.int .u64 1000, Value.int .u64 10000, Value.int .u64 100000, Value.int .u64 1000000, Value.int .u64 10000000, Value.int .u64 100000000, Value.int .u64 1000000000, Value.int .u64 10000000000, Value.int .u64 100000000000, Value.int .u64 1000000000000, Value.int .u64 10000000000000, Value.int .u64 100000000000000, Value.int .u64 1000000000000000, Value.int .u64 10000000000000000, Value.int .u64 100000000000000000, Value.int .u64 1000000000000000000, Value.int .u64 10000000000000000000] : List Value).toArray t frozen
      | o => o).modify 1 fun
      | .cells _ t frozen => .cells ([Value.int .u8 128, Value.int .u8 191, Value.int .u8 160, Value.int .u8 191, Value.int .u8 128, Value.int .u8 159, Value.int .u8 144, Value.int .u8 191, Value.int .u8 128, Value.int .u8 143, Value.int .u8 0, Value.int .u8 0, Value.int .u8 0, Value.int .u8 0, Value.int .u8 0, Value.int .u8 0, Value.int .u8 0, Value.int .u8 0, Value.int .u8 0, Value.int .u8 0, Value.int .u8 0, Value.int .u8 0, Value.int .u8 0, Value.int .u8 0, Value.int .u8 0, Value.int .u8 0, Value.int .u8 0, Value.int .u8 0, Value.int .u8 0, Value.int .u8 0, Value.int .u8 0, Value.int .u8 0] : List Value).toArray t frozen
      | o => o).modify 5 fun
      | .cells _ t frozen => .cells ([Value.iface 149 (.pointer (some ⟨h.size + 0, 0, none⟩))] : List Value).toArray t frozen
      | o => o).modify 4 fun
      | .cells _ t frozen => .cells ([Value.iface 149 (.pointer (some ⟨h.size + 1, 0, none⟩))] : List Value).toArray t frozen
      | o => o).modify 2 fun
      | .cells _ t frozen => .cells ([Value.int .i64 31, Value.int .i64 28, Value.int .i64 31, Value.int .i64 30, Value.int .i64 31, Value.int .i64 30, Value.int .i64 31, Value.int .i64 31, Value.int .i64 30, Value.int .i64 31, Value.int .i64 30, Value.int .i64 31] : List Value).toArray t frozen
      | o => o).modify 0 fun
      | .cells _ t frozen => .cells ((Go.Pinned.utf8FirstZ.map fun (n : Nat) => Value.int .u8 (Int.ofNat n)) : List Value).toArray t frozen
      | o => o).push (.cells (#[Value.string ⟨⟨[118, 97, 108, 117, 101, 32, 111, 117, 116, 32, 111, 102, 32, 114, 97, 110, 103, 101]⟩⟩] : Array Value) 151)).push (.cells (#[Value.string ⟨⟨[105, 110, 118, 97, 108, 105, 100, 32, 115, 121, 110, 116, 97, 120]⟩⟩] : Array Value) 151)) }
theorem lawSyntaxTwice_met (os : Os) : laidMet Tryz.prog Rows.syntaxTwiceRow.laid ((lawSyntaxTwice_world os).forCall (fun _ _ => 0) ⟨#[], #[.int .i64 0, .string ⟨⟨[]⟩⟩], []⟩).memory :=
  laidMet_of_run' 8 (by kernel_rfl) (by kernel_rfl)

set_option maxRecDepth 100000 in
theorem lawSyntaxTwice_lifted (os : Os) (started : os.Started) (H : Type) (enc : TypeId × Value → H) (I : Stop.Interp) :
    ReturnsInHanded {} Tryz.checked os 7 .any ((OpenSpec.ofChange Rows.syntaxTwiceSpec).preRow enc Tryz.prog Tryz.f7 Rows.syntaxTwiceRow.domain false Rows.syntaxTwiceRow.laid) (((OpenSpec.ofChange Rows.syntaxTwiceSpec).at I).post enc Tryz.prog Tryz.f7 false true false false) := by
  have hs : (DataW.whole enc Tryz.prog ((lawSyntaxTwice_world os).forCall (fun _ _ => 0) ⟨#[], #[.int .i64 0, .string ⟨⟨[]⟩⟩], []⟩).memory Tryz.f7.params.toList Rows.syntaxTwiceSpec.vars false #[.int .i64 0, .string ⟨⟨[]⟩⟩].toList 8).isSome = true := by kernel_rfl
  refine returnsInHanded_of_row (C := Tryz.checked) (s := OpenSpec.ofChange Rows.syntaxTwiceSpec) lawSyntaxTwice_own started (by kernel_rfl) Tryz.func7
    (witness_row_at (enc := enc) (C := Tryz.checked) false (lawSyntaxTwice_world os) #[.int .i64 0, .string ⟨⟨[]⟩⟩] rfl (by kernel_rfl) (by kernel_rfl) (by kernel_rfl)
      (OpenSpec.preRow_of_cond 8 (Option.some_get hs).symm (by kernel_rfl) (fun k hk => by cases hk) (by kernel_rfl) (lawSyntaxTwice_met os))) ?_
  intro W base args ds gs before hval hW _ _ _ hL hsh _
  obtain ⟨X, ec, ok, h1, h2⟩ := lawSyntaxTwice_args
  exact law_contract (tb := 4) Tryz.func7 rfl (by kernel_rfl) factSyntaxTwice_5 factSyntaxTwice_6 factSyntaxTwice_7 (by kernel_rfl) rfl Tryz.underlying4 rfl
    (fun H ds h => match ds, h with | [_, _], _ => ⟨rfl, rfl, rfl⟩) h1 h2 enc W base args ds gs before hval hW (lawSyntaxTwice_glob hL hsh)

theorem lawSyntaxTwice_said : Rows.SyntaxTwiceSaid :=
  OpenClaim.holds_of_cond 7 Tryz.f7 rfl rfl rfl rfl rfl rfl rfl ⟨rfl, rfl, rfl, rfl, rfl⟩ rfl rfl rfl rfl rfl factSyntaxTwice_11 Tryz.func7 factSyntaxTwice_closed
    (of_decide_eq_true (by kernel_rfl)) (by unfold Func.isWrapper; first | (rw [if_pos (by decide +kernel)]; kernel_rfl) | (rw [if_neg (by decide +kernel)]; exact ⟨rfl, rfl⟩))
    (fun os started H enc _ F => by rw [OpenClaim.pre_eq_preRow]; exact lawSyntaxTwice_lifted os started H enc F)

theorem lawSyntaxTwice_plain (f : FuncId) (fn : Func) (hf : Tryz.pinned.checked.prog.funcNamed "castellan/castellanlaw12.SyntaxTwice" = some f) (hfn : Tryz.pinned.checked.prog.funcs[f]? = some fn) :
    true = Tryz.pinned.checked.prog.looks [] ∧ ∀ (j : Nat) t, fn.params[j]? = some t → Tryz.pinned.checked.prog.wantsStandIn t = false := by
  obtain rfl : f = 7 := Option.some.inj ((factSyntaxTwice_11).symm.trans hf) |>.symm
  obtain rfl : fn = Tryz.f7 := (Option.some.inj (Tryz.func7.symm.trans hfn)).symm
  refine ⟨(factSyntaxTwice_8).symm, fun j t ht => ?_⟩
  have hall : Tryz.f7.params.toList.all (fun t => !Tryz.prog.wantsStandIn t) = true := factSyntaxTwice_12
  have hm : t ∈ Tryz.f7.params.toList := by simpa using Array.mem_of_getElem? ht
  have h2 : Tryz.prog.wantsStandIn t = false := by simpa using List.all_eq_true.1 hall t hm
  exact h2

theorem lawSyntaxTwice_card : Rows.SyntaxTwiceCardSaid :=
  Claim7.holds_tied_plain_at .later [] _ _ _ _ lawSyntaxTwice_said (fun _ h => by cases h) (by kernel_rfl) (fun _ h => by cases h) syntaxTwice_row_tie rfl ⟨rfl, rfl⟩ factSyntaxTwice_10 rfl lawSyntaxTwice_plain factSyntaxTwice_9
end Go.Proofs.YtffnflplocbpiaaGreatDoor.Av
