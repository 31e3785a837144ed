/- For every syntax, every value and all pieces the law SyntaxLikes returns true, and what it was handed reads as it did. -/
import Derived.Test.YtffnflplocbpiaaGreatDoorQR4
import Derived.Test.YtffnflplocbpiaaGreatDoorQP5
import Derived.Test.YtffnflplocbpiaaGreatDoorQAvTu
import Derived.Test.YtffnflplocbpiaaGreatDoorQLikesF
import Derived.Test.YtffnflplocbpiaaGreatDoorCards
import Derived.Test.YtffnflplocbpiaaGreatDoorTie
import Derived.WalkKit
import Derived.ProofKit
import Derived.OpenShut
import Derived.Deep.DeepHandedRow
import Derived.Lib.LaidTab
set_option linter.unusedSimpArgs false
set_option linter.unusedVariables false
namespace Go.Proofs.YtffnflplocbpiaaGreatDoor.Av
open Go Go.ChangeShapes Go.WideShapes Go.ChangeAt Go.RowKit
set_option maxRecDepth 100000



theorem tabSyntaxLikes_2_named : Tryz.prog.globalNamed "internal/strconv.uint64pow10" = some 6 := by kernel_rfl
def tabSyntaxLikes_2 : List Int := [1, 10, 100, 1000, 10000, 100000, 1000000, 10000000, 100000000, 1000000000, 10000000000, 100000000000, 1000000000000, 10000000000000, 100000000000000, 1000000000000000, 10000000000000000, 100000000000000000, 1000000000000000000, 10000000000000000000]
theorem tabSyntaxLikes_2_type : (Tryz.prog.globals[6]?).map (·.type) = some 133 := by kernel_rfl
theorem tabSyntaxLikes_2_cells : Tryz.prog.cellsOf 133 = 20 := by kernel_rfl
theorem tabSyntaxLikes_2_one : Tryz.prog.cellsOf 88 = 1 := by kernel_rfl
theorem tabSyntaxLikes_4_named : Tryz.prog.globalNamed "strconv.ErrRange" = some 5 := by kernel_rfl
theorem starSyntaxLikes_s : "*" ++ "errors.errorString" = "*errors.errorString" := by decide
theorem starSyntaxLikes_row (u : TypeId) (h : Tryz.prog.typeName? 3 u = some "*errors.errorString") : u = 149 :=
  typeName_ptr_named (nm := "errors.errorString") (by rw [starSyntaxLikes_s]; kernel_rfl) (by kernel_rfl) (by decide) u (by rw [starSyntaxLikes_s]; exact h)
theorem tabSyntaxLikes_4_type : (Tryz.prog.globals[5]?).map (·.type) = some 66 := by kernel_rfl
theorem tabSyntaxLikes_5_named : Tryz.prog.globalNamed "strconv.ErrSyntax" = some 4 := by kernel_rfl
theorem tabSyntaxLikes_5_type : (Tryz.prog.globals[4]?).map (·.type) = some 66 := by kernel_rfl
theorem tabSyntaxLikes_6_named : Tryz.prog.globalNamed "castellan/syntax.days" = some 2 := by kernel_rfl
def tabSyntaxLikes_6 : List Int := [31, 28, 31, 30, 31, 30, 31, 31, 30, 31, 30, 31]
theorem tabSyntaxLikes_6_type : (Tryz.prog.globals[2]?).map (·.type) = some 76 := by kernel_rfl
theorem tabSyntaxLikes_6_cells : Tryz.prog.cellsOf 76 = 12 := by kernel_rfl
theorem tabSyntaxLikes_6_one : Tryz.prog.cellsOf 3 = 1 := by kernel_rfl
theorem lawSyntaxLikes_glob {W : World} (h0 : laidMet Tryz.prog Rows.syntaxLikesRow.laid W) (hsh : W.ShapedOpen Tryz.prog) : GlobOk (EnvW W).mem ∧ GszOk W := by
  have hu3 : Lib.VarReads Tryz.prog W "unicode/utf8.first" Lib.firstData := by
    have := Lib.laidMet.reads h0 (n := "unicode/utf8.first") (d := Rows.laid_unicode_utf8_first) (List.mem_of_getElem? (i := 7) rfl)
    rwa [show (Rows.laid_unicode_utf8_first : DataW Unit) = Lib.firstData by kernel_rfl] at this
  have hu4 : Lib.VarReads Tryz.prog W "unicode/utf8.acceptRanges" Lib.acceptData := by
    have := Lib.laidMet.reads h0 (n := "unicode/utf8.acceptRanges") (d := Rows.laid_unicode_utf8_acceptRanges) (List.mem_of_getElem? (i := 3) rfl)
    rwa [show (Rows.laid_unicode_utf8_acceptRanges : DataW Unit) = Lib.acceptData by kernel_rfl] at this
  have h1 := laidMet.tail h0
  have h2 := laidMet.tail h1
  have t2 := Lib.tabIs_of_head (zs := tabSyntaxLikes_2) tabSyntaxLikes_2_named tabSyntaxLikes_2_type Tryz.underlying133 Tryz.underlying88 tabSyntaxLikes_2_one tabSyntaxLikes_2_cells h2
  have h3 := laidMet.tail h2
  have h4 := laidMet.tail h3
  obtain ⟨a4, s4, v4, _⟩ := laid_sentinel h4 tabSyntaxLikes_4_named tabSyntaxLikes_4_type Tryz.underlying66 starSyntaxLikes_row Tryz.underlying149 Tryz.underlying151 rfl rfl Tryz.underlying9 (by kernel_rfl) (by kernel_rfl)
  have h5 := laidMet.tail h4
  obtain ⟨a5, s5, v5, _⟩ := laid_sentinel h5 tabSyntaxLikes_5_named tabSyntaxLikes_5_type Tryz.underlying66 starSyntaxLikes_row Tryz.underlying149 Tryz.underlying151 rfl rfl Tryz.underlying9 (by kernel_rfl) (by kernel_rfl)
  have h6 := laidMet.tail h5
  have t6 := Lib.tabIs_of_head (zs := tabSyntaxLikes_6) tabSyntaxLikes_6_named tabSyntaxLikes_6_type Tryz.underlying76 Tryz.underlying3 tabSyntaxLikes_6_one tabSyntaxLikes_6_cells h6
  have h7 := laidMet.tail h6
  have h8 := laidMet.tail h7
  exact glob_both (maxlen_open hsh) (glob_cons (tab_ok t2 tabSyntaxLikes_2_named) (glob_cons (acc_ok hu3 hu4 gtab_1 (by rfl)) (glob_cons (sent_ok v4 tabSyntaxLikes_4_named) (glob_cons (sent_ok v5 tabSyntaxLikes_5_named) (glob_cons (tab_ok t6 tabSyntaxLikes_6_named) (glob_cons (first_ok hu3 hu4 gtab_5 (by rfl)) glob_nil))))))

theorem lawSyntaxLikes_own : ownKnob Tryz.prog.godebug = none := by kernel_rfl

theorem lawSyntaxLikes_args : ∃ (X : Type) (ec : X → List AV) (ok : X → Prop), RdAZ Tryz.prog Tryz.f5.params.toList ec ok ∧ ∀ y, ok y → ACall Tryz.prog 5 (ec y) [] fun av _ => av = .bool true := by
  refine ⟨_, _, _, rdaz_val (t := 3) (by kernel_rfl) (Rd.z (rd_int Tryz.underlying3)) (rdaz_val (t := 9) (by kernel_rfl) (Rd.z (rd_str Tryz.underlying9)) (rdaz_val (t := 29) (by kernel_rfl) (rdz_slice Tryz.underlying29 (rdz_struct Tryz.underlying36 (N := 2) (by kernel_rfl) (rdfz_cons (sz := 1) rfl (by kernel_rfl) (Rd.z (rd_int Tryz.underlying3)) (rdfz_cons (sz := 1) rfl (by kernel_rfl) (rdz_str Tryz.underlying9) (rdfz_nil rfl)))) (by kernel_rfl)) rdaz_nil)), ?_⟩
  rintro ⟨m, a, l, _⟩ ⟨hm, ha, hl, _⟩
  have e1 : ∀ l : List (Int × List UInt8 × Unit), (l.flatMap fun y => [AV.int .i64 y.1] ++ ([AV.str y.2.1] ++ [])) = pcsA (l.map fun y => (y.1, y.2.1)) := fun l => by
    induction l with
    | nil => rfl
    | cons y l ih => rw [List.flatMap_cons, ih]; rfl
  have e2 : l.length = (l.map fun y => (y.1, y.2.1)).length := by simp
  simp only at hl
  have h3 : ∀ p ∈ l.map (fun y : Int × List UInt8 × Unit => (y.1, y.2.1)), (p.2.length : Int) ≤ 140737488351232 := fun p hp => by
    obtain ⟨y, hy, rfl⟩ := List.mem_map.1 hp
    have := (hl.2 y hy).2.1
    simp only [reachBytes] at this
    simp only
    omega
  have h4 : ((l.map fun y : Int × List UInt8 × Unit => (y.1, y.2.1)).length : Int) ≤ 9223372036854775807 := by
    have := hl.1
    simp only [maxLen] at this
    rw [← e2]; omega
  have := likes_k (syn := m) (v := a) (l := l.map fun y => (y.1, y.2.1)) (cap := none) h4 h3 (L := []) (K := fun av _ => av = .bool true) rfl
  rw [← e1, ← e2] at this
  exact this

noncomputable def lawSyntaxLikes_world (os : Os) : World := { World.holding Tryz.prog os ⟨#[], #[], []⟩ with heap := let h := (World.holding Tryz.prog os ⟨#[], #[], []⟩).heap; ((((((((((h.modify 7 fun
      | .cells _ t frozen => .cells ([Value.int .u8 0, Value.int .u8 1, Value.int .u8 28, Value.int .u8 2, Value.int .u8 29, Value.int .u8 14, Value.int .u8 24, Value.int .u8 3, Value.int .u8 30, Value.int .u8 22, Value.int .u8 20, Value.int .u8 15, Value.int .u8 25, Value.int .u8 17, Value.int .u8 4, Value.int .u8 8, Value.int .u8 31, Value.int .u8 27, Value.int .u8 13, Value.int .u8 23, Value.int .u8 21, Value.int .u8 19, Value.int .u8 16, Value.int .u8 7, Value.int .u8 26, Value.int .u8 12, Value.int .u8 18, Value.int .u8 6, Value.int .u8 11, Value.int .u8 5, Value.int .u8 10, Value.int .u8 9] : List Value).toArray t frozen
      | o => o).modify 8 fun
      | .cells _ t frozen => .cells ([Value.int .u8 0, Value.int .u8 1, Value.int .u8 56, Value.int .u8 2, Value.int .u8 57, Value.int .u8 49, Value.int .u8 28, Value.int .u8 3, Value.int .u8 61, Value.int .u8 58, Value.int .u8 42, Value.int .u8 50, Value.int .u8 38, Value.int .u8 29, Value.int .u8 17, Value.int .u8 4, Value.int .u8 62, Value.int .u8 47, Value.int .u8 59, Value.int .u8 36, Value.int .u8 45, Value.int .u8 43, Value.int .u8 51, Value.int .u8 22, Value.int .u8 53, Value.int .u8 39, Value.int .u8 33, Value.int .u8 30, Value.int .u8 24, Value.int .u8 18, Value.int .u8 12, Value.int .u8 5, Value.int .u8 63, Value.int .u8 55, Value.int .u8 48, Value.int .u8 27, Value.int .u8 60, Value.int .u8 41, Value.int .u8 37, Value.int .u8 16, Value.int .u8 46, Value.int .u8 35, Value.int .u8 44, Value.int .u8 21, Value.int .u8 52, Value.int .u8 32, Value.int .u8 23, Value.int .u8 11, Value.int .u8 54, Value.int .u8 26, Value.int .u8 40, Value.int .u8 15, Value.int .u8 34, Value.int .u8 20, Value.int .u8 31, Value.int .u8 10, Value.int .u8 25, Value.int .u8 14, Value.int .u8 19, Value.int .u8 9, Value.int .u8 13, Value.int .u8 8, Value.int .u8 7, Value.int .u8 6] : List Value).toArray t frozen
      | o => o).modify 6 fun
      | .cells _ t frozen => .cells ([Value.int .u64 1, Value.int .u64 10, Value.int .u64 100, Value.int .u64 1000, Value.int .u64 10000, Value.int .u64 100000, Value.int .u64 1000000, Value.int .u64 10000000, Value.int .u64 100000000, Value.int .u64 1000000000, Value.int .u64 10000000000, Value.int .u64 100000000000, Value.int .u64 1000000000000, Value.int .u64 10000000000000, Value.int .u64 100000000000000, Value.int .u64 1000000000000000, Value.int .u64 10000000000000000, Value.int .u64 100000000000000000, Value.int .u64 1000000000000000000, Value.int .u64 10000000000000000000] : List Value).toArray t frozen
      | o => o).modify 1 fun
      | .cells _ t frozen => .cells ([Value.int .u8 128, Value.int .u8 191, Value.int .u8 160, Value.int .u8 191, Value.int .u8 128, Value.int .u8 159, Value.int .u8 144, Value.int .u8 191, Value.int .u8 128, Value.int .u8 143, Value.int .u8 0, Value.int .u8 0, Value.int .u8 0, Value.int .u8 0, Value.int .u8 0, Value.int .u8 0, Value.int .u8 0, Value.int .u8 0, Value.int .u8 0, Value.int .u8 0, Value.int .u8 0, Value.int .u8 0, Value.int .u8 0, Value.int .u8 0, Value.int .u8 0, Value.int .u8 0, Value.int .u8 0, Value.int .u8 0, Value.int .u8 0, Value.int .u8 0, Value.int .u8 0, Value.int .u8 0] : List Value).toArray t frozen
      | o => o).modify 5 fun
      | .cells _ t frozen => .cells ([Value.iface 149 (.pointer (some ⟨h.size + 0, 0, none⟩))] : List Value).toArray t frozen
      | o => o).modify 4 fun
      | .cells _ t frozen => .cells ([Value.iface 149 (.pointer (some ⟨h.size + 1, 0, none⟩))] : List Value).toArray t frozen
      | o => o).modify 2 fun
      | .cells _ t frozen => .cells ([Value.int .i64 31, Value.int .i64 28, Value.int .i64 31, Value.int .i64 30, Value.int .i64 31, Value.int .i64 30, Value.int .i64 31, Value.int .i64 31, Value.int .i64 30, Value.int .i64 31, Value.int .i64 30, Value.int .i64 31] : List Value).toArray t frozen
      | o => o).modify 0 fun
      | .cells _ t frozen => .cells ((Go.Pinned.utf8FirstZ.map fun (n : Nat) => Value.int .u8 (Int.ofNat n)) : List Value).toArray t frozen
      | o => o).push (.cells (#[Value.string ⟨⟨[118, 97, 108, 117, 101, 32, 111, 117, 116, 32, 111, 102, 32, 114, 97, 110, 103, 101]⟩⟩] : Array Value) 151)).push (.cells (#[Value.string ⟨⟨[105, 110, 118, 97, 108, 105, 100, 32, 115, 121, 110, 116, 97, 120]⟩⟩] : Array Value) 151)) }
theorem lawSyntaxLikes_met (os : Os) : laidMet Tryz.prog Rows.syntaxLikesRow.laid ((lawSyntaxLikes_world os).forCall (fun _ _ => 0) ⟨#[], #[.int .i64 0, .string ⟨⟨[]⟩⟩, .slice none 0 0], []⟩).memory :=
  laidMet_of_run' 8 (by kernel_rfl) (by kernel_rfl)

set_option maxRecDepth 100000 in
theorem lawSyntaxLikes_lifted (os : Os) (started : os.Started) (H : Type) (enc : TypeId × Value → H) (I : Stop.Interp) :
    ReturnsInHanded {} Tryz.checked os 5 .any ((OpenSpec.ofChange Rows.syntaxLikesSpec).preRow enc Tryz.prog Tryz.f5 Rows.syntaxLikesRow.domain false Rows.syntaxLikesRow.laid) (((OpenSpec.ofChange Rows.syntaxLikesSpec).at I).post enc Tryz.prog Tryz.f5 false true false false) := by
  have hs : (DataW.whole enc Tryz.prog ((lawSyntaxLikes_world os).forCall (fun _ _ => 0) ⟨#[], #[.int .i64 0, .string ⟨⟨[]⟩⟩, .slice none 0 0], []⟩).memory Tryz.f5.params.toList Rows.syntaxLikesSpec.vars false #[.int .i64 0, .string ⟨⟨[]⟩⟩, .slice none 0 0].toList 8).isSome = true := by kernel_rfl
  refine returnsInHanded_of_row (C := Tryz.checked) (s := OpenSpec.ofChange Rows.syntaxLikesSpec) lawSyntaxLikes_own started (by kernel_rfl) Tryz.func5
    (witness_row_at (enc := enc) (C := Tryz.checked) false (lawSyntaxLikes_world os) #[.int .i64 0, .string ⟨⟨[]⟩⟩, .slice none 0 0] rfl (by kernel_rfl) (by kernel_rfl) (by kernel_rfl)
      (OpenSpec.preRow_of_cond 8 (Option.some_get hs).symm (by kernel_rfl) (fun k hk => by cases hk) (by kernel_rfl) (lawSyntaxLikes_met os))) ?_
  intro W base args ds gs before hval hW _ _ hsz hL hsh _
  obtain ⟨X, ec, ok, h1, h2⟩ := lawSyntaxLikes_args
  exact law_contractY (tb := 4) Tryz.func5 rfl (by kernel_rfl) factSyntaxLikes_5 factSyntaxLikes_6 factSyntaxLikes_7 (by kernel_rfl) rfl Tryz.underlying4 rfl
    (fun H ds h => match ds, h with | [_, _, _], _ => ⟨rfl, rfl, rfl⟩) h2 enc W args ds gs before (fun p hp => h1 _ enc W base args.toList ds p (fun j t v a b => hval j t v (by simpa using a) (by simpa using b)) hp (fun n hn => of_decide_eq_true (List.all_eq_true.1 hsz n (weightsEach_more hn)))) hW (lawSyntaxLikes_glob hL hsh)

theorem lawSyntaxLikes_said : Rows.SyntaxLikesSaid :=
  OpenClaim.holds_of_cond 5 Tryz.f5 rfl rfl rfl rfl rfl rfl rfl ⟨rfl, rfl, rfl, rfl, rfl⟩ rfl rfl rfl rfl rfl factSyntaxLikes_11 Tryz.func5 factSyntaxLikes_closed
    (of_decide_eq_true (by kernel_rfl)) (by unfold Func.isWrapper; first | (rw [if_pos (by decide +kernel)]; kernel_rfl) | (rw [if_neg (by decide +kernel)]; exact ⟨rfl, rfl⟩))
    (fun os started H enc _ F => by rw [OpenClaim.pre_eq_preRow]; exact lawSyntaxLikes_lifted os started H enc F)

theorem lawSyntaxLikes_plain (f : FuncId) (fn : Func) (hf : Tryz.pinned.checked.prog.funcNamed "castellan/castellanlaw12.SyntaxLikes" = some f) (hfn : Tryz.pinned.checked.prog.funcs[f]? = some fn) :
    true = Tryz.pinned.checked.prog.looks [] ∧ ∀ (j : Nat) t, fn.params[j]? = some t → Tryz.pinned.checked.prog.wantsStandIn t = false := by
  obtain rfl : f = 5 := Option.some.inj ((factSyntaxLikes_11).symm.trans hf) |>.symm
  obtain rfl : fn = Tryz.f5 := (Option.some.inj (Tryz.func5.symm.trans hfn)).symm
  refine ⟨(factSyntaxLikes_8).symm, fun j t ht => ?_⟩
  have hall : Tryz.f5.params.toList.all (fun t => !Tryz.prog.wantsStandIn t) = true := factSyntaxLikes_12
  have hm : t ∈ Tryz.f5.params.toList := by simpa using Array.mem_of_getElem? ht
  have h2 : Tryz.prog.wantsStandIn t = false := by simpa using List.all_eq_true.1 hall t hm
  exact h2

theorem lawSyntaxLikes_card : Rows.SyntaxLikesCardSaid :=
  Claim7.holds_tied_plain_at .later [] _ _ _ _ lawSyntaxLikes_said (fun _ h => by cases h) (by kernel_rfl) (fun _ h => by cases h) syntaxLikes_row_tie rfl ⟨rfl, rfl⟩ factSyntaxLikes_10 rfl lawSyntaxLikes_plain factSyntaxLikes_9
end Go.Proofs.YtffnflplocbpiaaGreatDoor.Av
