/- Joined texts of the walk, made small by a program. -/
import Derived.Test.YtgpnbkdcdmfgcaaGreatZC4
import Derived.Test.YtgpnbkdcdmfgcaaGreatZP5
set_option linter.unusedSimpArgs false
set_option linter.unusedVariables false
namespace Go.Proofs.YtgpnbkdcdmfgcaaGreat.Av
open Go Go.ChangeShapes Go.WideShapes Go.ChangeAt Go.RowKit
set_option maxRecDepth 100000
theorem rP:ownKnob Tryz.prog.godebug=none:=by kernel_rfl
theorem rk:∃ (X:Type) (ec:X→List AV) (ok:X→Prop),HY Tryz.prog Tryz.f3.params.toList ec ok∧∀ y,ok y→ab Tryz.prog 3 (ec y) [] fun av _=>av=.bool true:=by
 refine ⟨_,_,_,FW (t:=26) (by kernel_rfl) Hq FV,?_⟩
 rintro ⟨u,_⟩ ⟨hu,_⟩
 exact Ft (u:=u) hu (L:=[]) (K:=fun av _=>av=.bool true) rfl
theorem kW (os:Os) (started:os.Started) (H:Type) (enc:TypeId×Value→H) :
   ReturnsInHanded {} Tryz.checked os 3 .any (Rows.recordWritesSpec.pre6 enc Tryz.prog Tryz.f3 Rows.recordWritesRow.domain false) (Rows.recordWritesSpec.post enc Tryz.prog Tryz.f3 false true false false):=by
 refine BS (C:=Tryz.checked) (s:=Rows.recordWritesSpec) rP started (by kernel_rfl) Tryz.func3
   (ChangeSpec.witness6 (enc:=enc) (C:=Tryz.checked) (s:=Rows.recordWritesSpec) false ⟨#[],#[.agg #[.int .i64 0,.slice none 0 0,.slice none 0 0,.slice none 0 0]],[]⟩ 8 (by kernel_rfl) (by kernel_rfl) (by kernel_rfl) (by kernel_rfl) (by kernel_rfl)) ?_
 intro W base args ds gs before hval hW hsz
 obtain ⟨X,ec,ok,h1,h2⟩:=rk
 exact AH (tb:=4) Tryz.func3 rfl (by kernel_rfl) (by kernel_rfl) (by kernel_rfl) (by kernel_rfl) (by kernel_rfl) rfl Tryz.underlying4 rfl
   (fun H ds h=>match ds,h with|[_],_=>⟨rfl,rfl,rfl⟩) h2 enc W args ds gs before (fun p hp=>h1 _ enc W base args.toList ds p (fun j t v a b=>hval j t v (by simpa using a) (by simpa using b)) hp (fun n hn=>of_decide_eq_true (List.all_eq_true.1 hsz n (iT hn)))) hW ⟨⟨fun p hp=>by simp [kY] at hp,fun p hp=>by simp [DZ] at hp⟩,fun p hp=>by simp [kY] at hp⟩
theorem lawRecordWrites_holds:Rows.RecordWritesSaid :=
 OpenClaim.holds_of_wide 3 Tryz.f3 rfl rfl rfl rfl rfl rfl rfl ⟨rfl,rfl,rfl,rfl,rfl⟩ rfl rfl rfl rfl rfl (by kernel_rfl) Tryz.func3 (by kernel_rfl)
   (of_decide_eq_true (by kernel_rfl)) (by unfold Func.isWrapper;first|(rw [if_pos (by decide +kernel)];kernel_rfl)|(rw [if_neg (by decide +kernel)];exact ⟨rfl,rfl⟩))
   (fun os started H enc _=>kW os started H enc)
end Go.Proofs.YtgpnbkdcdmfgcaaGreat.Av
