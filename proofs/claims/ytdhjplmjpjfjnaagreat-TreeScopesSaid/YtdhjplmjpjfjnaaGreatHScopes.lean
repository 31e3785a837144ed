/- Joined texts of the walk, made small by a program. -/
import Derived.Test.YtdhjplmjpjfjnaaGreatHYA
import Derived.Test.YtdhjplmjpjfjnaaGreatHTrX
import Derived.Test.YtdhjplmjpjfjnaaGreatHTrRa
import Derived.Test.YtdhjplmjpjfjnaaGreatHP5
import Derived.Test.YtdhjplmjpjfjnaaGreatHxScopes
set_option linter.unusedSimpArgs false
set_option linter.unusedVariables false
namespace Go.Proofs.YtdhjplmjpjfjnaaGreat.Av
open Go Go.ChangeShapes Go.WideShapes Go.ChangeAt Go.RowKit
set_option maxRecDepth 100000
theorem afv:ownKnob Tryz.prog.godebug=none:=by kernel_rfl
theorem afu:∃ (X:Type) (ec:X→List AV) (ok:X→Prop),MK Tryz.prog Tryz.f3.params.toList ec ok∧∀ y,ok y→ab Tryz.prog 3 (ec y) [] fun av _=>av=.bool true:=by
 refine ⟨_,_,_,Dl (t:=23) (by kernel_rfl) Fv (Dl (t:=24) (by kernel_rfl) Jc (Qt (t:=25) (by kernel_rfl) afz Ku)),?_⟩
 rintro ⟨suf,us,⟨a0,a1⟩,_⟩ ⟨hs,hu,_⟩
 exact afx hs hu.1 hu.2 (K:=fun av _=>av=.bool true) rfl
theorem P2 (os:Os) (started:os.Started) (H:Type) (enc:TypeId×Value→H) :
   ReturnsInHanded {} Tryz.checked os 3 .any (Rows.treeScopesSpec.pre6 enc Tryz.prog Tryz.f3 Rows.treeScopesRow.domain false) (Rows.treeScopesSpec.post enc Tryz.prog Tryz.f3 false true false false):=by
 refine FX (C:=Tryz.checked) (s:=Rows.treeScopesSpec) afv started (by kernel_rfl) Tryz.func3
   (ChangeSpec.witness6 (enc:=enc) (C:=Tryz.checked) (s:=Rows.treeScopesSpec) false ⟨#[],#[.slice none 0 0,.slice none 0 0,.agg #[.int .i64 0,.int .i64 0]],[]⟩ 8 (by kernel_rfl) (by kernel_rfl) (by kernel_rfl) (by kernel_rfl) (by kernel_rfl)) ?_
 intro W base args ds gs before hval hW hsz
 obtain ⟨X,ec,ok,h1,h2⟩:=afu
 exact Ey (tb:=4) Tryz.func3 rfl (by kernel_rfl) (by kernel_rfl) (by kernel_rfl) (by kernel_rfl) (by kernel_rfl) rfl Tryz.underlying4 rfl
   (fun H ds h=>match ds,h with|[_,_,_],_=>⟨rfl,rfl,rfl⟩) h2 enc W args ds gs before (fun p hp=>h1 _ enc W base args.toList ds p (fun j t v a b=>hval j t v (by simpa using a) (by simpa using b)) hp (fun n hn=>of_decide_eq_true (List.all_eq_true.1 hsz n (oD hn)))) hW ⟨⟨fun p hp=>by simp [qe] at hp,fun p hp=>by simp [Iz] at hp⟩,fun p hp=>by simp [qe] at hp⟩
theorem lawTreeScopes_holds:Rows.TreeScopesSaid :=
 OpenClaim.holds_of_wide 3 Tryz.f3 rfl rfl rfl rfl rfl rfl rfl ⟨rfl,rfl,rfl,rfl,rfl⟩ rfl rfl rfl rfl rfl (by kernel_rfl) Tryz.func3 (by kernel_rfl)
   (of_decide_eq_true (by kernel_rfl)) (by unfold Func.isWrapper;first|(rw [if_pos (by decide +kernel)];kernel_rfl)|(rw [if_neg (by decide +kernel)];exact ⟨rfl,rfl⟩))
   (fun os started H enc _=>P2 os started H enc)
end Go.Proofs.YtdhjplmjpjfjnaaGreat.Av
