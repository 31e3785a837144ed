/- Joined texts of the walk, made small by a program. -/
import Derived.Test.YtdhjplmjpjfjnaaGreatHYA
import Derived.Test.YtdhjplmjpjfjnaaGreatHTrZi
import Derived.Test.YtdhjplmjpjfjnaaGreatHY2
import Derived.Test.YtdhjplmjpjfjnaaGreatHTrX
import Derived.Test.YtdhjplmjpjfjnaaGreatHP5
import Derived.Test.YtdhjplmjpjfjnaaGreatHxWhole
set_option linter.unusedSimpArgs false
set_option linter.unusedVariables false
namespace Go.Proofs.YtdhjplmjpjfjnaaGreat.Av
open Go Go.ChangeShapes Go.WideShapes Go.ChangeAt Go.RowKit
set_option maxRecDepth 100000
theorem afz:ownKnob Tryz.prog.godebug=none:=by kernel_rfl
theorem afy:∃ (X:Type) (ec:X→List AV) (ok:X→Prop),MK Tryz.prog Tryz.f5.params.toList ec ok∧∀ y,ok y→ab Tryz.prog 5 (ec y) [] fun av _=>av=.bool true:=by
 refine ⟨_,_,_,Dl (t:=23) (by kernel_rfl) Fv (Dl (t:=24) (by kernel_rfl) Jc Ku),?_⟩
 rintro ⟨suf,us,_⟩ ⟨hs,hu,_⟩
 exact afK hs hu.1 hu.2 (K:=fun av _=>av=.bool true) rfl
theorem afw (os:Os) (started:os.Started) (H:Type) (enc:TypeId×Value→H) :
   ReturnsInHanded {} Tryz.checked os 5 .any (Rows.treeWholeSpec.pre6 enc Tryz.prog Tryz.f5 Rows.treeWholeRow.domain false) (Rows.treeWholeSpec.post enc Tryz.prog Tryz.f5 false true false false):=by
 refine FX (C:=Tryz.checked) (s:=Rows.treeWholeSpec) afz started (by kernel_rfl) Tryz.func5
   (ChangeSpec.witness6 (enc:=enc) (C:=Tryz.checked) (s:=Rows.treeWholeSpec) false ⟨#[],#[.slice none 0 0,.slice none 0 0],[]⟩ 8 (by kernel_rfl) (by kernel_rfl) (by kernel_rfl) (by kernel_rfl) (by kernel_rfl)) ?_
 intro W base args ds gs before hval hW hsz
 obtain ⟨X,ec,ok,h1,h2⟩:=afy
 exact Ey (tb:=4) Tryz.func5 rfl (by kernel_rfl) (by kernel_rfl) (by kernel_rfl) (by kernel_rfl) (by kernel_rfl) rfl Tryz.underlying4 rfl
   (fun H ds h=>match ds,h with|[_,_],_=>⟨rfl,rfl,rfl⟩) h2 enc W args ds gs before (fun p hp=>h1 _ enc W base args.toList ds p (fun j t v a b=>hval j t v (by simpa using a) (by simpa using b)) hp (fun n hn=>of_decide_eq_true (List.all_eq_true.1 hsz n (oD hn)))) hW ⟨⟨fun p hp=>by simp [qe] at hp,fun p hp=>by simp [Iz] at hp⟩,fun p hp=>by simp [qe] at hp⟩
theorem lawTreeWhole_holds:Rows.TreeWholeSaid :=
 OpenClaim.holds_of_wide 5 Tryz.f5 rfl rfl rfl rfl rfl rfl rfl ⟨rfl,rfl,rfl,rfl,rfl⟩ rfl rfl rfl rfl rfl (by kernel_rfl) Tryz.func5 (by kernel_rfl)
   (of_decide_eq_true (by kernel_rfl)) (by unfold Func.isWrapper;first|(rw [if_pos (by decide +kernel)];kernel_rfl)|(rw [if_neg (by decide +kernel)];exact ⟨rfl,rfl⟩))
   (fun os started H enc _=>afw os started H enc)
end Go.Proofs.YtdhjplmjpjfjnaaGreat.Av
