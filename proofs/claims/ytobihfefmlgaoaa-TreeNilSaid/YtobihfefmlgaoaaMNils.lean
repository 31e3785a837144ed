/- Joined texts of the walk, made small by a program. -/
import Derived.Test.YtobihfefmlgaoaaMk13
import Derived.Test.YtobihfefmlgaoaaMk5
set_option linter.unusedSimpArgs false
set_option linter.unusedVariables false
namespace Go.Proofs.Ytobihfefmlgaoaa.Av
open Go Go.ChangeShapes Go.WideShapes Go.ChangeAt Go.RowKit
set_option maxRecDepth 100000
theorem sS:ownKnob Try.prog.godebug=none:=by kernel_rfl
theorem rR:∃ (X:Type) (ec:X->List AV) (ok:X->Prop),E9 Try.prog Try.f3.params.toList ec ok/\∀ y,ok y->Fv 3 (ec y) [] fun av _=>av=.bool true:=by
 refine ⟨_,_,_,z7,?_⟩;rintro _ _;exact yz (K:=fun av _=>av=.bool true) rfl
theorem qp (os:Os) (started:os.Started) (H:Type) (enc:TypeId×Value->H) :
  ReturnsInHanded {} Try.checked os 3 .any (Rows.treeNilSpec.pre6 enc Try.prog Try.f3 Rows.treeNilRow.domain false) (Rows.treeNilSpec.post enc Try.prog Try.f3 false true false false):=by
 refine vg (C:=Try.checked) (s:=Rows.treeNilSpec) sS started (by kernel_rfl) Try.func3
  (ChangeSpec.witness6 (enc:=enc) (C:=Try.checked) (s:=Rows.treeNilSpec) false ⟨#[],#[],[]⟩ 8 (by kernel_rfl) (by kernel_rfl) (by kernel_rfl) (by kernel_rfl) (by kernel_rfl)) ?_
 intro W base args ds gs before hval hW hsz;obtain ⟨X,ec,ok,h1,h2⟩:=rR;exact tR (tb:=4) Try.func3 rfl (by kernel_rfl) (by kernel_rfl) (by kernel_rfl) (by kernel_rfl) (by kernel_rfl) rfl Try.underlying4 rfl
  (fun H ds h=>match ds,h with|[],_=>⟨rfl,rfl,rfl⟩) h2 enc W args ds gs before (fun p hp=>h1 _ enc W base args.toList ds p (fun j t v a b=>by simp at a) hp (fun n hn=>of_decide_eq_true (FH.1 hsz n (kw hn)))) hW ⟨⟨fun p hp=>by simp [lw] at hp,fun p hp=>by simp [xW] at hp⟩,fun p hp=>by simp [lw] at hp⟩
theorem lawTreeNil_holds:Rows.TreeNilSaid :=
 OpenClaim.holds_of_wide 3 Try.f3 rfl rfl rfl rfl rfl rfl rfl ⟨rfl,rfl,rfl,rfl,rfl⟩ rfl rfl rfl rfl rfl (by kernel_rfl) Try.func3 (by kernel_rfl)
  (of_decide_eq_true (by kernel_rfl)) (by unfold Func.isWrapper;first|(rw [if_pos (by decide +kernel)];kernel_rfl)|(rw [if_neg (by decide +kernel)];exact ⟨rfl,rfl⟩))
  (fun os started H enc _=>qp os started H enc)
end Go.Proofs.Ytobihfefmlgaoaa.Av
