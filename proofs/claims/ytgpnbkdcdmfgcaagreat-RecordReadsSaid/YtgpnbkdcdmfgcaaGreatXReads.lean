/- Joined texts of the walk, made small by a program. -/
import Derived.Test.YtgpnbkdcdmfgcaaGreatXC7
import Derived.Test.YtgpnbkdcdmfgcaaGreatXP5
set_option linter.unusedSimpArgs false
set_option linter.unusedVariables false
namespace Go.Proofs.YtgpnbkdcdmfgcaaGreat.Av
open Go Go.ChangeShapes Go.WideShapes Go.ChangeAt Go.RowKit
set_option maxRecDepth 100000
theorem yb:ownKnob Tryz.prog.godebug=none:=by kernel_rfl
theorem vy:∃ (X:Type) (ec:X→List AV) (ok:X→Prop),Le Tryz.prog Tryz.f4.params.toList ec ok∧∀ y,ok y→ad Tryz.prog 4 (ec y) [] fun av _=>av=.bool true:=by
 refine ⟨_,_,_,Jh (t:=9) (by kernel_rfl) (KL Tryz.underlying9) Ji,?_⟩
 rintro ⟨s,_⟩ _
 exact KK (s:=s) (L:=[]) (K:=fun av _=>av=.bool true) rfl
theorem ro (os:Os) (started:os.Started) (H:Type) (enc:TypeId×Value→H) :
   ReturnsInHanded {} Tryz.checked os 4 .any (Rows.recordReadsSpec.pre6 enc Tryz.prog Tryz.f4 Rows.recordReadsRow.domain false) (Rows.recordReadsSpec.post enc Tryz.prog Tryz.f4 false true false false):=by
 refine ET (C:=Tryz.checked) (s:=Rows.recordReadsSpec) yb started (by kernel_rfl) Tryz.func4
   (ChangeSpec.witness6 (enc:=enc) (C:=Tryz.checked) (s:=Rows.recordReadsSpec) false ⟨#[],#[.string ⟨⟨[]⟩⟩],[]⟩ 8 (by kernel_rfl) (by kernel_rfl) (by kernel_rfl) (by kernel_rfl) (by kernel_rfl)) ?_
 intro W base args ds gs before hval hW hsz
 obtain ⟨X,ec,ok,h1,h2⟩:=vy
 exact DG (tb:=4) Tryz.func4 rfl (by kernel_rfl) (by kernel_rfl) (by kernel_rfl) (by kernel_rfl) (by kernel_rfl) rfl Tryz.underlying4 rfl
   (fun H ds h=>match ds,h with|[_],_=>⟨rfl,rfl,rfl⟩) h2 enc W args ds gs before (fun p hp=>h1 _ enc W base args.toList ds p (fun j t v a b=>hval j t v (by simpa using a) (by simpa using b)) hp (fun n hn=>of_decide_eq_true (List.all_eq_true.1 hsz n (ka hn)))) hW ⟨⟨fun p hp=>by simp [nf] at hp,fun p hp=>by simp [Hn] at hp⟩,fun p hp=>by simp [nf] at hp⟩
theorem lawRecordReads_holds:Rows.RecordReadsSaid :=
 OpenClaim.holds_of_wide 4 Tryz.f4 rfl rfl rfl rfl rfl rfl rfl ⟨rfl,rfl,rfl,rfl,rfl⟩ rfl rfl rfl rfl rfl (by kernel_rfl) Tryz.func4 (by kernel_rfl)
   (of_decide_eq_true (by kernel_rfl)) (by unfold Func.isWrapper;first|(rw [if_pos (by decide +kernel)];kernel_rfl)|(rw [if_neg (by decide +kernel)];exact ⟨rfl,rfl⟩))
   (fun os started H enc _=>ro os started H enc)
end Go.Proofs.YtgpnbkdcdmfgcaaGreat.Av
