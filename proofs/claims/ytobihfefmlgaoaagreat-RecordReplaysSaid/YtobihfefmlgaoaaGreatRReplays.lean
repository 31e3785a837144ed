/- Joined texts of the walk, made small by a program. -/
import Derived.Test.YtobihfefmlgaoaaGreatRk26
import Derived.Test.YtobihfefmlgaoaaGreatRk5
set_option linter.unusedSimpArgs false
set_option linter.unusedVariables false
namespace Go.Proofs.YtobihfefmlgaoaaGreat.Av
open Go Go.ChangeShapes Go.WideShapes Go.ChangeAt Go.RowKit
set_option maxRecDepth 100000
theorem KB:ownKnob Tryz.prog.godebug=none:=by kernel_rfl
theorem GU:∃ (X:Type) (ec:X->List AV) (ok:X->Prop),ae9 Tryz.prog Tryz.f4.params.toList ec ok/\∀ y,ok y->afB 4 (ec y) [] fun av _=>av=.bool true:=by
 refine ⟨_,_,_,Tu (t:=23) (by kernel_rfl) YC (Tu (t:=24) (by kernel_rfl) aaW (Tu (t:=46) (by kernel_rfl) Xg acF)),?_⟩;rintro ⟨suf,us,ms,_⟩ ⟨hs,hu,hm,_⟩;have hm3:(ms.length:Int)<=9223372036854775807:=by
  have hm':ms.length<=maxLen:=hm;simp only [maxLen] at hm';omega
 exact aaP hs hu.1 hu.2 hm3 (K:=fun av _=>av=.bool true) rfl
theorem yB (os:Os) (started:os.Started) (H:Type) (enc:TypeId×Value->H) :
  ReturnsInHanded {} Tryz.checked os 4 .any (Rows.recordReplaysSpec.pre6 enc Tryz.prog Tryz.f4 Rows.recordReplaysRow.domain false) (Rows.recordReplaysSpec.post enc Tryz.prog Tryz.f4 false true false false):=by
 refine WE (C:=Tryz.checked) (s:=Rows.recordReplaysSpec) KB started (by kernel_rfl) Tryz.func4
  (ChangeSpec.witness6 (enc:=enc) (C:=Tryz.checked) (s:=Rows.recordReplaysSpec) false ⟨#[],#[.slice none 0 0,.slice none 0 0,.slice none 0 0],[]⟩ 8 (by kernel_rfl) (by kernel_rfl) (by kernel_rfl) (by kernel_rfl) (by kernel_rfl)) ?_
 intro W base args ds gs before hval hW hsz;obtain ⟨X,ec,ok,h1,h2⟩:=GU;exact U0 (tb:=4) Tryz.func4 rfl (by kernel_rfl) (by kernel_rfl) (by kernel_rfl) (by kernel_rfl) (by kernel_rfl) rfl Tryz.underlying4 rfl
  (fun H ds h=>match ds,h with|[_,_,_],_=>⟨rfl,rfl,rfl⟩) h2 enc W args ds gs before (fun p hp=>h1 _ enc W base args.toList ds p (fun j t v a b=>hval j t v (by simpa using a) (by simpa using b)) hp (fun n hn=>of_decide_eq_true (ahC.1 hsz n (uO hn)))) hW ⟨⟨fun p hp=>by simp [yX] at hp,fun p hp=>by simp [ZX] at hp⟩,fun p hp=>by simp [yX] at hp⟩
theorem lawRecordReplays_holds:Rows.RecordReplaysSaid :=
 OpenClaim.holds_of_wide 4 Tryz.f4 rfl rfl rfl rfl rfl rfl rfl ⟨rfl,rfl,rfl,rfl,rfl⟩ rfl rfl rfl rfl rfl (by kernel_rfl) Tryz.func4 (by kernel_rfl)
  (of_decide_eq_true (by kernel_rfl)) (by unfold Func.isWrapper;first|(rw [if_pos (by decide +kernel)];kernel_rfl)|(rw [if_neg (by decide +kernel)];exact ⟨rfl,rfl⟩))
  (fun os started H enc _=>yB os started H enc)
end Go.Proofs.YtobihfefmlgaoaaGreat.Av
