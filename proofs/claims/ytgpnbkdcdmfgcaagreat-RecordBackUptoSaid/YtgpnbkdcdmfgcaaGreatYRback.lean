/- Joined texts of the walk, made small by a program. -/
import Derived.Test.YtgpnbkdcdmfgcaaGreatYC5
import Derived.Test.YtgpnbkdcdmfgcaaGreatYP5
set_option linter.unusedSimpArgs false
set_option linter.unusedVariables false
namespace Go.Proofs.YtgpnbkdcdmfgcaaGreat.Av
open Go Go.ChangeShapes Go.WideShapes Go.ChangeAt Go.RowKit
set_option maxRecDepth 100000
theorem tP:ownKnob Tryz.prog.godebug=none:=by kernel_rfl
theorem rz:∃ (X:Type) (ec:X→List AV) (ok:X→Prop),Cg Tryz.prog Tryz.f5.params.toList ec ok∧∀ y,ok y→ad Tryz.prog 5 (ec y) [] fun av _=>av=.bool true:=by
 refine ⟨_,_,_,CN (t:=26) (by kernel_rfl) Ec (yR (t:=3) (by kernel_rfl) (Rd.u (zT Tryz.underlying3)) (yR (t:=5) (by kernel_rfl) CK CM)),?_⟩
 rintro ⟨u,a,y,_⟩ ⟨hu,_⟩
 exact FI (u:=u) hu (a:=a) (y:=y) (L:=[]) (K:=fun av _=>av=.bool true) rfl
theorem oT (os:Os) (started:os.Started) (H:Type) (enc:TypeId×Value→H) (I:Stop.Interp) :
   ReturnsInHanded {} Tryz.checked os 5 .any ((Rows.OpenSpec.upto Rows.recordBackSpec).pre6 enc Tryz.prog Tryz.f5 Rows.recordBackUptoRow.domain false) (((Rows.OpenSpec.upto Rows.recordBackSpec).at I).post enc Tryz.prog Tryz.f5 false true false false):=by
 have hs:(DataW.whole enc Tryz.prog (World.plainHolding Tryz.prog os ⟨#[],#[.agg #[.int .i64 0,.slice none 0 0,.slice none 0 0,.slice none 0 0],.int .i64 0,.int .u8 0],[]⟩).memory Tryz.f5.params.toList Rows.recordBackSpec.vars false #[.agg #[.int .i64 0,.slice none 0 0,.slice none 0 0,.slice none 0 0],.int .i64 0,.int .u8 0].toList 8).isSome=true:=by kernel_rfl
 refine returnsInHanded_of_cond (C:=Tryz.checked) (s:=Rows.OpenSpec.upto Rows.recordBackSpec) (k:=Rows.uptoSmall) rfl tP started (by kernel_rfl) Tryz.func5
   (OpenSpec.witness (enc:=enc) (C:=Tryz.checked) (s:=Rows.OpenSpec.upto Rows.recordBackSpec) (k:=Rows.uptoSmall) rfl false ⟨#[],#[.agg #[.int .i64 0,.slice none 0 0,.slice none 0 0,.slice none 0 0],.int .i64 0,.int .u8 0],[]⟩ 8 (by kernel_rfl) (by kernel_rfl) (by kernel_rfl) (Option.some_get hs).symm (by kernel_rfl) (by kernel_rfl) (by kernel_rfl)) ?_
 intro W base args ds gs before hval hW _ hcond _
 obtain ⟨X,ec,ok,h1,h2⟩:=rz
 exact xx (tb:=4) Tryz.func5 rfl (by kernel_rfl) (by kernel_rfl) (by kernel_rfl) (by kernel_rfl) (by kernel_rfl) rfl Tryz.underlying4 rfl
   (fun H ds h=>match ds,h with|[_,_,_],_=>⟨rfl,rfl,rfl⟩) h2 enc W args ds gs before (fun p hp=>h1 _ enc W base args.toList ds p (fun j t v a b=>hval j t v (by simpa using a) (by simpa using b)) hp (Az hcond)) hW ⟨⟨fun p hp=>by simp [jX] at hp,fun p hp=>by simp [A1] at hp⟩,fun p hp=>by simp [jX] at hp⟩
theorem lawRecordBack_holds:Rows.RecordBackUptoSaid :=
 OpenClaim.holds_of_cond 5 Tryz.f5 rfl rfl rfl rfl rfl rfl rfl ⟨rfl,rfl,rfl,rfl,rfl⟩ rfl rfl rfl rfl rfl (by kernel_rfl) Tryz.func5 (by kernel_rfl)
   (of_decide_eq_true (by kernel_rfl)) (by unfold Func.isWrapper;first|(rw [if_pos (by decide +kernel)];kernel_rfl)|(rw [if_neg (by decide +kernel)];exact ⟨rfl,rfl⟩))
   (fun os started H enc _ F=>by rw [OpenClaim.pre_of_none' rfl];exact oT os started H enc F)
end Go.Proofs.YtgpnbkdcdmfgcaaGreat.Av
