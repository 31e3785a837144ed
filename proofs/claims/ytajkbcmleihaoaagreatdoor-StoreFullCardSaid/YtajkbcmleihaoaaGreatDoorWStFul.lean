/- Joined texts of the walk, made small by a program. -/
import Derived.Test.YtajkbcmleihaoaaGreatDoorWk14
import Derived.Test.YtajkbcmleihaoaaGreatDoorWk5
import Derived.Test.YtajkbcmleihaoaaGreatDoorWStFulF
import Derived.Test.YtajkbcmleihaoaaGreatDoorCards
import Derived.Test.YtajkbcmleihaoaaGreatDoorTie
import Derived.WalkKit
import Derived.ProofKit
import Derived.OpenShut
import Derived.Deep.DeepHandedRow
import Derived.Lib.LaidTab
set_option linter.unusedSimpArgs false
set_option linter.unusedVariables false
namespace Go.Proofs.YtajkbcmleihaoaaGreatDoor.Av
open Go Go.ChangeShapes Go.WideShapes Go.ChangeAt Go.RowKit
set_option maxRecDepth 100000
theorem LG{W:World}(e:laidMet Tryz.prog Rows.storeFullRow.laid W)(c:W.ShapedOpen Tryz.prog):sK (yA W).mem/\vK W:=by
 have a:Lib.VarReads Tryz.prog W "unicode/utf8.first" Lib.firstData:=by
  have:=Lib.laidMet.reads e (n := "unicode/utf8.first") (d:=Rows.laid_unicode_utf8_first) (afi (i:=1) rfl)
  rwa[show(Rows.laid_unicode_utf8_first:DataW Unit)=Lib.firstData by kernel_rfl]at this
 have b:Lib.VarReads Tryz.prog W "unicode/utf8.acceptRanges" Lib.acceptData:=by
  have:=Lib.laidMet.reads e (n := "unicode/utf8.acceptRanges") (d:=Rows.laid_unicode_utf8_acceptRanges) (afi (i:=0) rfl)
  rwa[show(Rows.laid_unicode_utf8_acceptRanges:DataW Unit)=Lib.acceptData by kernel_rfl]at this
 have f:=laidMet.tail e;have g:=laidMet.tail f;exact Xy (To c) (Ru (adb a b U5 (by rfl)) (Ru (ZC a b U4 (by rfl)) Zw))
theorem Mm:ownKnob Tryz.prog.godebug=none:=ahf
theorem LH:∃(X:Type) (b:X->List AV) (ok:X->Prop),XZ Tryz.prog Tryz.f3.params.toList b ok/\∀y,ok y->aeg 3 (b y) [] λav _=>av=.bool true:=by refine⟨_,_,_,SZ (t:=22) ahf WY (YN (t:=27) ahf SY (SZ (t:=3) ahf (Rd.z (YO Tryz.underlying3)) YM)),?_⟩;rintro⟨us,u,lm,_⟩ ⟨a,c,_⟩;exact SH a.1 a.2 c (K:=λav _=>av=.bool true) (λ_=>rfl)
noncomputable def jz(os:Os):World:={World.holding Tryz.prog os ⟨#[],#[],[]⟩with heap:=let h:=(World.holding Tryz.prog os ⟨#[],#[],[]⟩).heap;((h.modify 1 fun
 |.cells _ t frozen=>.cells ([Value.int .u8 128,Value.int .u8 191,Value.int .u8 160,Value.int .u8 191,Value.int .u8 128,Value.int .u8 159,Value.int .u8 144,Value.int .u8 191,Value.int .u8 128,Value.int .u8 143,Value.int .u8 0,Value.int .u8 0,Value.int .u8 0,Value.int .u8 0,Value.int .u8 0,Value.int .u8 0,Value.int .u8 0,Value.int .u8 0,Value.int .u8 0,Value.int .u8 0,Value.int .u8 0,Value.int .u8 0,Value.int .u8 0,Value.int .u8 0,Value.int .u8 0,Value.int .u8 0,Value.int .u8 0,Value.int .u8 0,Value.int .u8 0,Value.int .u8 0,Value.int .u8 0,Value.int .u8 0]:List Value).toArray t frozen
 |o=>o).modify 0 fun
 |.cells _ t frozen=>.cells ((Go.Pinned.utf8FirstZ.map λ(n:Nat)=>Value.int .u8 (Int.ofNat n)):List Value).toArray t frozen
 |o=>o)}
theorem Mn(os:Os):laidMet Tryz.prog Rows.storeFullRow.laid ((jz os).forCall (λ_ _=>0) ⟨#[],#[.slice none 0 0,.agg #[.int .i64 0,.slice none 0 0,.slice none 0 0,.slice none 0 0],.int .i64 0],[]⟩).memory :=
 laidMet_of_run' 8 ahf ahf
set_option maxRecDepth 100000 in
theorem G0(os:Os)(c:os.Started)(H:Type)(enc:TypeId×Value->H)(I:Stop.Interp):
  ReturnsInHanded {} Tryz.checked os 3 .any ((OpenSpec.ofChange Rows.storeFullSpec).preRow enc Tryz.prog Tryz.f3 Rows.storeFullRow.domain false Rows.storeFullRow.laid) (((OpenSpec.ofChange Rows.storeFullSpec).at I).post enc Tryz.prog Tryz.f3 false true false false):=by
 have l:(DataW.whole enc Tryz.prog ((jz os).forCall (λ_ _=>0) ⟨#[],#[.slice none 0 0,.agg #[.int .i64 0,.slice none 0 0,.slice none 0 0,.slice none 0 0],.int .i64 0],[]⟩).memory Tryz.f3.params.toList Rows.storeFullSpec.vars false #[.slice none 0 0,.agg #[.int .i64 0,.slice none 0 0,.slice none 0 0,.slice none 0 0],.int .i64 0].toList 8).isSome=true:=ahf;refine returnsInHanded_of_row (C:=Tryz.checked) (s:=OpenSpec.ofChange Rows.storeFullSpec) Mm c ahf Tryz.func3
  (witness_row_at (enc:=enc) (C:=Tryz.checked) false (jz os) #[.slice none 0 0,.agg #[.int .i64 0,.slice none 0 0,.slice none 0 0,.slice none 0 0],.int .i64 0] rfl ahf ahf ahf
   (OpenSpec.preRow_of_cond 8 (Option.some_get l).symm ahf (λk i=>by cases i) ahf (Mn os))) ?_
 intro W base args ds q d e u _ _ f x g _;obtain⟨X,y,ok,o,m⟩:=LH;exact QH (tb:=4) Tryz.func3 rfl ahf DP DO Oi ahf rfl Tryz.underlying4 rfl
  (λH ds h=>match ds,h with|[_,_,_],_=>⟨rfl,rfl,rfl⟩) m enc W args ds q d (λp w=>o _ enc W base args.toList ds p (λj t v a b=>e j t v (by simpa using a) (by simpa using b)) w (λn r=>of_decide_eq_true (aev.1 f n (vV r)))) u (LG x g)
theorem LF:Rows.StoreFullSaid :=
 OpenClaim.holds_of_cond 3 Tryz.f3 rfl rfl rfl rfl rfl rfl rfl ⟨rfl,rfl,rfl,rfl,rfl⟩ rfl rfl rfl rfl rfl yq Tryz.func3 Gh
  (of_decide_eq_true ahf) (by unfold Func.isWrapper;first|(rw[if_pos (by decide +kernel)];kernel_rfl)|(rw[if_neg (by decide +kernel)];exact⟨rfl,rfl⟩))
  (λos a H enc _ F=>by rw[OpenClaim.pre_eq_preRow];exact G0 os a H enc F)
theorem Jf(f:FuncId)(fn:Func)(e:Tryz.pinned.checked.prog.funcNamed "castellan/castellanlaw18.StoreFull" = some f)(b:Tryz.pinned.checked.prog.funcs[f]?=some fn):
  false=Tryz.pinned.checked.prog.looks []/\∀(j:Nat) t,fn.params[j]?=some t->Tryz.pinned.checked.prog.wantsStandIn t=false:=by
 obtain rfl:f=3:=Option.some.inj ((yq).symm.trans e) |>.symm;obtain rfl:fn=Tryz.f3:=(Option.some.inj (Tryz.func3.symm.trans b)).symm;refine⟨(Oh).symm,λj t g=>?_⟩;have a:Tryz.f3.params.toList.all (λt => !Tryz.prog.wantsStandIn t)=true:=Mr;have c:t∈Tryz.f3.params.toList:=by simpa using Array.mem_of_getElem? g
 have d:Tryz.prog.wantsStandIn t=false:=by simpa using aev.1 a t c
 exact d
theorem lawStoreFull_card:Rows.StoreFullCardSaid :=
 Claim7.holds_tied_plain_at .later [] _ _ _ _ LF (λ_ h=>by cases h) ahf (λ_ h=>by cases h) storeFull_row_tie rfl ⟨rfl,rfl⟩ Mt rfl Jf Og
end Go.Proofs.YtajkbcmleihaoaaGreatDoor.Av
