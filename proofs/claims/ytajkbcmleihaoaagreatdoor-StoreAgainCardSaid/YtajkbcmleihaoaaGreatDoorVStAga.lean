/- Joined texts of the walk, made small by a program. -/
import Derived.Test.YtajkbcmleihaoaaGreatDoorVk14
import Derived.Test.YtajkbcmleihaoaaGreatDoorVk5
import Derived.Test.YtajkbcmleihaoaaGreatDoorVStAgaF
import Derived.Test.YtajkbcmleihaoaaGreatDoorCards
import Derived.Test.YtajkbcmleihaoaaGreatDoorTie
import Derived.WalkKit
import Derived.ProofKit
import Derived.OpenShut
import Derived.Deep.DeepHandedRow
import Derived.Lib.LaidTab
set_option linter.unusedSimpArgs false
set_option linter.unusedVariables false
namespace Go.Proofs.YtajkbcmleihaoaaGreatDoor.Av
open Go Go.ChangeShapes Go.WideShapes Go.ChangeAt Go.RowKit
set_option maxRecDepth 100000
theorem JB{W:World}(e:laidMet Tryz.prog Rows.storeAgainRow.laid W)(c:W.ShapedOpen Tryz.prog):s6 (yU W).mem/\v7 W:=by
 have b:Lib.VarReads Tryz.prog W "unicode/utf8.first" Lib.firstData:=by
  have:=Lib.laidMet.reads e (n := "unicode/utf8.first") (d:=Rows.laid_unicode_utf8_first) (af0 (i:=1) rfl)
  rwa[show(Rows.laid_unicode_utf8_first:DataW Unit)=Lib.firstData by kernel_rfl]at this
 have a:Lib.VarReads Tryz.prog W "unicode/utf8.acceptRanges" Lib.acceptData:=by
  have:=Lib.laidMet.reads e (n := "unicode/utf8.acceptRanges") (d:=Rows.laid_unicode_utf8_acceptRanges) (af0 (i:=0) rfl)
  rwa[show(Rows.laid_unicode_utf8_acceptRanges:DataW Unit)=Lib.acceptData by kernel_rfl]at this
 have f:=laidMet.tail e;have g:=laidMet.tail f;exact X5 (TU c) (RX (adR b a VB (by rfl)) (RX (Z6 b a VA (by rfl)) ZZ))
theorem L6:ownKnob Tryz.prog.godebug=none:=ah5
theorem JC:∃(X:Type) (b:X->List AV) (ok:X->Prop),acw Tryz.prog Tryz.f4.params.toList b ok/\∀y,ok y->aeW 4 (b y) [] λav _=>av=.bool true:=by refine⟨_,_,_,TB (t:=22) ah5 Xy (TB (t:=52) ah5 Xz Zh),?_⟩;rintro⟨us,bs,_⟩ ⟨a,c,_⟩;exact Sd a.1 a.2 c (K:=λav _=>av=.bool true) (λ_=>rfl)
noncomputable def jo(os:Os):World:={World.holding Tryz.prog os ⟨#[],#[],[]⟩with heap:=let h:=(World.holding Tryz.prog os ⟨#[],#[],[]⟩).heap;((h.modify 1 fun
 |.cells _ t frozen=>.cells ([Value.int .u8 128,Value.int .u8 191,Value.int .u8 160,Value.int .u8 191,Value.int .u8 128,Value.int .u8 159,Value.int .u8 144,Value.int .u8 191,Value.int .u8 128,Value.int .u8 143,Value.int .u8 0,Value.int .u8 0,Value.int .u8 0,Value.int .u8 0,Value.int .u8 0,Value.int .u8 0,Value.int .u8 0,Value.int .u8 0,Value.int .u8 0,Value.int .u8 0,Value.int .u8 0,Value.int .u8 0,Value.int .u8 0,Value.int .u8 0,Value.int .u8 0,Value.int .u8 0,Value.int .u8 0,Value.int .u8 0,Value.int .u8 0,Value.int .u8 0,Value.int .u8 0,Value.int .u8 0]:List Value).toArray t frozen
 |o=>o).modify 0 fun
 |.cells _ t frozen=>.cells ((Go.Pinned.utf8FirstZ.map λ(n:Nat)=>Value.int .u8 (Int.ofNat n)):List Value).toArray t frozen
 |o=>o)}
theorem L7(os:Os):laidMet Tryz.prog Rows.storeAgainRow.laid ((jo os).forCall (λ_ _=>0) ⟨#[],#[.slice none 0 0,.slice none 0 0],[]⟩).memory :=
 laidMet_of_run' 8 ah5 ah5
set_option maxRecDepth 100000 in
theorem Gv(os:Os)(c:os.Started)(H:Type)(enc:TypeId×Value->H)(I:Stop.Interp):
  ReturnsInHanded {} Tryz.checked os 4 .any ((OpenSpec.ofChange Rows.storeAgainSpec).preRow enc Tryz.prog Tryz.f4 Rows.storeAgainRow.domain false Rows.storeAgainRow.laid) (((OpenSpec.ofChange Rows.storeAgainSpec).at I).post enc Tryz.prog Tryz.f4 false true false false):=by
 have r:(DataW.whole enc Tryz.prog ((jo os).forCall (λ_ _=>0) ⟨#[],#[.slice none 0 0,.slice none 0 0],[]⟩).memory Tryz.f4.params.toList Rows.storeAgainSpec.vars false #[.slice none 0 0,.slice none 0 0].toList 8).isSome=true:=ah5;refine returnsInHanded_of_row (C:=Tryz.checked) (s:=OpenSpec.ofChange Rows.storeAgainSpec) L6 c ah5 Tryz.func4
  (witness_row_at (enc:=enc) (C:=Tryz.checked) false (jo os) #[.slice none 0 0,.slice none 0 0] rfl ah5 ah5 ah5
   (OpenSpec.preRow_of_cond 8 (Option.some_get r).symm ah5 (λk l=>by cases l) ah5 (L7 os))) ?_
 intro W base args ds x d e o _ _ f i g _;obtain⟨X,y,ok,u,m⟩:=JC;exact Q8 (tb:=4) Tryz.func4 rfl ah5 yL yK MT ah5 rfl Tryz.underlying4 rfl
  (λH ds h=>match ds,h with|[_,_],_=>⟨rfl,rfl,rfl⟩) m enc W args ds x d (λp q=>u _ enc W base args.toList ds p (λj t v a b=>e j t v (by simpa using a) (by simpa using b)) q (λn w=>of_decide_eq_true (afd.1 f n (wo w)))) o (JB i g)
theorem JA:Rows.StoreAgainSaid :=
 OpenClaim.holds_of_cond 4 Tryz.f4 rfl rfl rfl rfl rfl rfl rfl ⟨rfl,rfl,rfl,rfl,rfl⟩ rfl rfl rfl rfl rfl vV Tryz.func4 Ee
  (of_decide_eq_true ah5) (by unfold Func.isWrapper;first|(rw[if_pos (by decide +kernel)];kernel_rfl)|(rw[if_neg (by decide +kernel)];exact⟨rfl,rfl⟩))
  (λos a H enc _ F=>by rw[OpenClaim.pre_eq_preRow];exact Gv os a H enc F)
theorem Hh(f:FuncId)(fn:Func)(g:Tryz.pinned.checked.prog.funcNamed "castellan/castellanlaw18.StoreAgain" = some f)(b:Tryz.pinned.checked.prog.funcs[f]?=some fn):
  false=Tryz.pinned.checked.prog.looks []/\∀(j:Nat) t,fn.params[j]?=some t->Tryz.pinned.checked.prog.wantsStandIn t=false:=by
 obtain rfl:f=4:=Option.some.inj ((vV).symm.trans g) |>.symm;obtain rfl:fn=Tryz.f4:=(Option.some.inj (Tryz.func4.symm.trans b)).symm;refine⟨(MS).symm,λj t d=>?_⟩;have a:Tryz.f4.params.toList.all (λt => !Tryz.prog.wantsStandIn t)=true:=Me;have e:t∈Tryz.f4.params.toList:=by simpa using Array.mem_of_getElem? d
 have c:Tryz.prog.wantsStandIn t=false:=by simpa using afd.1 a t e
 exact c
theorem lawStoreAgain_card:Rows.StoreAgainCardSaid :=
 Claim7.holds_tied_plain_at .later [] _ _ _ _ JA (λ_ h=>by cases h) ah5 (λ_ h=>by cases h) storeAgain_row_tie rfl ⟨rfl,rfl⟩ Mf rfl Hh MR
end Go.Proofs.YtajkbcmleihaoaaGreatDoor.Av
