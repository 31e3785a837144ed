/- Joined texts of the walk, made small by a program. -/
import Derived.Test.YtajkbcmleihaoaaGreatDoorZk12
import Derived.Test.YtajkbcmleihaoaaGreatDoorZk5
import Derived.Test.YtajkbcmleihaoaaGreatDoorZStNilF
import Derived.Test.YtajkbcmleihaoaaGreatDoorCards
import Derived.Test.YtajkbcmleihaoaaGreatDoorTie
import Derived.WalkKit
import Derived.ProofKit
import Derived.OpenShut
import Derived.Deep.DeepHandedRow
import Derived.Lib.LaidTab
set_option linter.unusedSimpArgs false
set_option linter.unusedVariables false
namespace Go.Proofs.YtajkbcmleihaoaaGreatDoor.Av
open Go Go.ChangeShapes Go.WideShapes Go.ChangeAt Go.RowKit
set_option maxRecDepth 100000
theorem Kf{W:World}(c:laidMet Tryz.prog Rows.storeNilRow.laid W)(e:W.ShapedOpen Tryz.prog):sj (z8 W).mem/\ve W:=by
 have a:Lib.VarReads Tryz.prog W "unicode/utf8.first" Lib.firstData:=by
  have:=Lib.laidMet.reads c (n := "unicode/utf8.first") (d:=Rows.laid_unicode_utf8_first) (acC (i:=1) rfl)
  rwa[show(Rows.laid_unicode_utf8_first:DataW Unit)=Lib.firstData by kernel_rfl]at this
 have b:Lib.VarReads Tryz.prog W "unicode/utf8.acceptRanges" Lib.acceptData:=by
  have:=Lib.laidMet.reads c (n := "unicode/utf8.acceptRanges") (d:=Rows.laid_unicode_utf8_acceptRanges) (acC (i:=0) rfl)
  rwa[show(Rows.laid_unicode_utf8_acceptRanges:DataW Unit)=Lib.acceptData by kernel_rfl]at this
 have f:=laidMet.tail c;have g:=laidMet.tail f;exact U2 (QP e) (Pj (aan a b Ss (by rfl)) (Pj (WX a b Sr (by rfl)) WR))
theorem LS:ownKnob Tryz.prog.godebug=none:=aew
theorem Kg:∃(X:Type) (a:X->List AV) (ok:X->Prop),aa8 Tryz.prog Tryz.f5.params.toList a ok/\∀y,ok y->abw 5 (a y) [] λav _=>av=.bool true:=by refine⟨_,_,_,V8,?_⟩;rintro _ _;exact RU (L:=[]) (K:=λav _=>av=.bool true) (λ_=>rfl)
noncomputable def kJ(os:Os):World:={World.holding Tryz.prog os ⟨#[],#[],[]⟩with heap:=let h:=(World.holding Tryz.prog os ⟨#[],#[],[]⟩).heap;((h.modify 1 fun
 |.cells _ t frozen=>.cells ([Value.int .u8 128,Value.int .u8 191,Value.int .u8 160,Value.int .u8 191,Value.int .u8 128,Value.int .u8 159,Value.int .u8 144,Value.int .u8 191,Value.int .u8 128,Value.int .u8 143,Value.int .u8 0,Value.int .u8 0,Value.int .u8 0,Value.int .u8 0,Value.int .u8 0,Value.int .u8 0,Value.int .u8 0,Value.int .u8 0,Value.int .u8 0,Value.int .u8 0,Value.int .u8 0,Value.int .u8 0,Value.int .u8 0,Value.int .u8 0,Value.int .u8 0,Value.int .u8 0,Value.int .u8 0,Value.int .u8 0,Value.int .u8 0,Value.int .u8 0,Value.int .u8 0,Value.int .u8 0]:List Value).toArray t frozen
 |o=>o).modify 0 fun
 |.cells _ t frozen=>.cells ((Go.Pinned.utf8FirstZ.map λ(n:Nat)=>Value.int .u8 (Int.ofNat n)):List Value).toArray t frozen
 |o=>o)}
theorem LT(os:Os):laidMet Tryz.prog Rows.storeNilRow.laid ((kJ os).forCall (λ_ _=>0) ⟨#[],#[],[]⟩).memory :=
 laidMet_of_run' 8 aew aew
set_option maxRecDepth 100000 in
theorem He(os:Os)(c:os.Started)(H:Type)(enc:TypeId×Value->H)(I:Stop.Interp):
  ReturnsInHanded {} Tryz.checked os 5 .any ((OpenSpec.ofChange Rows.storeNilSpec).preRow enc Tryz.prog Tryz.f5 Rows.storeNilRow.domain false Rows.storeNilRow.laid) (((OpenSpec.ofChange Rows.storeNilSpec).at I).post enc Tryz.prog Tryz.f5 false true false false):=by
 have w:(DataW.whole enc Tryz.prog ((kJ os).forCall (λ_ _=>0) ⟨#[],#[],[]⟩).memory Tryz.f5.params.toList Rows.storeNilSpec.vars false #[].toList 8).isSome=true:=aew;refine returnsInHanded_of_row (C:=Tryz.checked) (s:=OpenSpec.ofChange Rows.storeNilSpec) LS c aew Tryz.func5
  (witness_row_at (enc:=enc) (C:=Tryz.checked) false (kJ os) #[] rfl aew aew aew
   (OpenSpec.preRow_of_cond 8 (Option.some_get w).symm aew (λk o=>by cases o) aew (LT os))) ?_
 intro W base args ds i d e m _ _ g x f _;obtain⟨X,y,ok,q,r⟩:=Kg;exact Oy (tb:=4) Tryz.func5 rfl aew Ep Eo ND aew rfl Tryz.underlying4 rfl
  (λH ds h=>match ds,h with|[],_=>⟨rfl,rfl,rfl⟩) r enc W args ds i d (λp l=>q _ enc W base args.toList ds p (λj t v a b=>e j t v (by simp at a) (by simp at a)) l (λn u=>of_decide_eq_true (abL.1 g n (vr u)))) m (Kf x f)
theorem Ke:Rows.StoreNilSaid :=
 OpenClaim.holds_of_cond 5 Tryz.f5 rfl rfl rfl rfl rfl rfl rfl ⟨rfl,rfl,rfl,rfl,rfl⟩ rfl rfl rfl rfl rfl zR Tryz.func5 EZ
  (of_decide_eq_true aew) (by unfold Func.isWrapper;first|(rw[if_pos (by decide +kernel)];kernel_rfl)|(rw[if_neg (by decide +kernel)];exact⟨rfl,rfl⟩))
  (λos a H enc _ F=>by rw[OpenClaim.pre_eq_preRow];exact He os a H enc F)
theorem JC(f:FuncId)(fn:Func)(g:Tryz.pinned.checked.prog.funcNamed "castellan/castellanlaw18.StoreNil" = some f)(b:Tryz.pinned.checked.prog.funcs[f]?=some fn):
  false=Tryz.pinned.checked.prog.looks []/\∀(j:Nat) t,fn.params[j]?=some t->Tryz.pinned.checked.prog.wantsStandIn t=false:=by
 obtain rfl:f=5:=Option.some.inj ((zR).symm.trans g) |>.symm;obtain rfl:fn=Tryz.f5:=(Option.some.inj (Tryz.func5.symm.trans b)).symm;refine⟨(NC).symm,λj t e=>?_⟩;have a:Tryz.f5.params.toList.all (λt => !Tryz.prog.wantsStandIn t)=true:=LU;have c:t∈Tryz.f5.params.toList:=by simpa using Array.mem_of_getElem? e
 have d:Tryz.prog.wantsStandIn t=false:=by simpa using abL.1 a t c
 exact d
theorem lawStoreNil_card:Rows.StoreNilCardSaid :=
 Claim7.holds_tied_plain_at .later [] _ _ _ _ Ke (λ_ h=>by cases h) aew (λ_ h=>by cases h) storeNil_row_tie rfl ⟨rfl,rfl⟩ LV rfl JC NB
end Go.Proofs.YtajkbcmleihaoaaGreatDoor.Av
