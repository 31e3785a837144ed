/- Joined texts of the walk, made small by a program. -/
import Derived.Test.YtdnfjhflkkpokaaGreatDoorFk17
import Derived.Test.YtdnfjhflkkpokaaGreatDoorFk15
import Derived.Test.YtdnfjhflkkpokaaGreatDoorFk5
import Derived.Test.YtdnfjhflkkpokaaGreatDoorFScLimF
import Derived.Test.YtdnfjhflkkpokaaGreatDoorCards
import Derived.Test.YtdnfjhflkkpokaaGreatDoorTie
import Derived.WalkKit
import Derived.ProofKit
import Derived.OpenShut
import Derived.Deep.DeepHandedRow
import Derived.Lib.LaidTab
set_option linter.unusedSimpArgs false
set_option linter.unusedVariables false
namespace Go.Proofs.YtdnfjhflkkpokaaGreatDoor.Av
open Go Go.ChangeShapes Go.WideShapes Go.ChangeAt Go.RowKit
set_option maxRecDepth 100000
theorem l9:Tryz.prog.globalNamed "internal/strconv.uint64pow10" = some 6:=asR
def Yn:List Int:=[1,10,100,1000,10000,100000,1000000,10000000,100000000,1000000000,10000000000,100000000000,1000000000000,10000000000000,100000000000000,1000000000000000,10000000000000000,100000000000000000,1000000000000000000,10000000000000000000]
theorem Kb:(Tryz.prog.globals[6]?).map (·.type)=some 317:=asR
theorem J2:Tryz.prog.cellsOf 317=20:=asR
theorem OY:Tryz.prog.cellsOf 231=1:=asR
theorem l8:Tryz.prog.globalNamed "strconv.ErrRange" = some 5:=asR
theorem wT : "*" ++ "errors.errorString" = "*errors.errorString" := by decide
theorem rO(u:TypeId)(h:Tryz.prog.typeName? 3 u=some "*errors.errorString"):u=321 :=
 typeName_ptr_named (nm := "errors.errorString") (by rw [wT];kernel_rfl) asR (by decide) u (by rw [wT];exact h)
theorem Ka:(Tryz.prog.globals[5]?).map (·.type)=some 242:=asR
theorem l7:Tryz.prog.globalNamed "strconv.ErrSyntax" = some 4:=asR
theorem J9:(Tryz.prog.globals[4]?).map (·.type)=some 242:=asR
theorem l6:Tryz.prog.globalNamed "castellan/syntax.days" = some 2:=asR
def Ym:List Int:=[31,28,31,30,31,30,31,31,30,31,30,31]
theorem J8:(Tryz.prog.globals[2]?).map (·.type)=some 246:=asR
theorem J1:Tryz.prog.cellsOf 246=12:=asR
theorem OX:Tryz.prog.cellsOf 3=1:=asR
theorem SN{W:World}(e:laidMet Tryz.prog Rows.scanLimitsRow.laid W)(c:W.ShapedOpen Tryz.prog):tN (nF W).mem/\wj W:=by
 have b:Lib.VarReads Tryz.prog W "unicode/utf8.first" Lib.firstData:=by
  have:=Lib.laidMet.reads e (n := "unicode/utf8.first") (d:=Rows.laid_unicode_utf8_first) (aqj (i:=7) rfl)
  rwa[show(Rows.laid_unicode_utf8_first:DataW Unit)=Lib.firstData by kernel_rfl]at this
 have a:Lib.VarReads Tryz.prog W "unicode/utf8.acceptRanges" Lib.acceptData:=by
  have:=Lib.laidMet.reads e (n := "unicode/utf8.acceptRanges") (d:=Rows.laid_unicode_utf8_acceptRanges) (aqj (i:=3) rfl)
  rwa[show(Rows.laid_unicode_utf8_acceptRanges:DataW Unit)=Lib.acceptData by kernel_rfl]at this
 have j:=laidMet.tail e;have g:=laidMet.tail j;have t2:=Lib.tabIs_of_head (zs:=Yn) l9 Kb Tryz.underlying317 Tryz.underlying231 OY J2 g;have k:=laidMet.tail g;have h4:=laidMet.tail k;obtain⟨a4,o,v4,_⟩:=laid_sentinel h4 l8 Ka Tryz.underlying242 rO Tryz.underlying321 Tryz.underlying323 rfl rfl Tryz.underlying9 asR asR;have h:=laidMet.tail h4;obtain⟨a5,p,v5,_⟩:=laid_sentinel h l7 J9 Tryz.underlying242 rO Tryz.underlying321 Tryz.underlying323 rfl rfl Tryz.underlying9 asR asR;have f:=laidMet.tail h;have m:=Lib.tabIs_of_head (zs:=Ym) l6 J8 Tryz.underlying246 Tryz.underlying3 OX J1 f;have l:=laidMet.tail f;have q:=laidMet.tail l;exact ahY (adZ c) (rJ (aiJ t2 l9) (rJ (anV b a afA (by rfl)) (rJ (agm v4 l8) (rJ (agm v5 l7) (rJ (aiJ m l6) (rJ (aki b a afz (by rfl)) aj7))))))
theorem V2:ownKnob Tryz.prog.godebug=none:=asR
theorem SO:∃(X:Type) (e:X->List AV) (ok:X->Prop),amy Tryz.prog Tryz.f5.params.toList e ok/\∀y,ok y->apq 5 (e y) [] λav _=>av=.bool true:=by refine⟨_,_,_,adE (t:=27) asR alE (adE (t:=68) asR ahs ajg),?_⟩;rintro⟨w,a,_⟩ ⟨b,d,_⟩;exact ajI (@hid _ (λ{L K} q=>ah8 q)) (@hid _ (λ{vs c} g {L K} q=>aag g q)) b.uq b.un b.rn b.ra b.ad d.who d.base d.f d.nl d.nz (λ{l} k h i j {L K} q=>apb rC h i j a.f k q) (L:=[]) (K:=λav _=>av=.bool true) (λ_=>rfl)
noncomputable def jn(os:Os):World:={World.holding Tryz.prog os ⟨#[],#[],[]⟩with heap:=let h:=(World.holding Tryz.prog os ⟨#[],#[],[]⟩).heap;((((((((((h.modify 7 fun
 |.cells _ t frozen=>.cells ([Value.int .u8 0,Value.int .u8 1,Value.int .u8 28,Value.int .u8 2,Value.int .u8 29,Value.int .u8 14,Value.int .u8 24,Value.int .u8 3,Value.int .u8 30,Value.int .u8 22,Value.int .u8 20,Value.int .u8 15,Value.int .u8 25,Value.int .u8 17,Value.int .u8 4,Value.int .u8 8,Value.int .u8 31,Value.int .u8 27,Value.int .u8 13,Value.int .u8 23,Value.int .u8 21,Value.int .u8 19,Value.int .u8 16,Value.int .u8 7,Value.int .u8 26,Value.int .u8 12,Value.int .u8 18,Value.int .u8 6,Value.int .u8 11,Value.int .u8 5,Value.int .u8 10,Value.int .u8 9]:List Value).toArray t frozen
 |o=>o).modify 8 fun
 |.cells _ t frozen=>.cells ([Value.int .u8 0,Value.int .u8 1,Value.int .u8 56,Value.int .u8 2,Value.int .u8 57,Value.int .u8 49,Value.int .u8 28,Value.int .u8 3,Value.int .u8 61,Value.int .u8 58,Value.int .u8 42,Value.int .u8 50,Value.int .u8 38,Value.int .u8 29,Value.int .u8 17,Value.int .u8 4,Value.int .u8 62,Value.int .u8 47,Value.int .u8 59,Value.int .u8 36,Value.int .u8 45,Value.int .u8 43,Value.int .u8 51,Value.int .u8 22,Value.int .u8 53,Value.int .u8 39,Value.int .u8 33,Value.int .u8 30,Value.int .u8 24,Value.int .u8 18,Value.int .u8 12,Value.int .u8 5,Value.int .u8 63,Value.int .u8 55,Value.int .u8 48,Value.int .u8 27,Value.int .u8 60,Value.int .u8 41,Value.int .u8 37,Value.int .u8 16,Value.int .u8 46,Value.int .u8 35,Value.int .u8 44,Value.int .u8 21,Value.int .u8 52,Value.int .u8 32,Value.int .u8 23,Value.int .u8 11,Value.int .u8 54,Value.int .u8 26,Value.int .u8 40,Value.int .u8 15,Value.int .u8 34,Value.int .u8 20,Value.int .u8 31,Value.int .u8 10,Value.int .u8 25,Value.int .u8 14,Value.int .u8 19,Value.int .u8 9,Value.int .u8 13,Value.int .u8 8,Value.int .u8 7,Value.int .u8 6]:List Value).toArray t frozen
 |o=>o).modify 6 fun
 |.cells _ t frozen=>.cells ([Value.int .u64 1,Value.int .u64 10,Value.int .u64 100,Value.int .u64 1000,Value.int .u64 10000,Value.int .u64 100000,Value.int .u64 1000000,Value.int .u64 10000000,Value.int .u64 100000000,Value.int .u64 1000000000,Value.int .u64 10000000000,Value.int .u64 100000000000,Value.int .u64 1000000000000,Value.int .u64 10000000000000,Value.int .u64 100000000000000,Value.int .u64 1000000000000000,Value.int .u64 10000000000000000,Value.int .u64 100000000000000000,Value.int .u64 1000000000000000000,Value.int .u64 10000000000000000000]:List Value).toArray t frozen
 |o=>o).modify 1 fun
 |.cells _ t frozen=>.cells ([Value.int .u8 128,Value.int .u8 191,Value.int .u8 160,Value.int .u8 191,Value.int .u8 128,Value.int .u8 159,Value.int .u8 144,Value.int .u8 191,Value.int .u8 128,Value.int .u8 143,Value.int .u8 0,Value.int .u8 0,Value.int .u8 0,Value.int .u8 0,Value.int .u8 0,Value.int .u8 0,Value.int .u8 0,Value.int .u8 0,Value.int .u8 0,Value.int .u8 0,Value.int .u8 0,Value.int .u8 0,Value.int .u8 0,Value.int .u8 0,Value.int .u8 0,Value.int .u8 0,Value.int .u8 0,Value.int .u8 0,Value.int .u8 0,Value.int .u8 0,Value.int .u8 0,Value.int .u8 0]:List Value).toArray t frozen
 |o=>o).modify 5 fun
 |.cells _ t frozen=>.cells ([Value.iface 321 (.pointer (some ⟨h.size+0,0,none⟩))]:List Value).toArray t frozen
 |o=>o).modify 4 fun
 |.cells _ t frozen=>.cells ([Value.iface 321 (.pointer (some ⟨h.size+1,0,none⟩))]:List Value).toArray t frozen
 |o=>o).modify 2 fun
 |.cells _ t frozen=>.cells ([Value.int .i64 31,Value.int .i64 28,Value.int .i64 31,Value.int .i64 30,Value.int .i64 31,Value.int .i64 30,Value.int .i64 31,Value.int .i64 31,Value.int .i64 30,Value.int .i64 31,Value.int .i64 30,Value.int .i64 31]:List Value).toArray t frozen
 |o=>o).modify 0 fun
 |.cells _ t frozen=>.cells ((Go.Pinned.utf8FirstZ.map λ(n:Nat)=>Value.int .u8 (Int.ofNat n)):List Value).toArray t frozen
 |o=>o).push (.cells (#[Value.string ⟨⟨[118,97,108,117,101,32,111,117,116,32,111,102,32,114,97,110,103,101]⟩⟩]:Array Value) 323)).push (.cells (#[Value.string ⟨⟨[105,110,118,97,108,105,100,32,115,121,110,116,97,120]⟩⟩]:Array Value) 323))}
theorem V3(os:Os):laidMet Tryz.prog Rows.scanLimitsRow.laid ((jn os).forCall (λ_ _=>0) ⟨#[],#[.agg #[.slice none 0 0,.slice none 0 0,.slice none 0 0],.agg #[.slice none 0 0,.slice none 0 0,.int .i64 0,.int .i64 0,.string ⟨⟨[]⟩⟩,.string ⟨⟨[]⟩⟩,.slice none 0 0,.slice none 0 0,.slice none 0 0,.bool false,.int .i64 0,.int .i64 0]],[]⟩).memory :=
 laidMet_of_run' 8 asR asR
set_option maxRecDepth 100000 in
theorem N7(os:Os)(c:os.Started)(H:Type)(enc:TypeId×Value->H)(I:Stop.Interp):
  ReturnsInHanded {} Tryz.checked os 5 .any ((OpenSpec.ofChange Rows.scanLimitsSpec).preRow enc Tryz.prog Tryz.f5 Rows.scanLimitsRow.domain false Rows.scanLimitsRow.laid) (((OpenSpec.ofChange Rows.scanLimitsSpec).at I).post enc Tryz.prog Tryz.f5 false true false false):=by
 have x:(DataW.whole enc Tryz.prog ((jn os).forCall (λ_ _=>0) ⟨#[],#[.agg #[.slice none 0 0,.slice none 0 0,.slice none 0 0],.agg #[.slice none 0 0,.slice none 0 0,.int .i64 0,.int .i64 0,.string ⟨⟨[]⟩⟩,.string ⟨⟨[]⟩⟩,.slice none 0 0,.slice none 0 0,.slice none 0 0,.bool false,.int .i64 0,.int .i64 0]],[]⟩).memory Tryz.f5.params.toList Rows.scanLimitsSpec.vars false #[.agg #[.slice none 0 0,.slice none 0 0,.slice none 0 0],.agg #[.slice none 0 0,.slice none 0 0,.int .i64 0,.int .i64 0,.string ⟨⟨[]⟩⟩,.string ⟨⟨[]⟩⟩,.slice none 0 0,.slice none 0 0,.slice none 0 0,.bool false,.int .i64 0,.int .i64 0]].toList 8).isSome=true:=asR;refine returnsInHanded_of_row (C:=Tryz.checked) (s:=OpenSpec.ofChange Rows.scanLimitsSpec) V2 c asR Tryz.func5
  (witness_row_at (enc:=enc) (C:=Tryz.checked) false (jn os) #[.agg #[.slice none 0 0,.slice none 0 0,.slice none 0 0],.agg #[.slice none 0 0,.slice none 0 0,.int .i64 0,.int .i64 0,.string ⟨⟨[]⟩⟩,.string ⟨⟨[]⟩⟩,.slice none 0 0,.slice none 0 0,.slice none 0 0,.bool false,.int .i64 0,.int .i64 0]] rfl asR asR asR
   (OpenSpec.preRow_of_cond 8 (Option.some_get x).symm asR (λk l=>by cases l) asR (V3 os))) ?_
 intro W base args ds q d e i _ _ g o f _;obtain⟨X,y,ok,m,r⟩:=SO;exact aa3 (tb:=4) Tryz.func5 rfl asR El Ek WQ asR rfl Tryz.underlying4 rfl
  (λH ds h=>match ds,h with|[_,_],_=>⟨rfl,rfl,rfl⟩) r enc W args ds q d (λp u=>m _ enc W base args.toList ds p (λj t v a b=>e j t v (by simpa using a) (by simpa using b)) u (λn w=>of_decide_eq_true (apF.1 g n (wP w)))) i (SN o f)
theorem SM:Rows.ScanLimitsSaid :=
 OpenClaim.holds_of_cond 5 Tryz.f5 rfl rfl rfl rfl rfl rfl rfl ⟨rfl,rfl,rfl,rfl,rfl⟩ rfl rfl rfl rfl rfl wc Tryz.func5 J4
  (of_decide_eq_true asR) (by unfold Func.isWrapper;first|(rw[if_pos (by decide +kernel)];kernel_rfl)|(rw[if_neg (by decide +kernel)];exact⟨rfl,rfl⟩))
  (λos a H enc _ F=>by rw[OpenClaim.pre_eq_preRow];exact N7 os a H enc F)
theorem O0(f:FuncId)(fn:Func)(e:Tryz.pinned.checked.prog.funcNamed "castellan/castellanlaw24.ScanLimits" = some f)(b:Tryz.pinned.checked.prog.funcs[f]?=some fn):
  true=Tryz.pinned.checked.prog.looks []/\∀(j:Nat) t,fn.params[j]?=some t->Tryz.pinned.checked.prog.wantsStandIn t=false:=by
 obtain rfl:f=5:=Option.some.inj ((wc).symm.trans e) |>.symm;obtain rfl:fn=Tryz.f5:=(Option.some.inj (Tryz.func5.symm.trans b)).symm;refine⟨(WP).symm,λj t g=>?_⟩;have a:Tryz.f5.params.toList.all (λt => !Tryz.prog.wantsStandIn t)=true:=Wa;have c:t∈Tryz.f5.params.toList:=by simpa using Array.mem_of_getElem? g
 have d:Tryz.prog.wantsStandIn t=false:=by simpa using apF.1 a t c
 exact d
theorem lawScanLimits_card:Rows.ScanLimitsCardSaid :=
 Claim7.holds_tied_plain_at .later [] _ _ _ _ SM (λ_ h=>by cases h) asR (λ_ h=>by cases h) scanLimits_row_tie rfl ⟨rfl,rfl⟩ Wb rfl O0 WO
end Go.Proofs.YtdnfjhflkkpokaaGreatDoor.Av
