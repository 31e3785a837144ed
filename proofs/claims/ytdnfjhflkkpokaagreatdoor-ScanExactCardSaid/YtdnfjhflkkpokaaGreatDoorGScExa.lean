/- Joined texts of the walk, made small by a program. -/
import Derived.Test.YtdnfjhflkkpokaaGreatDoorGk16
import Derived.Test.YtdnfjhflkkpokaaGreatDoorGk5
import Derived.Test.YtdnfjhflkkpokaaGreatDoorGScExaF
import Derived.Test.YtdnfjhflkkpokaaGreatDoorCards
import Derived.Test.YtdnfjhflkkpokaaGreatDoorTie
import Derived.WalkKit
import Derived.ProofKit
import Derived.OpenShut
import Derived.Deep.DeepHandedRow
import Derived.Lib.LaidTab
set_option linter.unusedSimpArgs false
set_option linter.unusedVariables false
namespace Go.Proofs.YtdnfjhflkkpokaaGreatDoor.Av
open Go Go.ChangeShapes Go.WideShapes Go.ChangeAt Go.RowKit
set_option maxRecDepth 100000
theorem nE:Tryz.prog.globalNamed "internal/strconv.uint64pow10" = some 6:=asq
def YK:List Int:=[1,10,100,1000,10000,100000,1000000,10000000,100000000,1000000000,10000000000,100000000000,1000000000000,10000000000000,100000000000000,1000000000000000,10000000000000000,100000000000000000,1000000000000000000,10000000000000000000]
theorem Ow:(Tryz.prog.globals[6]?).map (·.type)=some 317:=asq
theorem JP:Tryz.prog.cellsOf 317=20:=asq
theorem R2:Tryz.prog.cellsOf 231=1:=asq
theorem nD:Tryz.prog.globalNamed "strconv.ErrRange" = some 5:=asq
theorem Fs : "*" ++ "errors.errorString" = "*errors.errorString" := by decide
theorem tV(u:TypeId)(h:Tryz.prog.typeName? 3 u=some "*errors.errorString"):u=321 :=
 typeName_ptr_named (nm := "errors.errorString") (by rw [Fs];kernel_rfl) asq (by decide) u (by rw [Fs];exact h)
theorem Ov:(Tryz.prog.globals[5]?).map (·.type)=some 242:=asq
theorem nC:Tryz.prog.globalNamed "strconv.ErrSyntax" = some 4:=asq
theorem Ou:(Tryz.prog.globals[4]?).map (·.type)=some 242:=asq
theorem nB:Tryz.prog.globalNamed "castellan/syntax.days" = some 2:=asq
def YJ:List Int:=[31,28,31,30,31,30,31,31,30,31,30,31]
theorem Ot:(Tryz.prog.globals[2]?).map (·.type)=some 246:=asq
theorem JO:Tryz.prog.cellsOf 246=12:=asq
theorem R1:Tryz.prog.cellsOf 3=1:=asq
theorem VA{W:World}(c:laidMet Tryz.prog Rows.scanExactRow.laid W)(e:W.ShapedOpen Tryz.prog):tS (ni W).mem/\wn W:=by
 have b:Lib.VarReads Tryz.prog W "unicode/utf8.first" Lib.firstData:=by
  have:=Lib.laidMet.reads c (n := "unicode/utf8.first") (d:=Rows.laid_unicode_utf8_first) (apR (i:=7) rfl)
  rwa[show(Rows.laid_unicode_utf8_first:DataW Unit)=Lib.firstData by kernel_rfl]at this
 have a:Lib.VarReads Tryz.prog W "unicode/utf8.acceptRanges" Lib.acceptData:=by
  have:=Lib.laidMet.reads c (n := "unicode/utf8.acceptRanges") (d:=Rows.laid_unicode_utf8_acceptRanges) (apR (i:=3) rfl)
  rwa[show(Rows.laid_unicode_utf8_acceptRanges:DataW Unit)=Lib.acceptData by kernel_rfl]at this
 have m:=laidMet.tail c;have g:=laidMet.tail m;have t2:=Lib.tabIs_of_head (zs:=YK) nE Ow Tryz.underlying317 Tryz.underlying231 R2 JP g;have k:=laidMet.tail g;have h4:=laidMet.tail k;obtain⟨a4,q,v4,_⟩:=laid_sentinel h4 nD Ov Tryz.underlying242 tV Tryz.underlying321 Tryz.underlying323 rfl rfl Tryz.underlying9 asq asq;have h:=laidMet.tail h4;obtain⟨a5,o,v5,_⟩:=laid_sentinel h nC Ou Tryz.underlying242 tV Tryz.underlying321 Tryz.underlying323 rfl rfl Tryz.underlying9 asq asq;have f:=laidMet.tail h;have j:=Lib.tabIs_of_head (zs:=YJ) nB Ot Tryz.underlying246 Tryz.underlying3 R1 JO f;have l:=laidMet.tail f;have p:=laidMet.tail l;exact ahx (adu e) (rP (aik t2 nE) (rP (ans b a ae7 (by rfl)) (rP (afT v4 nD) (rP (afT v5 nC) (rP (aik j nB) (rP (ajU b a ae6 (by rfl)) ajJ))))))
theorem Wf:ownKnob Tryz.prog.godebug=none:=asq
theorem VB:∃(X:Type) (e:X->List AV) (ok:X->Prop),ama Tryz.prog Tryz.f6.params.toList e ok/\∀y,ok y->aoX 6 (e y) [] λav _=>av=.bool true:=by refine⟨_,_,_,ac6 (t:=27) asq ale (ac6 (t:=68) asq ag1 aiS),?_⟩;rintro⟨w,a,_⟩ ⟨d,b,_⟩;exact alK (@hid _ (λ{L K} q=>ahJ q)) (@hid _ (λ{vs c} g {L K} q=>ZM g q)) d.uq d.un d.rn d.ra d.ad b.who b.base b.f b.nl b.nz (λ{l} i h j k {L K} q=>aoJ ny h j k a.f i q) (L:=[]) (K:=λav _=>av=.bool true) (λ_=>rfl)
noncomputable def jH(os:Os):World:={World.holding Tryz.prog os ⟨#[],#[],[]⟩with heap:=let h:=(World.holding Tryz.prog os ⟨#[],#[],[]⟩).heap;((((((((((h.modify 7 fun
 |.cells _ t frozen=>.cells ([Value.int .u8 0,Value.int .u8 1,Value.int .u8 28,Value.int .u8 2,Value.int .u8 29,Value.int .u8 14,Value.int .u8 24,Value.int .u8 3,Value.int .u8 30,Value.int .u8 22,Value.int .u8 20,Value.int .u8 15,Value.int .u8 25,Value.int .u8 17,Value.int .u8 4,Value.int .u8 8,Value.int .u8 31,Value.int .u8 27,Value.int .u8 13,Value.int .u8 23,Value.int .u8 21,Value.int .u8 19,Value.int .u8 16,Value.int .u8 7,Value.int .u8 26,Value.int .u8 12,Value.int .u8 18,Value.int .u8 6,Value.int .u8 11,Value.int .u8 5,Value.int .u8 10,Value.int .u8 9]:List Value).toArray t frozen
 |o=>o).modify 8 fun
 |.cells _ t frozen=>.cells ([Value.int .u8 0,Value.int .u8 1,Value.int .u8 56,Value.int .u8 2,Value.int .u8 57,Value.int .u8 49,Value.int .u8 28,Value.int .u8 3,Value.int .u8 61,Value.int .u8 58,Value.int .u8 42,Value.int .u8 50,Value.int .u8 38,Value.int .u8 29,Value.int .u8 17,Value.int .u8 4,Value.int .u8 62,Value.int .u8 47,Value.int .u8 59,Value.int .u8 36,Value.int .u8 45,Value.int .u8 43,Value.int .u8 51,Value.int .u8 22,Value.int .u8 53,Value.int .u8 39,Value.int .u8 33,Value.int .u8 30,Value.int .u8 24,Value.int .u8 18,Value.int .u8 12,Value.int .u8 5,Value.int .u8 63,Value.int .u8 55,Value.int .u8 48,Value.int .u8 27,Value.int .u8 60,Value.int .u8 41,Value.int .u8 37,Value.int .u8 16,Value.int .u8 46,Value.int .u8 35,Value.int .u8 44,Value.int .u8 21,Value.int .u8 52,Value.int .u8 32,Value.int .u8 23,Value.int .u8 11,Value.int .u8 54,Value.int .u8 26,Value.int .u8 40,Value.int .u8 15,Value.int .u8 34,Value.int .u8 20,Value.int .u8 31,Value.int .u8 10,Value.int .u8 25,Value.int .u8 14,Value.int .u8 19,Value.int .u8 9,Value.int .u8 13,Value.int .u8 8,Value.int .u8 7,Value.int .u8 6]:List Value).toArray t frozen
 |o=>o).modify 6 fun
 |.cells _ t frozen=>.cells ([Value.int .u64 1,Value.int .u64 10,Value.int .u64 100,Value.int .u64 1000,Value.int .u64 10000,Value.int .u64 100000,Value.int .u64 1000000,Value.int .u64 10000000,Value.int .u64 100000000,Value.int .u64 1000000000,Value.int .u64 10000000000,Value.int .u64 100000000000,Value.int .u64 1000000000000,Value.int .u64 10000000000000,Value.int .u64 100000000000000,Value.int .u64 1000000000000000,Value.int .u64 10000000000000000,Value.int .u64 100000000000000000,Value.int .u64 1000000000000000000,Value.int .u64 10000000000000000000]:List Value).toArray t frozen
 |o=>o).modify 1 fun
 |.cells _ t frozen=>.cells ([Value.int .u8 128,Value.int .u8 191,Value.int .u8 160,Value.int .u8 191,Value.int .u8 128,Value.int .u8 159,Value.int .u8 144,Value.int .u8 191,Value.int .u8 128,Value.int .u8 143,Value.int .u8 0,Value.int .u8 0,Value.int .u8 0,Value.int .u8 0,Value.int .u8 0,Value.int .u8 0,Value.int .u8 0,Value.int .u8 0,Value.int .u8 0,Value.int .u8 0,Value.int .u8 0,Value.int .u8 0,Value.int .u8 0,Value.int .u8 0,Value.int .u8 0,Value.int .u8 0,Value.int .u8 0,Value.int .u8 0,Value.int .u8 0,Value.int .u8 0,Value.int .u8 0,Value.int .u8 0]:List Value).toArray t frozen
 |o=>o).modify 5 fun
 |.cells _ t frozen=>.cells ([Value.iface 321 (.pointer (some ⟨h.size+0,0,none⟩))]:List Value).toArray t frozen
 |o=>o).modify 4 fun
 |.cells _ t frozen=>.cells ([Value.iface 321 (.pointer (some ⟨h.size+1,0,none⟩))]:List Value).toArray t frozen
 |o=>o).modify 2 fun
 |.cells _ t frozen=>.cells ([Value.int .i64 31,Value.int .i64 28,Value.int .i64 31,Value.int .i64 30,Value.int .i64 31,Value.int .i64 30,Value.int .i64 31,Value.int .i64 31,Value.int .i64 30,Value.int .i64 31,Value.int .i64 30,Value.int .i64 31]:List Value).toArray t frozen
 |o=>o).modify 0 fun
 |.cells _ t frozen=>.cells ((Go.Pinned.utf8FirstZ.map λ(n:Nat)=>Value.int .u8 (Int.ofNat n)):List Value).toArray t frozen
 |o=>o).push (.cells (#[Value.string ⟨⟨[118,97,108,117,101,32,111,117,116,32,111,102,32,114,97,110,103,101]⟩⟩]:Array Value) 323)).push (.cells (#[Value.string ⟨⟨[105,110,118,97,108,105,100,32,115,121,110,116,97,120]⟩⟩]:Array Value) 323))}
theorem Wg(os:Os):laidMet Tryz.prog Rows.scanExactRow.laid ((jH os).forCall (λ_ _=>0) ⟨#[],#[.agg #[.slice none 0 0,.slice none 0 0,.slice none 0 0],.agg #[.slice none 0 0,.slice none 0 0,.int .i64 0,.int .i64 0,.string ⟨⟨[]⟩⟩,.string ⟨⟨[]⟩⟩,.slice none 0 0,.slice none 0 0,.slice none 0 0,.bool false,.int .i64 0,.int .i64 0]],[]⟩).memory :=
 laidMet_of_run' 8 asq asq
set_option maxRecDepth 100000 in
theorem Oy(os:Os)(c:os.Started)(H:Type)(enc:TypeId×Value->H)(I:Stop.Interp):
  ReturnsInHanded {} Tryz.checked os 6 .any ((OpenSpec.ofChange Rows.scanExactSpec).preRow enc Tryz.prog Tryz.f6 Rows.scanExactRow.domain false Rows.scanExactRow.laid) (((OpenSpec.ofChange Rows.scanExactSpec).at I).post enc Tryz.prog Tryz.f6 false true false false):=by
 have q:(DataW.whole enc Tryz.prog ((jH os).forCall (λ_ _=>0) ⟨#[],#[.agg #[.slice none 0 0,.slice none 0 0,.slice none 0 0],.agg #[.slice none 0 0,.slice none 0 0,.int .i64 0,.int .i64 0,.string ⟨⟨[]⟩⟩,.string ⟨⟨[]⟩⟩,.slice none 0 0,.slice none 0 0,.slice none 0 0,.bool false,.int .i64 0,.int .i64 0]],[]⟩).memory Tryz.f6.params.toList Rows.scanExactSpec.vars false #[.agg #[.slice none 0 0,.slice none 0 0,.slice none 0 0],.agg #[.slice none 0 0,.slice none 0 0,.int .i64 0,.int .i64 0,.string ⟨⟨[]⟩⟩,.string ⟨⟨[]⟩⟩,.slice none 0 0,.slice none 0 0,.slice none 0 0,.bool false,.int .i64 0,.int .i64 0]].toList 8).isSome=true:=asq;refine returnsInHanded_of_row (C:=Tryz.checked) (s:=OpenSpec.ofChange Rows.scanExactSpec) Wf c asq Tryz.func6
  (witness_row_at (enc:=enc) (C:=Tryz.checked) false (jH os) #[.agg #[.slice none 0 0,.slice none 0 0,.slice none 0 0],.agg #[.slice none 0 0,.slice none 0 0,.int .i64 0,.int .i64 0,.string ⟨⟨[]⟩⟩,.string ⟨⟨[]⟩⟩,.slice none 0 0,.slice none 0 0,.slice none 0 0,.bool false,.int .i64 0,.int .i64 0]] rfl asq asq asq
   (OpenSpec.preRow_of_cond 8 (Option.some_get q).symm asq (λk i=>by cases i) asq (Wg os))) ?_
 intro W base args ds l d e r _ _ f w g _;obtain⟨X,y,ok,x,o⟩:=VB;exact aaz (tb:=4) Tryz.func6 rfl asq JH JG XT asq rfl Tryz.underlying4 rfl
  (λH ds h=>match ds,h with|[_,_],_=>⟨rfl,rfl,rfl⟩) o enc W args ds l d (λp u=>x _ enc W base args.toList ds p (λj t v a b=>e j t v (by simpa using a) (by simpa using b)) u (λn m=>of_decide_eq_true (apa.1 f n (wR m)))) r (VA w g)
theorem Vz:Rows.ScanExactSaid :=
 OpenClaim.holds_of_cond 6 Tryz.f6 rfl rfl rfl rfl rfl rfl rfl ⟨rfl,rfl,rfl,rfl,rfl⟩ rfl rfl rfl rfl rfl Ej Tryz.func6 NE
  (of_decide_eq_true asq) (by unfold Func.isWrapper;first|(rw[if_pos (by decide +kernel)];kernel_rfl)|(rw[if_neg (by decide +kernel)];exact⟨rfl,rfl⟩))
  (λos a H enc _ F=>by rw[OpenClaim.pre_eq_preRow];exact Oy os a H enc F)
theorem Sf(f:FuncId)(fn:Func)(g:Tryz.pinned.checked.prog.funcNamed "castellan/castellanlaw24.ScanExact" = some f)(b:Tryz.pinned.checked.prog.funcs[f]?=some fn):
  true=Tryz.pinned.checked.prog.looks []/\∀(j:Nat) t,fn.params[j]?=some t->Tryz.pinned.checked.prog.wantsStandIn t=false:=by
 obtain rfl:f=6:=Option.some.inj ((Ej).symm.trans g) |>.symm;obtain rfl:fn=Tryz.f6:=(Option.some.inj (Tryz.func6.symm.trans b)).symm;refine⟨(XS).symm,λj t c=>?_⟩;have a:Tryz.f6.params.toList.all (λt => !Tryz.prog.wantsStandIn t)=true:=Wn;have d:t∈Tryz.f6.params.toList:=by simpa using Array.mem_of_getElem? c
 have e:Tryz.prog.wantsStandIn t=false:=by simpa using apa.1 a t d
 exact e
theorem lawScanExact_card:Rows.ScanExactCardSaid :=
 Claim7.holds_tied_plain_at .later [] _ _ _ _ Vz (λ_ h=>by cases h) asq (λ_ h=>by cases h) scanExact_row_tie rfl ⟨rfl,rfl⟩ Wo rfl Sf XR
end Go.Proofs.YtdnfjhflkkpokaaGreatDoor.Av
