/- Joined texts of the walk, made small by a program. -/
import Derived.Test.YtdnfjhflkkpokaaGreatDoorKk15
import Derived.Test.YtdnfjhflkkpokaaGreatDoorKk13
import Derived.Test.YtdnfjhflkkpokaaGreatDoorKk5
import Derived.Test.YtdnfjhflkkpokaaGreatDoorKScSeeF
import Derived.Test.YtdnfjhflkkpokaaGreatDoorCards
import Derived.Test.YtdnfjhflkkpokaaGreatDoorTie
import Derived.WalkKit
import Derived.ProofKit
import Derived.OpenShut
import Derived.Deep.DeepHandedRow
import Derived.Lib.LaidTab
set_option linter.unusedSimpArgs false
set_option linter.unusedVariables false
namespace Go.Proofs.YtdnfjhflkkpokaaGreatDoor.Av
open Go Go.ChangeShapes Go.WideShapes Go.ChangeAt Go.RowKit
set_option maxRecDepth 100000
theorem mE:Tryz.prog.globalNamed "internal/strconv.uint64pow10" = some 6:=amO
def V5:List Int:=[1,10,100,1000,10000,100000,1000000,10000000,100000000,1000000000,10000000000,100000000000,1000000000000,10000000000000,100000000000000,1000000000000000,10000000000000000,100000000000000000,1000000000000000000,10000000000000000000]
theorem N4:(Tryz.prog.globals[6]?).map (·.type)=some 317:=amO
theorem Ke:Tryz.prog.cellsOf 317=20:=amO
theorem OT:Tryz.prog.cellsOf 231=1:=amO
theorem mD:Tryz.prog.globalNamed "strconv.ErrRange" = some 5:=amO
theorem FA : "*" ++ "errors.errorString" = "*errors.errorString" := by decide
theorem tM(u:TypeId)(h:Tryz.prog.typeName? 3 u=some "*errors.errorString"):u=321 :=
 typeName_ptr_named (nm := "errors.errorString") (by rw [FA];kernel_rfl) amO (by decide) u (by rw [FA];exact h)
theorem N3:(Tryz.prog.globals[5]?).map (·.type)=some 242:=amO
theorem mC:Tryz.prog.globalNamed "strconv.ErrSyntax" = some 4:=amO
theorem N2:(Tryz.prog.globals[4]?).map (·.type)=some 242:=amO
theorem mB:Tryz.prog.globalNamed "castellan/syntax.days" = some 2:=amO
def V4:List Int:=[31,28,31,30,31,30,31,31,30,31,30,31]
theorem N1:(Tryz.prog.globals[2]?).map (·.type)=some 246:=amO
theorem Kc:Tryz.prog.cellsOf 246=12:=amO
theorem OS:Tryz.prog.cellsOf 3=1:=amO
theorem RE{W:World}(h0:laidMet Tryz.prog Rows.scanSeesRow.laid W)(hsh:W.ShapedOpen Tryz.prog):mw (mz W).mem/\qz W:=by
 have hu3:Lib.VarReads Tryz.prog W "unicode/utf8.first" Lib.firstData:=by
  have:=Lib.laidMet.reads h0 (n := "unicode/utf8.first") (d:=Rows.laid_unicode_utf8_first) (akg (i:=7) rfl)
  rwa[show(Rows.laid_unicode_utf8_first:DataW Unit)=Lib.firstData by kernel_rfl]at this
 have hu4:Lib.VarReads Tryz.prog W "unicode/utf8.acceptRanges" Lib.acceptData:=by
  have:=Lib.laidMet.reads h0 (n := "unicode/utf8.acceptRanges") (d:=Rows.laid_unicode_utf8_acceptRanges) (akg (i:=3) rfl)
  rwa[show(Rows.laid_unicode_utf8_acceptRanges:DataW Unit)=Lib.acceptData by kernel_rfl]at this
 have h1:=laidMet.tail h0;have h2:=laidMet.tail h1;have t2:=Lib.tabIs_of_head (zs:=V5) mE N4 Tryz.underlying317 Tryz.underlying231 OT Ke h2;have h3:=laidMet.tail h2;have h4:=laidMet.tail h3;obtain⟨a4,s4,v4,_⟩:=laid_sentinel h4 mD N3 Tryz.underlying242 tM Tryz.underlying321 Tryz.underlying323 rfl rfl Tryz.underlying9 amO amO;have h5:=laidMet.tail h4;obtain⟨a5,s5,v5,_⟩:=laid_sentinel h5 mC N2 Tryz.underlying242 tM Tryz.underlying321 Tryz.underlying323 rfl rfl Tryz.underlying9 amO amO;have h6:=laidMet.tail h5;have t6:=Lib.tabIs_of_head (zs:=V4) mB N1 Tryz.underlying246 Tryz.underlying3 OS Kc h6;have h7:=laidMet.tail h6;have h8:=laidMet.tail h7;exact WY (SX hsh) (eJ (Xj t2 mE) (eJ (ae7 hu3 hu4 XI (by rfl)) (eJ (TU v4 mD) (eJ (TU v5 mC) (eJ (Xj t6 mB) (eJ (Zg hu3 hu4 XH (by rfl)) Zc))))))
theorem Th:ownKnob Tryz.prog.godebug=none:=amO
theorem RF:∃(X:Type) (ec:X->List AV) (ok:X->Prop),aaM Tryz.prog Tryz.f3.params.toList ec ok/\∀y,ok y->ajp 3 (ec y) [] λav _=>av=.bool true:=by refine⟨_,_,_,adV (t:=27) amO af5 (FE (t:=24) amO Ux (FE (t:=24) amO Ux YA)),?_⟩;rintro⟨w,a,d,_⟩ ⟨hw,ha,hd,_⟩;exact ahq (@hid _ (λ{L K} q=>Xb q)) hw.uq hw.un hw.rn hw.ra hw.ad ha hd (L:=[]) (K:=λav _=>av=.bool true) (λ_=>rfl)
noncomputable def jn(os:Os):World:={World.holding Tryz.prog os ⟨#[],#[],[]⟩with heap:=let h:=(World.holding Tryz.prog os ⟨#[],#[],[]⟩).heap;((((((((((h.modify 7 fun
 |.cells _ t frozen=>.cells ([Value.int .u8 0,Value.int .u8 1,Value.int .u8 28,Value.int .u8 2,Value.int .u8 29,Value.int .u8 14,Value.int .u8 24,Value.int .u8 3,Value.int .u8 30,Value.int .u8 22,Value.int .u8 20,Value.int .u8 15,Value.int .u8 25,Value.int .u8 17,Value.int .u8 4,Value.int .u8 8,Value.int .u8 31,Value.int .u8 27,Value.int .u8 13,Value.int .u8 23,Value.int .u8 21,Value.int .u8 19,Value.int .u8 16,Value.int .u8 7,Value.int .u8 26,Value.int .u8 12,Value.int .u8 18,Value.int .u8 6,Value.int .u8 11,Value.int .u8 5,Value.int .u8 10,Value.int .u8 9]:List Value).toArray t frozen
 |o=>o).modify 8 fun
 |.cells _ t frozen=>.cells ([Value.int .u8 0,Value.int .u8 1,Value.int .u8 56,Value.int .u8 2,Value.int .u8 57,Value.int .u8 49,Value.int .u8 28,Value.int .u8 3,Value.int .u8 61,Value.int .u8 58,Value.int .u8 42,Value.int .u8 50,Value.int .u8 38,Value.int .u8 29,Value.int .u8 17,Value.int .u8 4,Value.int .u8 62,Value.int .u8 47,Value.int .u8 59,Value.int .u8 36,Value.int .u8 45,Value.int .u8 43,Value.int .u8 51,Value.int .u8 22,Value.int .u8 53,Value.int .u8 39,Value.int .u8 33,Value.int .u8 30,Value.int .u8 24,Value.int .u8 18,Value.int .u8 12,Value.int .u8 5,Value.int .u8 63,Value.int .u8 55,Value.int .u8 48,Value.int .u8 27,Value.int .u8 60,Value.int .u8 41,Value.int .u8 37,Value.int .u8 16,Value.int .u8 46,Value.int .u8 35,Value.int .u8 44,Value.int .u8 21,Value.int .u8 52,Value.int .u8 32,Value.int .u8 23,Value.int .u8 11,Value.int .u8 54,Value.int .u8 26,Value.int .u8 40,Value.int .u8 15,Value.int .u8 34,Value.int .u8 20,Value.int .u8 31,Value.int .u8 10,Value.int .u8 25,Value.int .u8 14,Value.int .u8 19,Value.int .u8 9,Value.int .u8 13,Value.int .u8 8,Value.int .u8 7,Value.int .u8 6]:List Value).toArray t frozen
 |o=>o).modify 6 fun
 |.cells _ t frozen=>.cells ([Value.int .u64 1,Value.int .u64 10,Value.int .u64 100,Value.int .u64 1000,Value.int .u64 10000,Value.int .u64 100000,Value.int .u64 1000000,Value.int .u64 10000000,Value.int .u64 100000000,Value.int .u64 1000000000,Value.int .u64 10000000000,Value.int .u64 100000000000,Value.int .u64 1000000000000,Value.int .u64 10000000000000,Value.int .u64 100000000000000,Value.int .u64 1000000000000000,Value.int .u64 10000000000000000,Value.int .u64 100000000000000000,Value.int .u64 1000000000000000000,Value.int .u64 10000000000000000000]:List Value).toArray t frozen
 |o=>o).modify 1 fun
 |.cells _ t frozen=>.cells ([Value.int .u8 128,Value.int .u8 191,Value.int .u8 160,Value.int .u8 191,Value.int .u8 128,Value.int .u8 159,Value.int .u8 144,Value.int .u8 191,Value.int .u8 128,Value.int .u8 143,Value.int .u8 0,Value.int .u8 0,Value.int .u8 0,Value.int .u8 0,Value.int .u8 0,Value.int .u8 0,Value.int .u8 0,Value.int .u8 0,Value.int .u8 0,Value.int .u8 0,Value.int .u8 0,Value.int .u8 0,Value.int .u8 0,Value.int .u8 0,Value.int .u8 0,Value.int .u8 0,Value.int .u8 0,Value.int .u8 0,Value.int .u8 0,Value.int .u8 0,Value.int .u8 0,Value.int .u8 0]:List Value).toArray t frozen
 |o=>o).modify 5 fun
 |.cells _ t frozen=>.cells ([Value.iface 321 (.pointer (some ⟨h.size+0,0,none⟩))]:List Value).toArray t frozen
 |o=>o).modify 4 fun
 |.cells _ t frozen=>.cells ([Value.iface 321 (.pointer (some ⟨h.size+1,0,none⟩))]:List Value).toArray t frozen
 |o=>o).modify 2 fun
 |.cells _ t frozen=>.cells ([Value.int .i64 31,Value.int .i64 28,Value.int .i64 31,Value.int .i64 30,Value.int .i64 31,Value.int .i64 30,Value.int .i64 31,Value.int .i64 31,Value.int .i64 30,Value.int .i64 31,Value.int .i64 30,Value.int .i64 31]:List Value).toArray t frozen
 |o=>o).modify 0 fun
 |.cells _ t frozen=>.cells ((Go.Pinned.utf8FirstZ.map λ(n:Nat)=>Value.int .u8 (Int.ofNat n)):List Value).toArray t frozen
 |o=>o).push (.cells (#[Value.string ⟨⟨[118,97,108,117,101,32,111,117,116,32,111,102,32,114,97,110,103,101]⟩⟩]:Array Value) 323)).push (.cells (#[Value.string ⟨⟨[105,110,118,97,108,105,100,32,115,121,110,116,97,120]⟩⟩]:Array Value) 323))}
theorem Ti(os:Os):laidMet Tryz.prog Rows.scanSeesRow.laid ((jn os).forCall (λ_ _=>0) ⟨#[],#[.agg #[.slice none 0 0,.slice none 0 0,.slice none 0 0],.slice none 0 0,.slice none 0 0],[]⟩).memory :=
 laidMet_of_run' 8 amO amO
set_option maxRecDepth 100000 in
theorem Og(os:Os)(started:os.Started)(H:Type)(enc:TypeId×Value->H)(I:Stop.Interp):
  ReturnsInHanded {} Tryz.checked os 3 .any ((OpenSpec.ofChange Rows.scanSeesSpec).preRow enc Tryz.prog Tryz.f3 Rows.scanSeesRow.domain false Rows.scanSeesRow.laid) (((OpenSpec.ofChange Rows.scanSeesSpec).at I).post enc Tryz.prog Tryz.f3 false true false false):=by
 have hs:(DataW.whole enc Tryz.prog ((jn os).forCall (λ_ _=>0) ⟨#[],#[.agg #[.slice none 0 0,.slice none 0 0,.slice none 0 0],.slice none 0 0,.slice none 0 0],[]⟩).memory Tryz.f3.params.toList Rows.scanSeesSpec.vars false #[.agg #[.slice none 0 0,.slice none 0 0,.slice none 0 0],.slice none 0 0,.slice none 0 0].toList 8).isSome=true:=amO;refine returnsInHanded_of_row (C:=Tryz.checked) (s:=OpenSpec.ofChange Rows.scanSeesSpec) Th started amO Tryz.func3
  (witness_row_at (enc:=enc) (C:=Tryz.checked) false (jn os) #[.agg #[.slice none 0 0,.slice none 0 0,.slice none 0 0],.slice none 0 0,.slice none 0 0] rfl amO amO amO
   (OpenSpec.preRow_of_cond 8 (Option.some_get hs).symm amO (λk hk=>by cases hk) amO (Ti os))) ?_
 intro W base args ds gs before hval hW _ _ hsz hL hsh _;obtain⟨X,ec,ok,h1,h2⟩:=RF;exact NT (tb:=4) Tryz.func3 rfl amO Jv Ju Vd amO rfl Tryz.underlying4 rfl
  (λH ds h=>match ds,h with|[_,_,_],_=>⟨rfl,rfl,rfl⟩) h2 enc W args ds gs before (λp hp=>h1 _ enc W base args.toList ds p (λj t v a b=>hval j t v (by simpa using a) (by simpa using b)) hp (λn hn=>of_decide_eq_true (ajE.1 hsz n (j6 hn)))) hW (RE hL hsh)
theorem RD:Rows.ScanSeesSaid :=
 OpenClaim.holds_of_cond 3 Tryz.f3 rfl rfl rfl rfl rfl rfl rfl ⟨rfl,rfl,rfl,rfl,rfl⟩ rfl rfl rfl rfl rfl Fl Tryz.func3 Kl
  (of_decide_eq_true amO) (by unfold Func.isWrapper;first|(rw[if_pos (by decide +kernel)];kernel_rfl)|(rw[if_neg (by decide +kernel)];exact⟨rfl,rfl⟩))
  (λos started H enc _ F=>by rw[OpenClaim.pre_eq_preRow];exact Og os started H enc F)
theorem QZ(f:FuncId)(fn:Func)(hf:Tryz.pinned.checked.prog.funcNamed "castellan/castellanlaw24.ScanSees" = some f)(hfn:Tryz.pinned.checked.prog.funcs[f]?=some fn):
  true=Tryz.pinned.checked.prog.looks []/\∀(j:Nat) t,fn.params[j]?=some t->Tryz.pinned.checked.prog.wantsStandIn t=false:=by
 obtain rfl:f=3:=Option.some.inj ((Fl).symm.trans hf) |>.symm;obtain rfl:fn=Tryz.f3:=(Option.some.inj (Tryz.func3.symm.trans hfn)).symm;refine⟨(Vc).symm,λj t ht=>?_⟩;have hall:Tryz.f3.params.toList.all (λt => !Tryz.prog.wantsStandIn t)=true:=Tj;have hm:t∈Tryz.f3.params.toList:=by simpa using Array.mem_of_getElem? ht
 have h2:Tryz.prog.wantsStandIn t=false:=by simpa using ajE.1 hall t hm
 exact h2
theorem lawScanSees_card:Rows.ScanSeesCardSaid :=
 Claim7.holds_tied_plain_at .later [] _ _ _ _ RD (λ_ h=>by cases h) amO (λ_ h=>by cases h) scanSees_row_tie rfl ⟨rfl,rfl⟩ Tk rfl QZ Vb
end Go.Proofs.YtdnfjhflkkpokaaGreatDoor.Av
