/- Joined texts of the walk, made small by a program. -/
import Derived.Test.YtdnfjhflkkpokaaGreatDoorKk15
import Derived.Test.YtdnfjhflkkpokaaGreatDoorKk13
import Derived.Test.YtdnfjhflkkpokaaGreatDoorKk17
import Derived.Test.YtdnfjhflkkpokaaGreatDoorKk12
import Derived.Test.YtdnfjhflkkpokaaGreatDoorKk5
import Derived.Test.YtdnfjhflkkpokaaGreatDoorKScPicF
import Derived.Test.YtdnfjhflkkpokaaGreatDoorCards
import Derived.Test.YtdnfjhflkkpokaaGreatDoorTie
import Derived.WalkKit
import Derived.ProofKit
import Derived.OpenShut
import Derived.Deep.DeepHandedRow
import Derived.Lib.LaidTab
import Derived.Test.YtdnfjhflkkpokaaGreatDoorKk19
set_option linter.unusedSimpArgs false
set_option linter.unusedVariables false
namespace Go.Proofs.YtdnfjhflkkpokaaGreatDoor.Av
open Go Go.ChangeShapes Go.WideShapes Go.ChangeAt Go.RowKit
set_option maxRecDepth 100000
theorem kN:Tryz.prog.globalNamed "internal/strconv.uint64pow10" = some 6:=amO
def Uk:List Int:=[1,10,100,1000,10000,100000,1000000,10000000,100000000,1000000000,10000000000,100000000000,1000000000000,10000000000000,100000000000000,1000000000000000,10000000000000000,100000000000000000,1000000000000000000,10000000000000000000]
theorem Ki:(Tryz.prog.globals[6]?).map (·.type)=some 317:=amO
theorem Fz:Tryz.prog.cellsOf 317=20:=amO
theorem N6:Tryz.prog.cellsOf 231=1:=amO
theorem kL:Tryz.prog.globalNamed "strconv.ErrRange" = some 5:=amO
theorem yC : "*" ++ "errors.errorString" = "*errors.errorString" := by decide
theorem qD(u:TypeId)(h:Tryz.prog.typeName? 3 u=some "*errors.errorString"):u=321 :=
 typeName_ptr_named (nm := "errors.errorString") (by rw [yC];kernel_rfl) amO (by decide) u (by rw [yC];exact h)
theorem Kh:(Tryz.prog.globals[5]?).map (·.type)=some 242:=amO
theorem kK:Tryz.prog.globalNamed "strconv.ErrSyntax" = some 4:=amO
theorem Kg:(Tryz.prog.globals[4]?).map (·.type)=some 242:=amO
theorem kJ:Tryz.prog.globalNamed "castellan/syntax.days" = some 2:=amO
def Uj:List Int:=[31,28,31,30,31,30,31,31,30,31,30,31]
theorem Kf:(Tryz.prog.globals[2]?).map (·.type)=some 246:=amO
theorem Fy:Tryz.prog.cellsOf 246=12:=amO
theorem N5:Tryz.prog.cellsOf 3=1:=amO
theorem Q1{W:World}(h0:laidMet Tryz.prog Rows.scanPicksRow.laid W)(hsh:W.ShapedOpen Tryz.prog):mw (mz W).mem/\qz W:=by
 have hu3:Lib.VarReads Tryz.prog W "unicode/utf8.first" Lib.firstData:=by
  have:=Lib.laidMet.reads h0 (n := "unicode/utf8.first") (d:=Rows.laid_unicode_utf8_first) (akg (i:=7) rfl)
  rwa[show(Rows.laid_unicode_utf8_first:DataW Unit)=Lib.firstData by kernel_rfl]at this
 have hu4:Lib.VarReads Tryz.prog W "unicode/utf8.acceptRanges" Lib.acceptData:=by
  have:=Lib.laidMet.reads h0 (n := "unicode/utf8.acceptRanges") (d:=Rows.laid_unicode_utf8_acceptRanges) (akg (i:=3) rfl)
  rwa[show(Rows.laid_unicode_utf8_acceptRanges:DataW Unit)=Lib.acceptData by kernel_rfl]at this
 have h1:=laidMet.tail h0;have h2:=laidMet.tail h1;have t2:=Lib.tabIs_of_head (zs:=Uk) kN Ki Tryz.underlying317 Tryz.underlying231 N6 Fz h2;have h3:=laidMet.tail h2;have h4:=laidMet.tail h3;obtain⟨a4,s4,v4,_⟩:=laid_sentinel h4 kL Kh Tryz.underlying242 qD Tryz.underlying321 Tryz.underlying323 rfl rfl Tryz.underlying9 amO amO;have h5:=laidMet.tail h4;obtain⟨a5,s5,v5,_⟩:=laid_sentinel h5 kK Kg Tryz.underlying242 qD Tryz.underlying321 Tryz.underlying323 rfl rfl Tryz.underlying9 amO amO;have h6:=laidMet.tail h5;have t6:=Lib.tabIs_of_head (zs:=Uj) kJ Kf Tryz.underlying246 Tryz.underlying3 N5 Fy h6;have h7:=laidMet.tail h6;have h8:=laidMet.tail h7;exact WY (SX hsh) (eJ (Xj t2 kN) (eJ (ae7 hu3 hu4 XI (by rfl)) (eJ (TU v4 kL) (eJ (TU v5 kK) (eJ (Xj t6 kJ) (eJ (Zg hu3 hu4 XH (by rfl)) Zc))))))
theorem RG:ownKnob Tryz.prog.godebug=none:=amO
theorem Q2:∃(X:Type) (ec:X->List AV) (ok:X->Prop),aaM Tryz.prog Tryz.f4.params.toList ec ok/\∀y,ok y->ajp 4 (ec y) [] λav _=>av=.bool true:=by refine⟨_,_,_,FE (t:=38) amO ab9 (FE (t:=50) amO ZT (FE (t:=4) amO (Rd.z (aba Tryz.underlying4)) YA)),?_⟩;rintro⟨l,ns,b,_⟩ ⟨hl,hn,_⟩;exact agb (@hid _ (λ{L K} q=>Xb q)) (@hid _ (λ{vs c} hn {L K} q=>Vr hn q)) hl.1 hl.2 hn.1 hn.2 (L:=[]) (K:=λav _=>av=.bool true) (λ_=>rfl)
noncomputable def iA(os:Os):World:={World.holding Tryz.prog os ⟨#[],#[],[]⟩with heap:=let h:=(World.holding Tryz.prog os ⟨#[],#[],[]⟩).heap;((((((((((h.modify 7 fun
 |.cells _ t frozen=>.cells ([Value.int .u8 0,Value.int .u8 1,Value.int .u8 28,Value.int .u8 2,Value.int .u8 29,Value.int .u8 14,Value.int .u8 24,Value.int .u8 3,Value.int .u8 30,Value.int .u8 22,Value.int .u8 20,Value.int .u8 15,Value.int .u8 25,Value.int .u8 17,Value.int .u8 4,Value.int .u8 8,Value.int .u8 31,Value.int .u8 27,Value.int .u8 13,Value.int .u8 23,Value.int .u8 21,Value.int .u8 19,Value.int .u8 16,Value.int .u8 7,Value.int .u8 26,Value.int .u8 12,Value.int .u8 18,Value.int .u8 6,Value.int .u8 11,Value.int .u8 5,Value.int .u8 10,Value.int .u8 9]:List Value).toArray t frozen
 |o=>o).modify 8 fun
 |.cells _ t frozen=>.cells ([Value.int .u8 0,Value.int .u8 1,Value.int .u8 56,Value.int .u8 2,Value.int .u8 57,Value.int .u8 49,Value.int .u8 28,Value.int .u8 3,Value.int .u8 61,Value.int .u8 58,Value.int .u8 42,Value.int .u8 50,Value.int .u8 38,Value.int .u8 29,Value.int .u8 17,Value.int .u8 4,Value.int .u8 62,Value.int .u8 47,Value.int .u8 59,Value.int .u8 36,Value.int .u8 45,Value.int .u8 43,Value.int .u8 51,Value.int .u8 22,Value.int .u8 53,Value.int .u8 39,Value.int .u8 33,Value.int .u8 30,Value.int .u8 24,Value.int .u8 18,Value.int .u8 12,Value.int .u8 5,Value.int .u8 63,Value.int .u8 55,Value.int .u8 48,Value.int .u8 27,Value.int .u8 60,Value.int .u8 41,Value.int .u8 37,Value.int .u8 16,Value.int .u8 46,Value.int .u8 35,Value.int .u8 44,Value.int .u8 21,Value.int .u8 52,Value.int .u8 32,Value.int .u8 23,Value.int .u8 11,Value.int .u8 54,Value.int .u8 26,Value.int .u8 40,Value.int .u8 15,Value.int .u8 34,Value.int .u8 20,Value.int .u8 31,Value.int .u8 10,Value.int .u8 25,Value.int .u8 14,Value.int .u8 19,Value.int .u8 9,Value.int .u8 13,Value.int .u8 8,Value.int .u8 7,Value.int .u8 6]:List Value).toArray t frozen
 |o=>o).modify 6 fun
 |.cells _ t frozen=>.cells ([Value.int .u64 1,Value.int .u64 10,Value.int .u64 100,Value.int .u64 1000,Value.int .u64 10000,Value.int .u64 100000,Value.int .u64 1000000,Value.int .u64 10000000,Value.int .u64 100000000,Value.int .u64 1000000000,Value.int .u64 10000000000,Value.int .u64 100000000000,Value.int .u64 1000000000000,Value.int .u64 10000000000000,Value.int .u64 100000000000000,Value.int .u64 1000000000000000,Value.int .u64 10000000000000000,Value.int .u64 100000000000000000,Value.int .u64 1000000000000000000,Value.int .u64 10000000000000000000]:List Value).toArray t frozen
 |o=>o).modify 1 fun
 |.cells _ t frozen=>.cells ([Value.int .u8 128,Value.int .u8 191,Value.int .u8 160,Value.int .u8 191,Value.int .u8 128,Value.int .u8 159,Value.int .u8 144,Value.int .u8 191,Value.int .u8 128,Value.int .u8 143,Value.int .u8 0,Value.int .u8 0,Value.int .u8 0,Value.int .u8 0,Value.int .u8 0,Value.int .u8 0,Value.int .u8 0,Value.int .u8 0,Value.int .u8 0,Value.int .u8 0,Value.int .u8 0,Value.int .u8 0,Value.int .u8 0,Value.int .u8 0,Value.int .u8 0,Value.int .u8 0,Value.int .u8 0,Value.int .u8 0,Value.int .u8 0,Value.int .u8 0,Value.int .u8 0,Value.int .u8 0]:List Value).toArray t frozen
 |o=>o).modify 5 fun
 |.cells _ t frozen=>.cells ([Value.iface 321 (.pointer (some ⟨h.size+0,0,none⟩))]:List Value).toArray t frozen
 |o=>o).modify 4 fun
 |.cells _ t frozen=>.cells ([Value.iface 321 (.pointer (some ⟨h.size+1,0,none⟩))]:List Value).toArray t frozen
 |o=>o).modify 2 fun
 |.cells _ t frozen=>.cells ([Value.int .i64 31,Value.int .i64 28,Value.int .i64 31,Value.int .i64 30,Value.int .i64 31,Value.int .i64 30,Value.int .i64 31,Value.int .i64 31,Value.int .i64 30,Value.int .i64 31,Value.int .i64 30,Value.int .i64 31]:List Value).toArray t frozen
 |o=>o).modify 0 fun
 |.cells _ t frozen=>.cells ((Go.Pinned.utf8FirstZ.map λ(n:Nat)=>Value.int .u8 (Int.ofNat n)):List Value).toArray t frozen
 |o=>o).push (.cells (#[Value.string ⟨⟨[118,97,108,117,101,32,111,117,116,32,111,102,32,114,97,110,103,101]⟩⟩]:Array Value) 323)).push (.cells (#[Value.string ⟨⟨[105,110,118,97,108,105,100,32,115,121,110,116,97,120]⟩⟩]:Array Value) 323))}
theorem RH(os:Os):laidMet Tryz.prog Rows.scanPicksRow.laid ((iA os).forCall (λ_ _=>0) ⟨#[],#[.slice none 0 0,.slice none 0 0,.bool false],[]⟩).memory :=
 laidMet_of_run' 8 amO amO
set_option maxRecDepth 100000 in
theorem Kk(os:Os)(started:os.Started)(H:Type)(enc:TypeId×Value->H)(I:Stop.Interp):
  ReturnsInHanded {} Tryz.checked os 4 .any ((OpenSpec.ofChange Rows.scanPicksSpec).preRow enc Tryz.prog Tryz.f4 Rows.scanPicksRow.domain false Rows.scanPicksRow.laid) (((OpenSpec.ofChange Rows.scanPicksSpec).at I).post enc Tryz.prog Tryz.f4 false true false false):=by
 have hs:(DataW.whole enc Tryz.prog ((iA os).forCall (λ_ _=>0) ⟨#[],#[.slice none 0 0,.slice none 0 0,.bool false],[]⟩).memory Tryz.f4.params.toList Rows.scanPicksSpec.vars false #[.slice none 0 0,.slice none 0 0,.bool false].toList 8).isSome=true:=amO;refine returnsInHanded_of_row (C:=Tryz.checked) (s:=OpenSpec.ofChange Rows.scanPicksSpec) RG started amO Tryz.func4
  (witness_row_at (enc:=enc) (C:=Tryz.checked) false (iA os) #[.slice none 0 0,.slice none 0 0,.bool false] rfl amO amO amO
   (OpenSpec.preRow_of_cond 8 (Option.some_get hs).symm amO (λk hk=>by cases hk) amO (RH os))) ?_
 intro W base args ds gs before hval hW _ _ hsz hL hsh _;obtain⟨X,ec,ok,h1,h2⟩:=Q2;exact NT (tb:=4) Tryz.func4 rfl amO Fn Fm To amO rfl Tryz.underlying4 rfl
  (λH ds h=>match ds,h with|[_,_,_],_=>⟨rfl,rfl,rfl⟩) h2 enc W args ds gs before (λp hp=>h1 _ enc W base args.toList ds p (λj t v a b=>hval j t v (by simpa using a) (by simpa using b)) hp (λn hn=>of_decide_eq_true (ajE.1 hsz n (j6 hn)))) hW (Q1 hL hsh)
theorem Q0:Rows.ScanPicksSaid :=
 OpenClaim.holds_of_cond 4 Tryz.f4 rfl rfl rfl rfl rfl rfl rfl ⟨rfl,rfl,rfl,rfl,rfl⟩ rfl rfl rfl rfl rfl xz Tryz.func4 Jw
  (of_decide_eq_true amO) (by unfold Func.isWrapper;first|(rw[if_pos (by decide +kernel)];kernel_rfl)|(rw[if_neg (by decide +kernel)];exact⟨rfl,rfl⟩))
  (λos started H enc _ F=>by rw[OpenClaim.pre_eq_preRow];exact Kk os started H enc F)
theorem Oh(f:FuncId)(fn:Func)(hf:Tryz.pinned.checked.prog.funcNamed "castellan/castellanlaw24.ScanPicks" = some f)(hfn:Tryz.pinned.checked.prog.funcs[f]?=some fn):
  true=Tryz.pinned.checked.prog.looks []/\∀(j:Nat) t,fn.params[j]?=some t->Tryz.pinned.checked.prog.wantsStandIn t=false:=by
 obtain rfl:f=4:=Option.some.inj ((xz).symm.trans hf) |>.symm;obtain rfl:fn=Tryz.f4:=(Option.some.inj (Tryz.func4.symm.trans hfn)).symm;refine⟨(Tn).symm,λj t ht=>?_⟩;have hall:Tryz.f4.params.toList.all (λt => !Tryz.prog.wantsStandIn t)=true:=RL;have hm:t∈Tryz.f4.params.toList:=by simpa using Array.mem_of_getElem? ht
 have h2:Tryz.prog.wantsStandIn t=false:=by simpa using ajE.1 hall t hm
 exact h2
theorem lawScanPicks_card:Rows.ScanPicksCardSaid :=
 Claim7.holds_tied_plain_at .later [] _ _ _ _ Q0 (λ_ h=>by cases h) amO (λ_ h=>by cases h) scanPicks_row_tie rfl ⟨rfl,rfl⟩ RM rfl Oh Tl
end Go.Proofs.YtdnfjhflkkpokaaGreatDoor.Av
