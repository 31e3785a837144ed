/- Joined texts of the walk, made small by a program. -/
import Derived.Test.YtcmfcpjnhephaaaGreatDoorVk16
import Derived.Test.YtcmfcpjnhephaaaGreatDoorVk14
import Derived.Test.YtcmfcpjnhephaaaGreatDoorVk5
import Derived.Test.YtcmfcpjnhephaaaGreatDoorVPxWidF
import Derived.Test.YtcmfcpjnhephaaaGreatDoorCards
import Derived.Test.YtcmfcpjnhephaaaGreatDoorTie
import Derived.WalkKit
import Derived.ProofKit
import Derived.OpenShut
import Derived.Deep.DeepHandedRow
import Derived.Lib.LaidTab
set_option linter.unusedSimpArgs false
set_option linter.unusedVariables false
namespace Go.Proofs.YtcmfcpjnhephaaaGreatDoor.Av
open Go Go.ChangeShapes Go.WideShapes Go.ChangeAt Go.RowKit
set_option maxRecDepth 100000
theorem lC:Tryz.prog.globalNamed "internal/strconv.uint64pow10" = some 6:=by kernel_rfl
def P7:List Int:=[1,10,100,1000,10000,100000,1000000,10000000,100000000,1000000000,10000000000,100000000000,1000000000000,10000000000000,100000000000000,1000000000000000,10000000000000000,100000000000000000,1000000000000000000,10000000000000000000]
theorem D1:(Tryz.prog.globals[6]?).map (·.type)=some 276:=by kernel_rfl
theorem DM:Tryz.prog.cellsOf 276=20:=by kernel_rfl
theorem IR:Tryz.prog.cellsOf 232=1:=by kernel_rfl
theorem lB:Tryz.prog.globalNamed "strconv.ErrRange" = some 5:=by kernel_rfl
theorem rY : "*" ++ "errors.errorString" = "*errors.errorString" := by decide
theorem pS(u:TypeId)(h:Tryz.prog.typeName? 3 u=some "*errors.errorString"):u=291 :=
 typeName_ptr_named (nm := "errors.errorString") (by rw [rY];kernel_rfl) (by kernel_rfl) (by decide) u (by rw [rY];exact h)
theorem DZ:(Tryz.prog.globals[5]?).map (·.type)=some 201:=by kernel_rfl
theorem lA:Tryz.prog.globalNamed "strconv.ErrSyntax" = some 4:=by kernel_rfl
theorem DY:(Tryz.prog.globals[4]?).map (·.type)=some 201:=by kernel_rfl
theorem lz:Tryz.prog.globalNamed "castellan/syntax.days" = some 2:=by kernel_rfl
def P6:List Int:=[31,28,31,30,31,30,31,31,30,31,30,31]
theorem DX:(Tryz.prog.globals[2]?).map (·.type)=some 208:=by kernel_rfl
theorem DL:Tryz.prog.cellsOf 208=12:=by kernel_rfl
theorem IQ:Tryz.prog.cellsOf 3=1:=by kernel_rfl
theorem LO{W:World}(h0:laidMet Tryz.prog Rows.planWidensRow.laid W)(hsh:W.ShapedOpen Tryz.prog):qz (mM W).mem/\ru W:=by
 have hu3:Lib.VarReads Tryz.prog W "unicode/utf8.first" Lib.firstData:=by
  have:=Lib.laidMet.reads h0 (n := "unicode/utf8.first") (d:=Rows.laid_unicode_utf8_first) (ahN (i:=7) rfl)
  rwa[show(Rows.laid_unicode_utf8_first:DataW Unit)=Lib.firstData by kernel_rfl]at this
 have hu4:Lib.VarReads Tryz.prog W "unicode/utf8.acceptRanges" Lib.acceptData:=by
  have:=Lib.laidMet.reads h0 (n := "unicode/utf8.acceptRanges") (d:=Rows.laid_unicode_utf8_acceptRanges) (ahN (i:=3) rfl)
  rwa[show(Rows.laid_unicode_utf8_acceptRanges:DataW Unit)=Lib.acceptData by kernel_rfl]at this
 have h1:=laidMet.tail h0;have h2:=laidMet.tail h1;have t2:=Lib.tabIs_of_head (zs:=P7) lC D1 Tryz.underlying276 Tryz.underlying232 IR DM h2;have h3:=laidMet.tail h2;have h4:=laidMet.tail h3;obtain⟨a4,s4,v4,_⟩:=laid_sentinel h4 lB DZ Tryz.underlying201 pS Tryz.underlying291 Tryz.underlying293 rfl rfl Tryz.underlying9 (by kernel_rfl) (by kernel_rfl);have h5:=laidMet.tail h4;obtain⟨a5,s5,v5,_⟩:=laid_sentinel h5 lA DY Tryz.underlying201 pS Tryz.underlying291 Tryz.underlying293 rfl rfl Tryz.underlying9 (by kernel_rfl) (by kernel_rfl);have h6:=laidMet.tail h5;have t6:=Lib.tabIs_of_head (zs:=P6) lz DX Tryz.underlying208 Tryz.underlying3 IQ DL h6;have h7:=laidMet.tail h6;have h8:=laidMet.tail h7;exact ZW (VF hsh) (pO (aaO t2 lC) (pO (afY hu3 hu4 Xs (by rfl)) (pO (Ya v4 lB) (pO (Ya v5 lA) (pO (aaO t6 lz) (pO (acs hu3 hu4 Xr (by rfl)) acg))))))
theorem NV:ownKnob Tryz.prog.godebug=none:=by kernel_rfl
theorem LP:∃(X:Type) (ec:X->List AV) (ok:X->Prop),aav Tryz.prog Tryz.f6.params.toList ec ok/\∀y,ok y->ag6 6 (ec y) [] λav _=>av=.bool true:=by refine⟨_,_,_,abh (t:=66) (by kernel_rfl) WT (abf (t:=3) (by kernel_rfl) (Rd.z (QZ Tryz.underlying3)) abg),?_⟩;rintro⟨c,m,_⟩ ⟨hc,_,_⟩;exact Uu (ns:=c.1) (acts:=c.2.1) (f:=c.2.2.1) (w:=c.2.2.2) (more:=m) (cap:=none) (capA:=none) hc.1 hc.2.1 hc.2.2.1 hc.2.2.2 (L:=[]) (K:=λav _=>av=.bool true) (λ_=>rfl)
noncomputable def gn(os:Os):World:={World.holding Tryz.prog os ⟨#[],#[],[]⟩with heap:=let h:=(World.holding Tryz.prog os ⟨#[],#[],[]⟩).heap;((((((((((h.modify 7 fun
 |.cells _ t frozen=>.cells ([Value.int .u8 0,Value.int .u8 1,Value.int .u8 28,Value.int .u8 2,Value.int .u8 29,Value.int .u8 14,Value.int .u8 24,Value.int .u8 3,Value.int .u8 30,Value.int .u8 22,Value.int .u8 20,Value.int .u8 15,Value.int .u8 25,Value.int .u8 17,Value.int .u8 4,Value.int .u8 8,Value.int .u8 31,Value.int .u8 27,Value.int .u8 13,Value.int .u8 23,Value.int .u8 21,Value.int .u8 19,Value.int .u8 16,Value.int .u8 7,Value.int .u8 26,Value.int .u8 12,Value.int .u8 18,Value.int .u8 6,Value.int .u8 11,Value.int .u8 5,Value.int .u8 10,Value.int .u8 9]:List Value).toArray t frozen
 |o=>o).modify 8 fun
 |.cells _ t frozen=>.cells ([Value.int .u8 0,Value.int .u8 1,Value.int .u8 56,Value.int .u8 2,Value.int .u8 57,Value.int .u8 49,Value.int .u8 28,Value.int .u8 3,Value.int .u8 61,Value.int .u8 58,Value.int .u8 42,Value.int .u8 50,Value.int .u8 38,Value.int .u8 29,Value.int .u8 17,Value.int .u8 4,Value.int .u8 62,Value.int .u8 47,Value.int .u8 59,Value.int .u8 36,Value.int .u8 45,Value.int .u8 43,Value.int .u8 51,Value.int .u8 22,Value.int .u8 53,Value.int .u8 39,Value.int .u8 33,Value.int .u8 30,Value.int .u8 24,Value.int .u8 18,Value.int .u8 12,Value.int .u8 5,Value.int .u8 63,Value.int .u8 55,Value.int .u8 48,Value.int .u8 27,Value.int .u8 60,Value.int .u8 41,Value.int .u8 37,Value.int .u8 16,Value.int .u8 46,Value.int .u8 35,Value.int .u8 44,Value.int .u8 21,Value.int .u8 52,Value.int .u8 32,Value.int .u8 23,Value.int .u8 11,Value.int .u8 54,Value.int .u8 26,Value.int .u8 40,Value.int .u8 15,Value.int .u8 34,Value.int .u8 20,Value.int .u8 31,Value.int .u8 10,Value.int .u8 25,Value.int .u8 14,Value.int .u8 19,Value.int .u8 9,Value.int .u8 13,Value.int .u8 8,Value.int .u8 7,Value.int .u8 6]:List Value).toArray t frozen
 |o=>o).modify 6 fun
 |.cells _ t frozen=>.cells ([Value.int .u64 1,Value.int .u64 10,Value.int .u64 100,Value.int .u64 1000,Value.int .u64 10000,Value.int .u64 100000,Value.int .u64 1000000,Value.int .u64 10000000,Value.int .u64 100000000,Value.int .u64 1000000000,Value.int .u64 10000000000,Value.int .u64 100000000000,Value.int .u64 1000000000000,Value.int .u64 10000000000000,Value.int .u64 100000000000000,Value.int .u64 1000000000000000,Value.int .u64 10000000000000000,Value.int .u64 100000000000000000,Value.int .u64 1000000000000000000,Value.int .u64 10000000000000000000]:List Value).toArray t frozen
 |o=>o).modify 1 fun
 |.cells _ t frozen=>.cells ([Value.int .u8 128,Value.int .u8 191,Value.int .u8 160,Value.int .u8 191,Value.int .u8 128,Value.int .u8 159,Value.int .u8 144,Value.int .u8 191,Value.int .u8 128,Value.int .u8 143,Value.int .u8 0,Value.int .u8 0,Value.int .u8 0,Value.int .u8 0,Value.int .u8 0,Value.int .u8 0,Value.int .u8 0,Value.int .u8 0,Value.int .u8 0,Value.int .u8 0,Value.int .u8 0,Value.int .u8 0,Value.int .u8 0,Value.int .u8 0,Value.int .u8 0,Value.int .u8 0,Value.int .u8 0,Value.int .u8 0,Value.int .u8 0,Value.int .u8 0,Value.int .u8 0,Value.int .u8 0]:List Value).toArray t frozen
 |o=>o).modify 5 fun
 |.cells _ t frozen=>.cells ([Value.iface 291 (.pointer (some ⟨h.size+0,0,none⟩))]:List Value).toArray t frozen
 |o=>o).modify 4 fun
 |.cells _ t frozen=>.cells ([Value.iface 291 (.pointer (some ⟨h.size+1,0,none⟩))]:List Value).toArray t frozen
 |o=>o).modify 2 fun
 |.cells _ t frozen=>.cells ([Value.int .i64 31,Value.int .i64 28,Value.int .i64 31,Value.int .i64 30,Value.int .i64 31,Value.int .i64 30,Value.int .i64 31,Value.int .i64 31,Value.int .i64 30,Value.int .i64 31,Value.int .i64 30,Value.int .i64 31]:List Value).toArray t frozen
 |o=>o).modify 0 fun
 |.cells _ t frozen=>.cells ((Go.Pinned.utf8FirstZ.map λ(n:Nat)=>Value.int .u8 (Int.ofNat n)):List Value).toArray t frozen
 |o=>o).push (.cells (#[Value.string ⟨⟨[118,97,108,117,101,32,111,117,116,32,111,102,32,114,97,110,103,101]⟩⟩]:Array Value) 293)).push (.cells (#[Value.string ⟨⟨[105,110,118,97,108,105,100,32,115,121,110,116,97,120]⟩⟩]:Array Value) 293))}
theorem NW(os:Os):laidMet Tryz.prog Rows.planWidensRow.laid ((gn os).forCall (λ_ _=>0) ⟨#[],#[.agg #[.slice none 0 0,.slice none 0 0,.int .i64 0,.string ⟨⟨[]⟩⟩,.string ⟨⟨[]⟩⟩,.slice none 0 0,.slice none 0 0,.int .i64 0],.int .i64 0],[]⟩).memory :=
 laidMet_of_run' 8 (by kernel_rfl) (by kernel_rfl)
set_option maxRecDepth 100000 in
theorem HT(os:Os)(started:os.Started)(H:Type)(enc:TypeId×Value->H)(I:Stop.Interp):
  ReturnsInHanded {} Tryz.checked os 6 .any ((OpenSpec.ofChange Rows.planWidensSpec).preRow enc Tryz.prog Tryz.f6 Rows.planWidensRow.domain false Rows.planWidensRow.laid) (((OpenSpec.ofChange Rows.planWidensSpec).at I).post enc Tryz.prog Tryz.f6 false true false false):=by
 have hs:(DataW.whole enc Tryz.prog ((gn os).forCall (λ_ _=>0) ⟨#[],#[.agg #[.slice none 0 0,.slice none 0 0,.int .i64 0,.string ⟨⟨[]⟩⟩,.string ⟨⟨[]⟩⟩,.slice none 0 0,.slice none 0 0,.int .i64 0],.int .i64 0],[]⟩).memory Tryz.f6.params.toList Rows.planWidensSpec.vars false #[.agg #[.slice none 0 0,.slice none 0 0,.int .i64 0,.string ⟨⟨[]⟩⟩,.string ⟨⟨[]⟩⟩,.slice none 0 0,.slice none 0 0,.int .i64 0],.int .i64 0].toList 8).isSome=true:=by kernel_rfl
 refine returnsInHanded_of_row (C:=Tryz.checked) (s:=OpenSpec.ofChange Rows.planWidensSpec) NV started (by kernel_rfl) Tryz.func6
  (witness_row_at (enc:=enc) (C:=Tryz.checked) false (gn os) #[.agg #[.slice none 0 0,.slice none 0 0,.int .i64 0,.string ⟨⟨[]⟩⟩,.string ⟨⟨[]⟩⟩,.slice none 0 0,.slice none 0 0,.int .i64 0],.int .i64 0] rfl (by kernel_rfl) (by kernel_rfl) (by kernel_rfl)
   (OpenSpec.preRow_of_cond 8 (Option.some_get hs).symm (by kernel_rfl) (λk hk=>by cases hk) (by kernel_rfl) (NW os))) ?_
 intro W base args ds gs before hval hW _ _ hsz hL hsh _;obtain⟨X,ec,ok,h1,h2⟩:=LP;exact SH (tb:=4) Tryz.func6 rfl (by kernel_rfl) vo vn OO (by kernel_rfl) rfl Tryz.underlying4 rfl
  (λH ds h=>match ds,h with|[_,_],_=>⟨rfl,rfl,rfl⟩) h2 enc W args ds gs before (λp hp=>h1 _ enc W base args.toList ds p (λj t v a b=>hval j t v (by simpa using a) (by simpa using b)) hp (λn hn=>of_decide_eq_true (ahk.1 hsz n (rU hn)))) hW (LO hL hsh)
theorem LN:Rows.PlanWidensSaid :=
 OpenClaim.holds_of_cond 6 Tryz.f6 rfl rfl rfl rfl rfl rfl rfl ⟨rfl,rfl,rfl,rfl,rfl⟩ rfl rfl rfl rfl rfl rp Tryz.func6 DO
  (of_decide_eq_true (by kernel_rfl)) (by unfold Func.isWrapper;first|(rw[if_pos (by decide +kernel)];kernel_rfl)|(rw[if_neg (by decide +kernel)];exact⟨rfl,rfl⟩))
  (λos started H enc _ F=>by rw[OpenClaim.pre_eq_preRow];exact HT os started H enc F)
theorem IT(f:FuncId)(fn:Func)(hf:Tryz.pinned.checked.prog.funcNamed "castellan/castellanlaw20.PlanWidens" = some f)(hfn:Tryz.pinned.checked.prog.funcs[f]?=some fn):
  true=Tryz.pinned.checked.prog.looks []/\∀(j:Nat) t,fn.params[j]?=some t->Tryz.pinned.checked.prog.wantsStandIn t=false:=by
 obtain rfl:f=6:=Option.some.inj ((rp).symm.trans hf) |>.symm;obtain rfl:fn=Tryz.f6:=(Option.some.inj (Tryz.func6.symm.trans hfn)).symm;refine⟨(ON).symm,λj t ht=>?_⟩;have hall:Tryz.f6.params.toList.all (λt => !Tryz.prog.wantsStandIn t)=true:=N6;have hm:t∈Tryz.f6.params.toList:=by simpa using Array.mem_of_getElem? ht
 have h2:Tryz.prog.wantsStandIn t=false:=by simpa using ahk.1 hall t hm
 exact h2
theorem lawPlanWidens_card:Rows.PlanWidensCardSaid :=
 Claim7.holds_tied_plain_at .later [] _ _ _ _ LN (λ_ h=>by cases h) (by kernel_rfl) (λ_ h=>by cases h) planWidens_row_tie rfl ⟨rfl,rfl⟩ N7 rfl IT OM
end Go.Proofs.YtcmfcpjnhephaaaGreatDoor.Av
