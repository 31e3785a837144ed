/- Joined texts of the walk, made small by a program. -/
import Derived.Test.YtcmfcpjnhephaaaGreatDoorUk16
import Derived.Test.YtcmfcpjnhephaaaGreatDoorUk14
import Derived.Test.YtcmfcpjnhephaaaGreatDoorUk5
import Derived.Test.YtcmfcpjnhephaaaGreatDoorUPxTruF
import Derived.Test.YtcmfcpjnhephaaaGreatDoorCards
import Derived.Test.YtcmfcpjnhephaaaGreatDoorTie
import Derived.WalkKit
import Derived.ProofKit
import Derived.OpenShut
import Derived.Deep.DeepHandedRow
import Derived.Lib.LaidTab
set_option linter.unusedSimpArgs false
set_option linter.unusedVariables false
namespace Go.Proofs.YtcmfcpjnhephaaaGreatDoor.Av
open Go Go.ChangeShapes Go.WideShapes Go.ChangeAt Go.RowKit
set_option maxRecDepth 100000
theorem jR:Tryz.prog.globalNamed "internal/strconv.uint64pow10" = some 6:=aoL
def Sw:List Int:=[1,10,100,1000,10000,100000,1000000,10000000,100000000,1000000000,10000000000,100000000000,1000000000000,10000000000000,100000000000000,1000000000000000,10000000000000000,100000000000000000,1000000000000000000,10000000000000000000]
theorem F8:(Tryz.prog.globals[6]?).map (·.type)=some 276:=aoL
theorem xM:Tryz.prog.cellsOf 276=20:=aoL
theorem Gh:Tryz.prog.cellsOf 232=1:=aoL
theorem jQ:Tryz.prog.globalNamed "strconv.ErrRange" = some 5:=aoL
theorem sE : "*" ++ "errors.errorString" = "*errors.errorString" := by decide
theorem qB(u:TypeId)(h:Tryz.prog.typeName? 3 u=some "*errors.errorString"):u=291 :=
 typeName_ptr_named (nm := "errors.errorString") (by rw [sE];kernel_rfl) aoL (by decide) u (by rw [sE];exact h)
theorem F7:(Tryz.prog.globals[5]?).map (·.type)=some 201:=aoL
theorem jP:Tryz.prog.globalNamed "strconv.ErrSyntax" = some 4:=aoL
theorem F6:(Tryz.prog.globals[4]?).map (·.type)=some 201:=aoL
theorem jO:Tryz.prog.globalNamed "castellan/syntax.days" = some 2:=aoL
def Sv:List Int:=[31,28,31,30,31,30,31,31,30,31,30,31]
theorem F5:(Tryz.prog.globals[2]?).map (·.type)=some 208:=aoL
theorem xL:Tryz.prog.cellsOf 208=12:=aoL
theorem Gg:Tryz.prog.cellsOf 3=1:=aoL
theorem Lj{W:World}(h0:laidMet Tryz.prog Rows.truthCoversRow.laid W)(hsh:W.ShapedOpen Tryz.prog):sy (oH W).mem/\tI W:=by
 have hu3:Lib.VarReads Tryz.prog W "unicode/utf8.first" Lib.firstData:=by
  have:=Lib.laidMet.reads h0 (n := "unicode/utf8.first") (d:=Rows.laid_unicode_utf8_first) (al8 (i:=7) rfl)
  rwa[show(Rows.laid_unicode_utf8_first:DataW Unit)=Lib.firstData by kernel_rfl]at this
 have hu4:Lib.VarReads Tryz.prog W "unicode/utf8.acceptRanges" Lib.acceptData:=by
  have:=Lib.laidMet.reads h0 (n := "unicode/utf8.acceptRanges") (d:=Rows.laid_unicode_utf8_acceptRanges) (al8 (i:=3) rfl)
  rwa[show(Rows.laid_unicode_utf8_acceptRanges:DataW Unit)=Lib.acceptData by kernel_rfl]at this
 have h1:=laidMet.tail h0;have h2:=laidMet.tail h1;have t2:=Lib.tabIs_of_head (zs:=Sw) jR F8 Tryz.underlying276 Tryz.underlying232 Gh xM h2;have h3:=laidMet.tail h2;have h4:=laidMet.tail h3;obtain⟨a4,s4,v4,_⟩:=laid_sentinel h4 jQ F7 Tryz.underlying201 qB Tryz.underlying291 Tryz.underlying293 rfl rfl Tryz.underlying9 aoL aoL;have h5:=laidMet.tail h4;obtain⟨a5,s5,v5,_⟩:=laid_sentinel h5 jP F6 Tryz.underlying201 qB Tryz.underlying291 Tryz.underlying293 rfl rfl Tryz.underlying9 aoL aoL;have h6:=laidMet.tail h5;have t6:=Lib.tabIs_of_head (zs:=Sv) jO F5 Tryz.underlying208 Tryz.underlying3 Gg xL h6;have h7:=laidMet.tail h6;have h8:=laidMet.tail h7;exact aed (ZQ hsh) (ry (ae6 t2 jR) (ry (akg hu3 hu4 abG (by rfl)) (ry (acq v4 jQ) (ry (acq v5 jP) (ry (ae6 t6 jO) (ry (agP hu3 hu4 abF (by rfl)) agD))))))
theorem Po:ownKnob Tryz.prog.godebug=none:=aoL
theorem Lk:∃(X:Type) (ec:X->List AV) (ok:X->Prop),aeN Tryz.prog Tryz.f7.params.toList ec ok/\∀y,ok y->alo 7 (ec y) [] λav _=>av=.bool true:=by refine⟨_,_,_,afy (t:=66) aoL aa6 (afw (t:=76) aoL (Rd.z (U8 Tryz.underlying76)) afx),?_⟩;rintro⟨c,m,_⟩ ⟨hc,_,_⟩;exact Zo (ns:=c.1) (acts:=c.2.1) (f:=c.2.2.1) (w:=c.2.2.2) (hide:=m) (cap:=none) (capA:=none) hc.1 hc.2.1 hc.2.2.1 hc.2.2.2 (L:=[]) (K:=λav _=>av=.bool true) (λ_=>rfl)
noncomputable def gr(os:Os):World:={World.holding Tryz.prog os ⟨#[],#[],[]⟩with heap:=let h:=(World.holding Tryz.prog os ⟨#[],#[],[]⟩).heap;((((((((((h.modify 7 fun
 |.cells _ t frozen=>.cells ([Value.int .u8 0,Value.int .u8 1,Value.int .u8 28,Value.int .u8 2,Value.int .u8 29,Value.int .u8 14,Value.int .u8 24,Value.int .u8 3,Value.int .u8 30,Value.int .u8 22,Value.int .u8 20,Value.int .u8 15,Value.int .u8 25,Value.int .u8 17,Value.int .u8 4,Value.int .u8 8,Value.int .u8 31,Value.int .u8 27,Value.int .u8 13,Value.int .u8 23,Value.int .u8 21,Value.int .u8 19,Value.int .u8 16,Value.int .u8 7,Value.int .u8 26,Value.int .u8 12,Value.int .u8 18,Value.int .u8 6,Value.int .u8 11,Value.int .u8 5,Value.int .u8 10,Value.int .u8 9]:List Value).toArray t frozen
 |o=>o).modify 8 fun
 |.cells _ t frozen=>.cells ([Value.int .u8 0,Value.int .u8 1,Value.int .u8 56,Value.int .u8 2,Value.int .u8 57,Value.int .u8 49,Value.int .u8 28,Value.int .u8 3,Value.int .u8 61,Value.int .u8 58,Value.int .u8 42,Value.int .u8 50,Value.int .u8 38,Value.int .u8 29,Value.int .u8 17,Value.int .u8 4,Value.int .u8 62,Value.int .u8 47,Value.int .u8 59,Value.int .u8 36,Value.int .u8 45,Value.int .u8 43,Value.int .u8 51,Value.int .u8 22,Value.int .u8 53,Value.int .u8 39,Value.int .u8 33,Value.int .u8 30,Value.int .u8 24,Value.int .u8 18,Value.int .u8 12,Value.int .u8 5,Value.int .u8 63,Value.int .u8 55,Value.int .u8 48,Value.int .u8 27,Value.int .u8 60,Value.int .u8 41,Value.int .u8 37,Value.int .u8 16,Value.int .u8 46,Value.int .u8 35,Value.int .u8 44,Value.int .u8 21,Value.int .u8 52,Value.int .u8 32,Value.int .u8 23,Value.int .u8 11,Value.int .u8 54,Value.int .u8 26,Value.int .u8 40,Value.int .u8 15,Value.int .u8 34,Value.int .u8 20,Value.int .u8 31,Value.int .u8 10,Value.int .u8 25,Value.int .u8 14,Value.int .u8 19,Value.int .u8 9,Value.int .u8 13,Value.int .u8 8,Value.int .u8 7,Value.int .u8 6]:List Value).toArray t frozen
 |o=>o).modify 6 fun
 |.cells _ t frozen=>.cells ([Value.int .u64 1,Value.int .u64 10,Value.int .u64 100,Value.int .u64 1000,Value.int .u64 10000,Value.int .u64 100000,Value.int .u64 1000000,Value.int .u64 10000000,Value.int .u64 100000000,Value.int .u64 1000000000,Value.int .u64 10000000000,Value.int .u64 100000000000,Value.int .u64 1000000000000,Value.int .u64 10000000000000,Value.int .u64 100000000000000,Value.int .u64 1000000000000000,Value.int .u64 10000000000000000,Value.int .u64 100000000000000000,Value.int .u64 1000000000000000000,Value.int .u64 10000000000000000000]:List Value).toArray t frozen
 |o=>o).modify 1 fun
 |.cells _ t frozen=>.cells ([Value.int .u8 128,Value.int .u8 191,Value.int .u8 160,Value.int .u8 191,Value.int .u8 128,Value.int .u8 159,Value.int .u8 144,Value.int .u8 191,Value.int .u8 128,Value.int .u8 143,Value.int .u8 0,Value.int .u8 0,Value.int .u8 0,Value.int .u8 0,Value.int .u8 0,Value.int .u8 0,Value.int .u8 0,Value.int .u8 0,Value.int .u8 0,Value.int .u8 0,Value.int .u8 0,Value.int .u8 0,Value.int .u8 0,Value.int .u8 0,Value.int .u8 0,Value.int .u8 0,Value.int .u8 0,Value.int .u8 0,Value.int .u8 0,Value.int .u8 0,Value.int .u8 0,Value.int .u8 0]:List Value).toArray t frozen
 |o=>o).modify 5 fun
 |.cells _ t frozen=>.cells ([Value.iface 291 (.pointer (some ⟨h.size+0,0,none⟩))]:List Value).toArray t frozen
 |o=>o).modify 4 fun
 |.cells _ t frozen=>.cells ([Value.iface 291 (.pointer (some ⟨h.size+1,0,none⟩))]:List Value).toArray t frozen
 |o=>o).modify 2 fun
 |.cells _ t frozen=>.cells ([Value.int .i64 31,Value.int .i64 28,Value.int .i64 31,Value.int .i64 30,Value.int .i64 31,Value.int .i64 30,Value.int .i64 31,Value.int .i64 31,Value.int .i64 30,Value.int .i64 31,Value.int .i64 30,Value.int .i64 31]:List Value).toArray t frozen
 |o=>o).modify 0 fun
 |.cells _ t frozen=>.cells ((Go.Pinned.utf8FirstZ.map λ(n:Nat)=>Value.int .u8 (Int.ofNat n)):List Value).toArray t frozen
 |o=>o).push (.cells (#[Value.string ⟨⟨[118,97,108,117,101,32,111,117,116,32,111,102,32,114,97,110,103,101]⟩⟩]:Array Value) 293)).push (.cells (#[Value.string ⟨⟨[105,110,118,97,108,105,100,32,115,121,110,116,97,120]⟩⟩]:Array Value) 293))}
theorem Pp(os:Os):laidMet Tryz.prog Rows.truthCoversRow.laid ((gr os).forCall (λ_ _=>0) ⟨#[],#[.agg #[.slice none 0 0,.slice none 0 0,.int .i64 0,.string ⟨⟨[]⟩⟩,.string ⟨⟨[]⟩⟩,.slice none 0 0,.slice none 0 0,.int .i64 0],.int .u32 0],[]⟩).memory :=
 laidMet_of_run' 8 aoL aoL
set_option maxRecDepth 100000 in
theorem Ga(os:Os)(started:os.Started)(H:Type)(enc:TypeId×Value->H)(I:Stop.Interp):
  ReturnsInHanded {} Tryz.checked os 7 .any ((OpenSpec.ofChange Rows.truthCoversSpec).preRow enc Tryz.prog Tryz.f7 Rows.truthCoversRow.domain false Rows.truthCoversRow.laid) (((OpenSpec.ofChange Rows.truthCoversSpec).at I).post enc Tryz.prog Tryz.f7 false true false false):=by
 have hs:(DataW.whole enc Tryz.prog ((gr os).forCall (λ_ _=>0) ⟨#[],#[.agg #[.slice none 0 0,.slice none 0 0,.int .i64 0,.string ⟨⟨[]⟩⟩,.string ⟨⟨[]⟩⟩,.slice none 0 0,.slice none 0 0,.int .i64 0],.int .u32 0],[]⟩).memory Tryz.f7.params.toList Rows.truthCoversSpec.vars false #[.agg #[.slice none 0 0,.slice none 0 0,.int .i64 0,.string ⟨⟨[]⟩⟩,.string ⟨⟨[]⟩⟩,.slice none 0 0,.slice none 0 0,.int .i64 0],.int .u32 0].toList 8).isSome=true:=aoL;refine returnsInHanded_of_row (C:=Tryz.checked) (s:=OpenSpec.ofChange Rows.truthCoversSpec) Po started aoL Tryz.func7
  (witness_row_at (enc:=enc) (C:=Tryz.checked) false (gr os) #[.agg #[.slice none 0 0,.slice none 0 0,.int .i64 0,.string ⟨⟨[]⟩⟩,.string ⟨⟨[]⟩⟩,.slice none 0 0,.slice none 0 0,.int .i64 0],.int .u32 0] rfl aoL aoL aoL
   (OpenSpec.preRow_of_cond 8 (Option.some_get hs).symm aoL (λk hk=>by cases hk) aoL (Pp os))) ?_
 intro W base args ds gs before hval hW _ _ hsz hL hsh _;obtain⟨X,ec,ok,h1,h2⟩:=Lk;exact WP (tb:=4) Tryz.func7 rfl aoL tF tE R9 aoL rfl Tryz.underlying4 rfl
  (λH ds h=>match ds,h with|[_,_],_=>⟨rfl,rfl,rfl⟩) h2 enc W args ds gs before (λp hp=>h1 _ enc W base args.toList ds p (λj t v a b=>hval j t v (by simpa using a) (by simpa using b)) hp (λn hn=>of_decide_eq_true (alC.1 hsz n (ud hn)))) hW (Lj hL hsh)
theorem Li:Rows.TruthCoversSaid :=
 OpenClaim.holds_of_cond 7 Tryz.f7 rfl rfl rfl rfl rfl rfl rfl ⟨rfl,rfl,rfl,rfl,rfl⟩ rfl rfl rfl rfl rfl sb Tryz.func7 ya
  (of_decide_eq_true aoL) (by unfold Func.isWrapper;first|(rw[if_pos (by decide +kernel)];kernel_rfl)|(rw[if_neg (by decide +kernel)];exact⟨rfl,rfl⟩))
  (λos started H enc _ F=>by rw[OpenClaim.pre_eq_preRow];exact Ga os started H enc F)
theorem Ka(f:FuncId)(fn:Func)(hf:Tryz.pinned.checked.prog.funcNamed "castellan/castellanlaw21.TruthCovers" = some f)(hfn:Tryz.pinned.checked.prog.funcs[f]?=some fn):
  true=Tryz.pinned.checked.prog.looks []/\∀(j:Nat) t,fn.params[j]?=some t->Tryz.pinned.checked.prog.wantsStandIn t=false:=by
 obtain rfl:f=7:=Option.some.inj ((sb).symm.trans hf) |>.symm;obtain rfl:fn=Tryz.f7:=(Option.some.inj (Tryz.func7.symm.trans hfn)).symm;refine⟨(R8).symm,λj t ht=>?_⟩;have hall:Tryz.f7.params.toList.all (λt => !Tryz.prog.wantsStandIn t)=true:=Pu;have hm:t∈Tryz.f7.params.toList:=by simpa using Array.mem_of_getElem? ht
 have h2:Tryz.prog.wantsStandIn t=false:=by simpa using alC.1 hall t hm
 exact h2
theorem lawTruthCovers_card:Rows.TruthCoversCardSaid :=
 Claim7.holds_tied_plain_at .later [] _ _ _ _ Li (λ_ h=>by cases h) aoL (λ_ h=>by cases h) truthCovers_row_tie rfl ⟨rfl,rfl⟩ Pv rfl Ka R7
end Go.Proofs.YtcmfcpjnhephaaaGreatDoor.Av
