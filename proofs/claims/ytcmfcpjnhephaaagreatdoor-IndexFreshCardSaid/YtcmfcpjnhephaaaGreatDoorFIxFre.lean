/- Joined texts of the walk, made small by a program. -/
import Derived.Test.YtcmfcpjnhephaaaGreatDoorFk23
import Derived.Test.YtcmfcpjnhephaaaGreatDoorFk6
import Derived.Test.YtcmfcpjnhephaaaGreatDoorFIxFreF
import Derived.Test.YtcmfcpjnhephaaaGreatDoorCards
import Derived.Test.YtcmfcpjnhephaaaGreatDoorTie
import Derived.WalkKit
import Derived.ProofKit
import Derived.OpenShut
import Derived.Deep.DeepHandedRow
import Derived.Lib.LaidTab
set_option linter.unusedSimpArgs false
set_option linter.unusedVariables false
namespace Go.Proofs.YtcmfcpjnhephaaaGreatDoor.Av
open Go Go.ChangeShapes Go.WideShapes Go.ChangeAt Go.RowKit
set_option maxRecDepth 100000
theorem gC:Tryz.prog.globalNamed "internal/strconv.uint64pow10" = some 6:=by kernel_rfl
def Kv:List Int:=[1,10,100,1000,10000,100000,1000000,10000000,100000000,1000000000,10000000000,100000000000,1000000000000,10000000000000,100000000000000,1000000000000000,10000000000000000,100000000000000000,1000000000000000000,10000000000000000000]
theorem wg:(Tryz.prog.globals[6]?).map (·.type)=some 276:=by kernel_rfl
theorem vW:Tryz.prog.cellsOf 276=20:=by kernel_rfl
theorem DE:Tryz.prog.cellsOf 232=1:=by kernel_rfl
theorem gB:Tryz.prog.globalNamed "strconv.ErrRange" = some 5:=by kernel_rfl
theorem ob : "*" ++ "errors.errorString" = "*errors.errorString" := by decide
theorem mc (u:TypeId) (h:Tryz.prog.typeName? 3 u=some "*errors.errorString"):u=291 :=
 typeName_ptr_named (nm := "errors.errorString") (by rw [ob];kernel_rfl) (by kernel_rfl) (by decide) u (by rw [ob];exact h)
theorem wc:(Tryz.prog.globals[5]?).map (·.type)=some 201:=by kernel_rfl
theorem gA:Tryz.prog.globalNamed "strconv.ErrSyntax" = some 4:=by kernel_rfl
theorem wb:(Tryz.prog.globals[4]?).map (·.type)=some 201:=by kernel_rfl
theorem gz:Tryz.prog.globalNamed "castellan/syntax.days" = some 2:=by kernel_rfl
def Ku:List Int:=[31,28,31,30,31,30,31,31,30,31,30,31]
theorem wa:(Tryz.prog.globals[2]?).map (·.type)=some 208:=by kernel_rfl
theorem vV:Tryz.prog.cellsOf 208=12:=by kernel_rfl
theorem DD:Tryz.prog.cellsOf 3=1:=by kernel_rfl
theorem Gx {W:World} (h0:laidMet Tryz.prog Rows.indexFreshRow.laid W) (hsh:W.ShapedOpen Tryz.prog):mJ (l4 W).mem/\nG W:=by
 have hu3:Lib.VarReads Tryz.prog W "unicode/utf8.first" Lib.firstData:=by
  have:=Lib.laidMet.reads h0 (n := "unicode/utf8.first") (d:=Rows.laid_unicode_utf8_first) (aad (i:=7) rfl)
  rwa [show (Rows.laid_unicode_utf8_first:DataW Unit)=Lib.firstData by kernel_rfl] at this
 have hu4:Lib.VarReads Tryz.prog W "unicode/utf8.acceptRanges" Lib.acceptData:=by
  have:=Lib.laidMet.reads h0 (n := "unicode/utf8.acceptRanges") (d:=Rows.laid_unicode_utf8_acceptRanges) (aad (i:=3) rfl)
  rwa [show (Rows.laid_unicode_utf8_acceptRanges:DataW Unit)=Lib.acceptData by kernel_rfl] at this
 have h1:=laidMet.tail h0;have h2:=laidMet.tail h1;have t2:=Lib.tabIs_of_head (zs:=Kv) gC wg Tryz.underlying276 Tryz.underlying232 DE vW h2;have h3:=laidMet.tail h2;have h4:=laidMet.tail h3;obtain ⟨a4,s4,v4,_⟩:=laid_sentinel h4 gB wc Tryz.underlying201 mc Tryz.underlying291 Tryz.underlying293 rfl rfl Tryz.underlying9 (by kernel_rfl) (by kernel_rfl);have h5:=laidMet.tail h4;obtain ⟨a5,s5,v5,_⟩:=laid_sentinel h5 gA wb Tryz.underlying201 mc Tryz.underlying291 Tryz.underlying293 rfl rfl Tryz.underlying9 (by kernel_rfl) (by kernel_rfl);have h6:=laidMet.tail h5;have t6:=Lib.tabIs_of_head (zs:=Ku) gz wa Tryz.underlying208 Tryz.underlying3 DD vV h6;have h7:=laidMet.tail h6;have h8:=laidMet.tail h7;exact Tk (Po hsh) (l8 (Ui t2 gC) (l8 (YA hu3 hu4 QS (by rfl)) (l8 (Ru v4 gB) (l8 (Ru v5 gA) (l8 (Ui t6 gz) (l8 (VF hu3 hu4 QR (by rfl)) Vu))))))
theorem Ix:ownKnob Tryz.prog.godebug=none:=by kernel_rfl
theorem Gy:∃ (X:Type) (ec:X->List AV) (ok:X->Prop),TU Tryz.prog Tryz.f4.params.toList ec ok/\∀ y,ok y->Zx 4 (ec y) [] fun av _=>av=.bool true:=by
 refine ⟨_,_,_,Pa (t:=22) (by kernel_rfl) Le (Pa (t:=23) (by kernel_rfl) UD (UF (t:=26) (by kernel_rfl) SF UE)),?_⟩;rintro ⟨ns,l,a,_⟩ ⟨hn,hl,ha,_⟩;exact W5 (ns:=ns) (acts:=l) (n:=a.1) (v:=a.2.1) (ps:=a.2.2) (cap:=none) (capA:=none) (capP:=none) hn.2 (by have:=hn.1;simp only [maxLen] at this;omega) hl ha (L:=[]) (K:=fun av _=>av=.bool true) (fun _=>rfl)
noncomputable def eU (os:Os):World:={ World.holding Tryz.prog os ⟨#[],#[],[]⟩ with heap:=let h:=(World.holding Tryz.prog os ⟨#[],#[],[]⟩).heap;((((((((((h.modify 7 fun
 | .cells _ t frozen=>.cells ([Value.int .u8 0,Value.int .u8 1,Value.int .u8 28,Value.int .u8 2,Value.int .u8 29,Value.int .u8 14,Value.int .u8 24,Value.int .u8 3,Value.int .u8 30,Value.int .u8 22,Value.int .u8 20,Value.int .u8 15,Value.int .u8 25,Value.int .u8 17,Value.int .u8 4,Value.int .u8 8,Value.int .u8 31,Value.int .u8 27,Value.int .u8 13,Value.int .u8 23,Value.int .u8 21,Value.int .u8 19,Value.int .u8 16,Value.int .u8 7,Value.int .u8 26,Value.int .u8 12,Value.int .u8 18,Value.int .u8 6,Value.int .u8 11,Value.int .u8 5,Value.int .u8 10,Value.int .u8 9]:List Value).toArray t frozen
 | o=>o).modify 8 fun
 | .cells _ t frozen=>.cells ([Value.int .u8 0,Value.int .u8 1,Value.int .u8 56,Value.int .u8 2,Value.int .u8 57,Value.int .u8 49,Value.int .u8 28,Value.int .u8 3,Value.int .u8 61,Value.int .u8 58,Value.int .u8 42,Value.int .u8 50,Value.int .u8 38,Value.int .u8 29,Value.int .u8 17,Value.int .u8 4,Value.int .u8 62,Value.int .u8 47,Value.int .u8 59,Value.int .u8 36,Value.int .u8 45,Value.int .u8 43,Value.int .u8 51,Value.int .u8 22,Value.int .u8 53,Value.int .u8 39,Value.int .u8 33,Value.int .u8 30,Value.int .u8 24,Value.int .u8 18,Value.int .u8 12,Value.int .u8 5,Value.int .u8 63,Value.int .u8 55,Value.int .u8 48,Value.int .u8 27,Value.int .u8 60,Value.int .u8 41,Value.int .u8 37,Value.int .u8 16,Value.int .u8 46,Value.int .u8 35,Value.int .u8 44,Value.int .u8 21,Value.int .u8 52,Value.int .u8 32,Value.int .u8 23,Value.int .u8 11,Value.int .u8 54,Value.int .u8 26,Value.int .u8 40,Value.int .u8 15,Value.int .u8 34,Value.int .u8 20,Value.int .u8 31,Value.int .u8 10,Value.int .u8 25,Value.int .u8 14,Value.int .u8 19,Value.int .u8 9,Value.int .u8 13,Value.int .u8 8,Value.int .u8 7,Value.int .u8 6]:List Value).toArray t frozen
 | o=>o).modify 6 fun
 | .cells _ t frozen=>.cells ([Value.int .u64 1,Value.int .u64 10,Value.int .u64 100,Value.int .u64 1000,Value.int .u64 10000,Value.int .u64 100000,Value.int .u64 1000000,Value.int .u64 10000000,Value.int .u64 100000000,Value.int .u64 1000000000,Value.int .u64 10000000000,Value.int .u64 100000000000,Value.int .u64 1000000000000,Value.int .u64 10000000000000,Value.int .u64 100000000000000,Value.int .u64 1000000000000000,Value.int .u64 10000000000000000,Value.int .u64 100000000000000000,Value.int .u64 1000000000000000000,Value.int .u64 10000000000000000000]:List Value).toArray t frozen
 | o=>o).modify 1 fun
 | .cells _ t frozen=>.cells ([Value.int .u8 128,Value.int .u8 191,Value.int .u8 160,Value.int .u8 191,Value.int .u8 128,Value.int .u8 159,Value.int .u8 144,Value.int .u8 191,Value.int .u8 128,Value.int .u8 143,Value.int .u8 0,Value.int .u8 0,Value.int .u8 0,Value.int .u8 0,Value.int .u8 0,Value.int .u8 0,Value.int .u8 0,Value.int .u8 0,Value.int .u8 0,Value.int .u8 0,Value.int .u8 0,Value.int .u8 0,Value.int .u8 0,Value.int .u8 0,Value.int .u8 0,Value.int .u8 0,Value.int .u8 0,Value.int .u8 0,Value.int .u8 0,Value.int .u8 0,Value.int .u8 0,Value.int .u8 0]:List Value).toArray t frozen
 | o=>o).modify 5 fun
 | .cells _ t frozen=>.cells ([Value.iface 291 (.pointer (some ⟨h.size+0,0,none⟩))]:List Value).toArray t frozen
 | o=>o).modify 4 fun
 | .cells _ t frozen=>.cells ([Value.iface 291 (.pointer (some ⟨h.size+1,0,none⟩))]:List Value).toArray t frozen
 | o=>o).modify 2 fun
 | .cells _ t frozen=>.cells ([Value.int .i64 31,Value.int .i64 28,Value.int .i64 31,Value.int .i64 30,Value.int .i64 31,Value.int .i64 30,Value.int .i64 31,Value.int .i64 31,Value.int .i64 30,Value.int .i64 31,Value.int .i64 30,Value.int .i64 31]:List Value).toArray t frozen
 | o=>o).modify 0 fun
 | .cells _ t frozen=>.cells ((Go.Pinned.utf8FirstZ.map fun (n:Nat)=>Value.int .u8 (Int.ofNat n)):List Value).toArray t frozen
 | o=>o).push (.cells (#[Value.string ⟨⟨[118,97,108,117,101,32,111,117,116,32,111,102,32,114,97,110,103,101]⟩⟩]:Array Value) 293)).push (.cells (#[Value.string ⟨⟨[105,110,118,97,108,105,100,32,115,121,110,116,97,120]⟩⟩]:Array Value) 293)) }
theorem Iy (os:Os):laidMet Tryz.prog Rows.indexFreshRow.laid ((eU os).forCall (fun _ _=>0) ⟨#[],#[.slice none 0 0,.slice none 0 0,.agg #[.string ⟨⟨[]⟩⟩,.string ⟨⟨[]⟩⟩,.slice none 0 0]],[]⟩).memory :=
 laidMet_of_run' 8 (by kernel_rfl) (by kernel_rfl)
set_option maxRecDepth 100000 in
theorem At (os:Os) (started:os.Started) (H:Type) (enc:TypeId×Value->H) (I:Stop.Interp) :
  ReturnsInHanded {} Tryz.checked os 4 .any ((OpenSpec.ofChange Rows.indexFreshSpec).preRow enc Tryz.prog Tryz.f4 Rows.indexFreshRow.domain false Rows.indexFreshRow.laid) (((OpenSpec.ofChange Rows.indexFreshSpec).at I).post enc Tryz.prog Tryz.f4 false true false false):=by
 have hs:(DataW.whole enc Tryz.prog ((eU os).forCall (fun _ _=>0) ⟨#[],#[.slice none 0 0,.slice none 0 0,.agg #[.string ⟨⟨[]⟩⟩,.string ⟨⟨[]⟩⟩,.slice none 0 0]],[]⟩).memory Tryz.f4.params.toList Rows.indexFreshSpec.vars false #[.slice none 0 0,.slice none 0 0,.agg #[.string ⟨⟨[]⟩⟩,.string ⟨⟨[]⟩⟩,.slice none 0 0]].toList 8).isSome=true:=by kernel_rfl
 refine returnsInHanded_of_row (C:=Tryz.checked) (s:=OpenSpec.ofChange Rows.indexFreshSpec) Ix started (by kernel_rfl) Tryz.func4
  (witness_row_at (enc:=enc) (C:=Tryz.checked) false (eU os) #[.slice none 0 0,.slice none 0 0,.agg #[.string ⟨⟨[]⟩⟩,.string ⟨⟨[]⟩⟩,.slice none 0 0]] rfl (by kernel_rfl) (by kernel_rfl) (by kernel_rfl)
   (OpenSpec.preRow_of_cond 8 (Option.some_get hs).symm (by kernel_rfl) (fun k hk=>by cases hk) (by kernel_rfl) (Iy os))) ?_
 intro W base args ds gs before hval hW _ _ hsz hL hsh _;obtain ⟨X,ec,ok,h1,h2⟩:=Gy;exact MR (tb:=4) Tryz.func4 rfl (by kernel_rfl) qT qS Jk (by kernel_rfl) rfl Tryz.underlying4 rfl
  (fun H ds h=>match ds,h with|[_,_,_],_=>⟨rfl,rfl,rfl⟩) h2 enc W args ds gs before (fun p hp=>h1 _ enc W base args.toList ds p (fun j t v a b=>hval j t v (by simpa using a) (by simpa using b)) hp (fun n hn=>of_decide_eq_true (ZJ.1 hsz n (nY hn)))) hW (Gx hL hsh)
theorem Gw:Rows.IndexFreshSaid :=
 OpenClaim.holds_of_cond 4 Tryz.f4 rfl rfl rfl rfl rfl rfl rfl ⟨rfl,rfl,rfl,rfl,rfl⟩ rfl rfl rfl rfl rfl nE Tryz.func4 vX
  (of_decide_eq_true (by kernel_rfl)) (by unfold Func.isWrapper;first|(rw [if_pos (by decide +kernel)];kernel_rfl)|(rw [if_neg (by decide +kernel)];exact ⟨rfl,rfl⟩))
  (fun os started H enc _ F=>by rw [OpenClaim.pre_eq_preRow];exact At os started H enc F)
theorem DF (f:FuncId) (fn:Func) (hf:Tryz.pinned.checked.prog.funcNamed "castellan/castellanlaw19.IndexFresh" = some f) (hfn:Tryz.pinned.checked.prog.funcs[f]?=some fn) :
  true=Tryz.pinned.checked.prog.looks []/\∀ (j:Nat) t,fn.params[j]?=some t->Tryz.pinned.checked.prog.wantsStandIn t=false:=by
 obtain rfl:f=4:=Option.some.inj ((nE).symm.trans hf) |>.symm
 obtain rfl:fn=Tryz.f4:=(Option.some.inj (Tryz.func4.symm.trans hfn)).symm;refine ⟨(Jj).symm,fun j t ht=>?_⟩;have hall:Tryz.f4.params.toList.all (fun t => !Tryz.prog.wantsStandIn t)=true:=IF;have hm:t∈Tryz.f4.params.toList:=by simpa using Array.mem_of_getElem? ht
 have h2:Tryz.prog.wantsStandIn t=false:=by simpa using ZJ.1 hall t hm
 exact h2
theorem lawIndexFresh_card:Rows.IndexFreshCardSaid :=
 Claim7.holds_tied_plain_at .later [] _ _ _ _ Gw (fun _ h=>by cases h) (by kernel_rfl) (fun _ h=>by cases h) indexFresh_row_tie rfl ⟨rfl,rfl⟩ IG rfl DF Ji
end Go.Proofs.YtcmfcpjnhephaaaGreatDoor.Av
