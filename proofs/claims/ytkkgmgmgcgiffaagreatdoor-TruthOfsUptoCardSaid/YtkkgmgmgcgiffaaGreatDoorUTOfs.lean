/- Joined texts of the walk, made small by a program. -/
import Derived.Test.YtkkgmgmgcgiffaaGreatDoorUT5
import Derived.Test.YtkkgmgmgcgiffaaGreatDoorUT4
import Derived.Test.YtkkgmgmgcgiffaaGreatDoorUE1
import Derived.Test.YtkkgmgmgcgiffaaGreatDoorUT2
import Derived.Test.YtkkgmgmgcgiffaaGreatDoorUT3
import Derived.Test.YtkkgmgmgcgiffaaGreatDoorUE4
import Derived.Test.YtkkgmgmgcgiffaaGreatDoorUP4
import Derived.Test.YtkkgmgmgcgiffaaGreatDoorRows
import Derived.KernelRfl
import Derived.Test.YtkkgmgmgcgiffaaGreatDoorUS2
import Derived.Test.YtkkgmgmgcgiffaaGreatDoorUR1
import Derived.Test.YtkkgmgmgcgiffaaGreatDoorUR3
import Derived.Test.YtkkgmgmgcgiffaaGreatDoorUS1
import Derived.Test.YtkkgmgmgcgiffaaGreatDoorUSyR
import Derived.Test.YtkkgmgmgcgiffaaGreatDoorUP5
import Derived.Test.YtkkgmgmgcgiffaaGreatDoorUTOfsF
import Derived.Test.YtkkgmgmgcgiffaaGreatDoorCards
import Derived.Test.YtkkgmgmgcgiffaaGreatDoorTie
import Derived.WalkKit
import Derived.ProofKit
import Derived.OpenShut
import Derived.Deep.DeepHandedRow
import Derived.Lib.LaidTab
import Derived.Test.YtkkgmgmgcgiffaaGreatDoorUxTOfs
set_option linter.unusedSimpArgs false
set_option linter.unusedVariables false
namespace Go.Proofs.YtkkgmgmgcgiffaaGreatDoor.Av
open Go Go.ChangeShapes Go.WideShapes Go.ChangeAt Go.RowKit
set_option maxRecDepth 100000
theorem aiW:Tryz.prog.globalNamed "internal/strconv.uint64pow10" = some 6:=by kernel_rfl
def akH:List Int:=[1,10,100,1000,10000,100000,1000000,10000000,100000000,1000000000,10000000000,100000000000,1000000000000,10000000000000,100000000000000,1000000000000000,10000000000000000,100000000000000000,1000000000000000000,10000000000000000000]
theorem aki:(Tryz.prog.globals[6]?).map (·.type)=some 258:=by kernel_rfl
theorem akd:Tryz.prog.cellsOf 258=20:=by kernel_rfl
theorem akl:Tryz.prog.cellsOf 208=1:=by kernel_rfl
theorem aiV:Tryz.prog.globalNamed "strconv.ErrRange" = some 5:=by kernel_rfl
theorem ajN : "*" ++ "errors.errorString" = "*errors.errorString" := by decide
theorem ai1 (u:TypeId) (h:Tryz.prog.typeName? 3 u=some "*errors.errorString"):u=276 :=
 typeName_ptr_named (nm := "errors.errorString") (by rw [ajN];kernel_rfl) (by kernel_rfl) (by decide) u (by rw [ajN];exact h)
theorem akh:(Tryz.prog.globals[5]?).map (·.type)=some 182:=by kernel_rfl
theorem aiU:Tryz.prog.globalNamed "strconv.ErrSyntax" = some 4:=by kernel_rfl
theorem akg:(Tryz.prog.globals[4]?).map (·.type)=some 182:=by kernel_rfl
theorem aiT:Tryz.prog.globalNamed "castellan/syntax.days" = some 2:=by kernel_rfl
def akG:List Int:=[31,28,31,30,31,30,31,31,30,31,30,31]
theorem akf:(Tryz.prog.globals[2]?).map (·.type)=some 191:=by kernel_rfl
theorem akc:Tryz.prog.cellsOf 191=12:=by kernel_rfl
theorem akk:Tryz.prog.cellsOf 3=1:=by kernel_rfl
theorem ako {W:World} (h0:laidMet Tryz.prog Rows.truthOfsUptoRow.laid W) (hsh:W.ShapedOpen Tryz.prog):lz (kC W).mem∧mz W:=by
 have hu3:Lib.VarReads Tryz.prog W "unicode/utf8.first" Lib.firstData:=by
   have:=Lib.laidMet.reads h0 (n := "unicode/utf8.first") (d:=Rows.laid_unicode_utf8_first) (List.mem_of_getElem? (i:=7) rfl)
   rwa [show (Rows.laid_unicode_utf8_first:DataW Unit)=Lib.firstData by kernel_rfl] at this
 have hu4:Lib.VarReads Tryz.prog W "unicode/utf8.acceptRanges" Lib.acceptData:=by
   have:=Lib.laidMet.reads h0 (n := "unicode/utf8.acceptRanges") (d:=Rows.laid_unicode_utf8_acceptRanges) (List.mem_of_getElem? (i:=3) rfl)
   rwa [show (Rows.laid_unicode_utf8_acceptRanges:DataW Unit)=Lib.acceptData by kernel_rfl] at this
 have h1:=laidMet.tail h0
 have h2:=laidMet.tail h1
 have t2:=Lib.tabIs_of_head (zs:=akH) aiW aki Tryz.underlying258 Tryz.underlying208 akl akd h2
 have h3:=laidMet.tail h2
 have h4:=laidMet.tail h3
 obtain ⟨a4,s4,v4,_⟩:=laid_sentinel h4 aiV akh Tryz.underlying182 ai1 Tryz.underlying276 Tryz.underlying278 rfl rfl Tryz.underlying9 (by kernel_rfl) (by kernel_rfl)
 have h5:=laidMet.tail h4
 obtain ⟨a5,s5,v5,_⟩:=laid_sentinel h5 aiU akg Tryz.underlying182 ai1 Tryz.underlying276 Tryz.underlying278 rfl rfl Tryz.underlying9 (by kernel_rfl) (by kernel_rfl)
 have h6:=laidMet.tail h5
 have t6:=Lib.tabIs_of_head (zs:=akG) aiT akf Tryz.underlying191 Tryz.underlying3 akk akc h6
 have h7:=laidMet.tail h6
 have h8:=laidMet.tail h7
 exact SQ (PA hsh) (kG (Ty t2 aiW) (kG (XG hu3 hu4 QZ (by rfl)) (kG (Rz v4 aiV) (kG (Rz v5 aiU) (kG (Ty t6 aiT) (kG (UV hu3 hu4 QY (by rfl)) UM))))))
theorem aks:ownKnob Tryz.prog.godebug=none:=by kernel_rfl
theorem akp:∃ (X:Type) (ec:X→List AV) (ok:X→Prop),WE Tryz.prog Tryz.f3.params.toList ec ok∧∀ y,ok y→ad Tryz.prog 3 (ec y) [] fun av _=>av=.bool true:=by
 refine ⟨_,_,_,L7 (t:=25) (by kernel_rfl) W7 (L7 (t:=32) (by kernel_rfl) TQ TP),?_⟩
 rintro ⟨s,x,_⟩ ⟨hs,hx,_⟩
 exact ak7 (ts:=s.1) (cs:=s.2) (l:=x.1) (f:=x.2) hs hx.1 hx.2 (L:=[]) (K:=fun av _=>av=.bool true) rfl
noncomputable def aiP (os:Os):World:={ World.holding Tryz.prog os ⟨#[],#[],[]⟩ with heap:=let h:=(World.holding Tryz.prog os ⟨#[],#[],[]⟩).heap;((((((((((h.modify 7 fun
     | .cells _ t frozen=>.cells ([Value.int .u8 0,Value.int .u8 1,Value.int .u8 28,Value.int .u8 2,Value.int .u8 29,Value.int .u8 14,Value.int .u8 24,Value.int .u8 3,Value.int .u8 30,Value.int .u8 22,Value.int .u8 20,Value.int .u8 15,Value.int .u8 25,Value.int .u8 17,Value.int .u8 4,Value.int .u8 8,Value.int .u8 31,Value.int .u8 27,Value.int .u8 13,Value.int .u8 23,Value.int .u8 21,Value.int .u8 19,Value.int .u8 16,Value.int .u8 7,Value.int .u8 26,Value.int .u8 12,Value.int .u8 18,Value.int .u8 6,Value.int .u8 11,Value.int .u8 5,Value.int .u8 10,Value.int .u8 9]:List Value).toArray t frozen
     | o=>o).modify 8 fun
     | .cells _ t frozen=>.cells ([Value.int .u8 0,Value.int .u8 1,Value.int .u8 56,Value.int .u8 2,Value.int .u8 57,Value.int .u8 49,Value.int .u8 28,Value.int .u8 3,Value.int .u8 61,Value.int .u8 58,Value.int .u8 42,Value.int .u8 50,Value.int .u8 38,Value.int .u8 29,Value.int .u8 17,Value.int .u8 4,Value.int .u8 62,Value.int .u8 47,Value.int .u8 59,Value.int .u8 36,Value.int .u8 45,Value.int .u8 43,Value.int .u8 51,Value.int .u8 22,Value.int .u8 53,Value.int .u8 39,Value.int .u8 33,Value.int .u8 30,Value.int .u8 24,Value.int .u8 18,Value.int .u8 12,Value.int .u8 5,Value.int .u8 63,Value.int .u8 55,Value.int .u8 48,Value.int .u8 27,Value.int .u8 60,Value.int .u8 41,Value.int .u8 37,Value.int .u8 16,Value.int .u8 46,Value.int .u8 35,Value.int .u8 44,Value.int .u8 21,Value.int .u8 52,Value.int .u8 32,Value.int .u8 23,Value.int .u8 11,Value.int .u8 54,Value.int .u8 26,Value.int .u8 40,Value.int .u8 15,Value.int .u8 34,Value.int .u8 20,Value.int .u8 31,Value.int .u8 10,Value.int .u8 25,Value.int .u8 14,Value.int .u8 19,Value.int .u8 9,Value.int .u8 13,Value.int .u8 8,Value.int .u8 7,Value.int .u8 6]:List Value).toArray t frozen
     | o=>o).modify 6 fun
     | .cells _ t frozen=>.cells ([Value.int .u64 1,Value.int .u64 10,Value.int .u64 100,Value.int .u64 1000,Value.int .u64 10000,Value.int .u64 100000,Value.int .u64 1000000,Value.int .u64 10000000,Value.int .u64 100000000,Value.int .u64 1000000000,Value.int .u64 10000000000,Value.int .u64 100000000000,Value.int .u64 1000000000000,Value.int .u64 10000000000000,Value.int .u64 100000000000000,Value.int .u64 1000000000000000,Value.int .u64 10000000000000000,Value.int .u64 100000000000000000,Value.int .u64 1000000000000000000,Value.int .u64 10000000000000000000]:List Value).toArray t frozen
     | o=>o).modify 1 fun
     | .cells _ t frozen=>.cells ([Value.int .u8 128,Value.int .u8 191,Value.int .u8 160,Value.int .u8 191,Value.int .u8 128,Value.int .u8 159,Value.int .u8 144,Value.int .u8 191,Value.int .u8 128,Value.int .u8 143,Value.int .u8 0,Value.int .u8 0,Value.int .u8 0,Value.int .u8 0,Value.int .u8 0,Value.int .u8 0,Value.int .u8 0,Value.int .u8 0,Value.int .u8 0,Value.int .u8 0,Value.int .u8 0,Value.int .u8 0,Value.int .u8 0,Value.int .u8 0,Value.int .u8 0,Value.int .u8 0,Value.int .u8 0,Value.int .u8 0,Value.int .u8 0,Value.int .u8 0,Value.int .u8 0,Value.int .u8 0]:List Value).toArray t frozen
     | o=>o).modify 5 fun
     | .cells _ t frozen=>.cells ([Value.iface 276 (.pointer (some ⟨h.size+0,0,none⟩))]:List Value).toArray t frozen
     | o=>o).modify 4 fun
     | .cells _ t frozen=>.cells ([Value.iface 276 (.pointer (some ⟨h.size+1,0,none⟩))]:List Value).toArray t frozen
     | o=>o).modify 2 fun
     | .cells _ t frozen=>.cells ([Value.int .i64 31,Value.int .i64 28,Value.int .i64 31,Value.int .i64 30,Value.int .i64 31,Value.int .i64 30,Value.int .i64 31,Value.int .i64 31,Value.int .i64 30,Value.int .i64 31,Value.int .i64 30,Value.int .i64 31]:List Value).toArray t frozen
     | o=>o).modify 0 fun
     | .cells _ t frozen=>.cells ((Go.Pinned.utf8FirstZ.map fun (n:Nat)=>Value.int .u8 (Int.ofNat n)):List Value).toArray t frozen
     | o=>o).push (.cells (#[Value.string ⟨⟨[118,97,108,117,101,32,111,117,116,32,111,102,32,114,97,110,103,101]⟩⟩]:Array Value) 278)).push (.cells (#[Value.string ⟨⟨[105,110,118,97,108,105,100,32,115,121,110,116,97,120]⟩⟩]:Array Value) 278)) }
theorem akt (os:Os):laidMet Tryz.prog Rows.truthOfsUptoRow.laid ((aiP os).forCall (fun _ _=>0) ⟨#[],#[.agg #[.slice none 0 0,.slice none 0 0],.agg #[.slice none 0 0,.int .i64 0,.string ⟨#[]⟩,.string ⟨#[]⟩,.slice none 0 0,.slice none 0 0]],[]⟩).memory :=
 laidMet_of_run' 8 (by kernel_rfl) (by kernel_rfl)
set_option maxRecDepth 100000 in
theorem akj (os:Os) (started:os.Started) (H:Type) (enc:TypeId×Value→H) (I:Stop.Interp) :
   ReturnsInHanded {} Tryz.checked os 3 .any ((Rows.OpenSpec.upto Rows.truthOfsSpec).preRow enc Tryz.prog Tryz.f3 Rows.truthOfsUptoRow.domain false Rows.truthOfsUptoRow.laid) (((Rows.OpenSpec.upto Rows.truthOfsSpec).at I).post enc Tryz.prog Tryz.f3 false true false false):=by
 have hs:(DataW.whole enc Tryz.prog ((aiP os).forCall (fun _ _=>0) ⟨#[],#[.agg #[.slice none 0 0,.slice none 0 0],.agg #[.slice none 0 0,.int .i64 0,.string ⟨#[]⟩,.string ⟨#[]⟩,.slice none 0 0,.slice none 0 0]],[]⟩).memory Tryz.f3.params.toList Rows.truthOfsSpec.vars false #[.agg #[.slice none 0 0,.slice none 0 0],.agg #[.slice none 0 0,.int .i64 0,.string ⟨#[]⟩,.string ⟨#[]⟩,.slice none 0 0,.slice none 0 0]].toList 8).isSome=true:=by kernel_rfl
 refine returnsInHanded_of_row (C:=Tryz.checked) (s:=Rows.OpenSpec.upto Rows.truthOfsSpec) aks started (by kernel_rfl) Tryz.func3
   (witness_row_at (enc:=enc) (C:=Tryz.checked) false (aiP os) #[.agg #[.slice none 0 0,.slice none 0 0],.agg #[.slice none 0 0,.int .i64 0,.string ⟨#[]⟩,.string ⟨#[]⟩,.slice none 0 0,.slice none 0 0]] rfl (by kernel_rfl) (by kernel_rfl) (by kernel_rfl)
     (OpenSpec.preRow_of_cond 8 (Option.some_get hs).symm (by kernel_rfl) (fun k hk=>by cases hk;kernel_rfl) (by kernel_rfl) (akt os))) ?_
 intro W base args ds gs before hval hW _ hcond _ hL hsh _
 obtain ⟨X,ec,ok,h1,h2⟩:=akp
 exact Ny (tb:=4) Tryz.func3 rfl (by kernel_rfl) aka aj9 akB (by kernel_rfl) rfl Tryz.underlying4 rfl
   (fun H ds h=>match ds,h with|[_,_],_=>⟨rfl,rfl,rfl⟩) h2 enc W args ds gs before (fun p hp=>h1 _ enc W base args.toList ds p (fun j t v a b=>hval j t v (by simpa using a) (by simpa using b)) hp (Ri (hcond _ rfl))) hW (ako hL hsh)
theorem akn:Rows.TruthOfsUptoSaid :=
 OpenClaim.holds_of_cond 3 Tryz.f3 rfl rfl rfl rfl rfl rfl rfl ⟨rfl,rfl,rfl,rfl,rfl⟩ rfl rfl rfl rfl rfl ajL Tryz.func3 ake
   (of_decide_eq_true (by kernel_rfl)) (by unfold Func.isWrapper;first|(rw [if_pos (by decide +kernel)];kernel_rfl)|(rw [if_neg (by decide +kernel)];exact ⟨rfl,rfl⟩))
   (fun os started H enc _ F=>by rw [OpenClaim.pre_eq_preRow];exact akj os started H enc F)
theorem akm (f:FuncId) (fn:Func) (hf:Tryz.pinned.checked.prog.funcNamed "castellan/castellanlaw21.TruthOfs" = some f) (hfn:Tryz.pinned.checked.prog.funcs[f]?=some fn) :
   true=Tryz.pinned.checked.prog.looks []∧∀ (j:Nat) t,fn.params[j]?=some t→Tryz.pinned.checked.prog.wantsStandIn t=false:=by
 obtain rfl:f=3:=Option.some.inj ((ajL).symm.trans hf) |>.symm
 obtain rfl:fn=Tryz.f3:=(Option.some.inj (Tryz.func3.symm.trans hfn)).symm
 refine ⟨(akA).symm,fun j t ht=>?_⟩
 have hall:Tryz.f3.params.toList.all (fun t => !Tryz.prog.wantsStandIn t)=true:=aku
 have hm:t∈Tryz.f3.params.toList:=by simpa using Array.mem_of_getElem? ht
 have h2:Tryz.prog.wantsStandIn t=false:=by simpa using List.all_eq_true.1 hall t hm
 exact h2
theorem lawTruthOfs_card:Rows.TruthOfsUptoCardSaid :=
 Claim7.holds_tied_plain_at .later [] _ _ _ _ akn (fun _ h=>by cases h) (by kernel_rfl) (fun _ h=>by cases h) truthOfsUpto_row_tie rfl ⟨rfl,rfl⟩ akv rfl akm akz
end Go.Proofs.YtkkgmgmgcgiffaaGreatDoor.Av
