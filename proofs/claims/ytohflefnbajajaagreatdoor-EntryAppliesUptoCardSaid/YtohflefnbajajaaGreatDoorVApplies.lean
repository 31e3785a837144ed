/- Joined texts of the walk, made small by a program. -/
import Derived.Test.YtohflefnbajajaaGreatDoorVE9
import Derived.Test.YtohflefnbajajaaGreatDoorVEoH
import Derived.Test.YtohflefnbajajaaGreatDoorVP5
import Derived.Test.YtohflefnbajajaaGreatDoorVAppliesF
import Derived.Test.YtohflefnbajajaaGreatDoorCards
import Derived.Test.YtohflefnbajajaaGreatDoorTie
import Derived.WalkKit
import Derived.ProofKit
import Derived.OpenShut
import Derived.Deep.DeepHandedRow
import Derived.Lib.LaidTab
import Derived.Test.YtohflefnbajajaaGreatDoorVxApplies
set_option linter.unusedSimpArgs false
set_option linter.unusedVariables false
namespace Go.Proofs.YtohflefnbajajaaGreatDoor.Av
open Go Go.ChangeShapes Go.WideShapes Go.ChangeAt Go.RowKit
set_option maxRecDepth 100000
theorem eV:Tryz.prog.globalNamed "internal/strconv.uint64pow10" = some 0:=by kernel_rfl
def IU:List Int:=[1,10,100,1000,10000,100000,1000000,10000000,100000000,1000000000,10000000000,100000000000,1000000000000,10000000000000,100000000000000,1000000000000000,10000000000000000,100000000000000000,1000000000000000000,10000000000000000000]
theorem oX:(Tryz.prog.globals[0]?).map (·.type)=some 178:=by kernel_rfl
theorem jd:Tryz.prog.cellsOf 178=20:=by kernel_rfl
theorem Ay:Tryz.prog.cellsOf 142=1:=by kernel_rfl
theorem eO:Tryz.prog.globalNamed "strconv.ErrRange" = some 6:=by kernel_rfl
theorem gS : "*" ++ "errors.errorString" = "*errors.errorString" := by decide
theorem gO (u:TypeId) (h:Tryz.prog.typeName? 3 u=some "*errors.errorString"):u=234 :=
 typeName_ptr_named (nm := "errors.errorString") (by rw [gS];kernel_rfl) (by kernel_rfl) (by decide) u (by rw [gS];exact h)
theorem oT:(Tryz.prog.globals[6]?).map (·.type)=some 136:=by kernel_rfl
theorem eN:Tryz.prog.globalNamed "strconv.ErrSyntax" = some 5:=by kernel_rfl
theorem oG:(Tryz.prog.globals[5]?).map (·.type)=some 136:=by kernel_rfl
theorem eI:Tryz.prog.globalNamed "castellan/syntax.days" = some 4:=by kernel_rfl
def IS:List Int:=[31,28,31,30,31,30,31,31,30,31,30,31]
theorem oD:(Tryz.prog.globals[4]?).map (·.type)=some 199:=by kernel_rfl
theorem iS:Tryz.prog.cellsOf 199=12:=by kernel_rfl
theorem Af:Tryz.prog.cellsOf 3=1:=by kernel_rfl
theorem Dg {W:World} (h0:laidMet Tryz.prog Rows.entryAppliesUptoRow.laid W) (hsh:W.ShapedOpen Tryz.prog):jz (iX W).mem∧kE W:=by
 have hu3:Lib.VarReads Tryz.prog W "unicode/utf8.first" Lib.firstData:=by
   have:=Lib.laidMet.reads h0 (n := "unicode/utf8.first") (d:=Rows.laid_unicode_utf8_first) (List.mem_of_getElem? (i:=7) rfl)
   rwa [show (Rows.laid_unicode_utf8_first:DataW Unit)=Lib.firstData by kernel_rfl] at this
 have hu4:Lib.VarReads Tryz.prog W "unicode/utf8.acceptRanges" Lib.acceptData:=by
   have:=Lib.laidMet.reads h0 (n := "unicode/utf8.acceptRanges") (d:=Rows.laid_unicode_utf8_acceptRanges) (List.mem_of_getElem? (i:=3) rfl)
   rwa [show (Rows.laid_unicode_utf8_acceptRanges:DataW Unit)=Lib.acceptData by kernel_rfl] at this
 have h1:=laidMet.tail h0
 have h2:=laidMet.tail h1
 have t2:=Lib.tabIs_of_head (zs:=IU) eV oX Tryz.underlying178 Tryz.underlying142 Ay jd h2
 have h3:=laidMet.tail h2
 have h4:=laidMet.tail h3
 obtain ⟨a4,s4,v4,_⟩:=laid_sentinel h4 eO oT Tryz.underlying136 gO Tryz.underlying234 Tryz.underlying236 rfl rfl Tryz.underlying9 (by kernel_rfl) (by kernel_rfl)
 have h5:=laidMet.tail h4
 obtain ⟨a5,s5,v5,_⟩:=laid_sentinel h5 eN oG Tryz.underlying136 gO Tryz.underlying234 Tryz.underlying236 rfl rfl Tryz.underlying9 (by kernel_rfl) (by kernel_rfl)
 have h6:=laidMet.tail h5
 have t6:=Lib.tabIs_of_head (zs:=IS) eI oD Tryz.underlying199 Tryz.underlying3 Af iS h6
 have h7:=laidMet.tail h6
 have h8:=laidMet.tail h7
 exact L9 (IM hsh) (i6 (MV t2 eV) (i6 (UZ hu3 hu4 J9 (by rfl)) (i6 (KP v4 eO) (i6 (KP v5 eN) (i6 (MV t6 eI) (i6 (Ps hu3 hu4 J8 (by rfl)) Pj))))))
theorem F5:ownKnob Tryz.prog.godebug=none:=by kernel_rfl
theorem Dh:∃ (X:Type) (ec:X→List AV) (ok:X→Prop),ME Tryz.prog Tryz.f5.params.toList ec ok∧∀ y,ok y→af Tryz.prog 5 (ec y) [] fun av _=>av=.bool true:=by
 refine ⟨_,_,_,Nk (t:=30) (by kernel_rfl) Ue (Nk (t:=45) (by kernel_rfl) NK Nj),?_⟩
 rintro ⟨s,x,_⟩ ⟨hs,hx,_⟩
 exact NY (ts:=s.1) (cs:=s.2) (l:=x.1) (ms:=x.2) (capT:=none) (capC:=none) (cap:=none) (capM:=none) hs hx.1 hx.2 (L:=[]) (K:=fun av _=>av=.bool true) rfl
noncomputable def aF (os:Os):World:={ World.holding Tryz.prog os ⟨#[],#[],[]⟩ with heap:=let h:=(World.holding Tryz.prog os ⟨#[],#[],[]⟩).heap;((((((((((h.modify 7 fun
     | .cells _ t frozen=>.cells ([Value.int .u8 0,Value.int .u8 1,Value.int .u8 28,Value.int .u8 2,Value.int .u8 29,Value.int .u8 14,Value.int .u8 24,Value.int .u8 3,Value.int .u8 30,Value.int .u8 22,Value.int .u8 20,Value.int .u8 15,Value.int .u8 25,Value.int .u8 17,Value.int .u8 4,Value.int .u8 8,Value.int .u8 31,Value.int .u8 27,Value.int .u8 13,Value.int .u8 23,Value.int .u8 21,Value.int .u8 19,Value.int .u8 16,Value.int .u8 7,Value.int .u8 26,Value.int .u8 12,Value.int .u8 18,Value.int .u8 6,Value.int .u8 11,Value.int .u8 5,Value.int .u8 10,Value.int .u8 9]:List Value).toArray t frozen
     | o=>o).modify 8 fun
     | .cells _ t frozen=>.cells ([Value.int .u8 0,Value.int .u8 1,Value.int .u8 56,Value.int .u8 2,Value.int .u8 57,Value.int .u8 49,Value.int .u8 28,Value.int .u8 3,Value.int .u8 61,Value.int .u8 58,Value.int .u8 42,Value.int .u8 50,Value.int .u8 38,Value.int .u8 29,Value.int .u8 17,Value.int .u8 4,Value.int .u8 62,Value.int .u8 47,Value.int .u8 59,Value.int .u8 36,Value.int .u8 45,Value.int .u8 43,Value.int .u8 51,Value.int .u8 22,Value.int .u8 53,Value.int .u8 39,Value.int .u8 33,Value.int .u8 30,Value.int .u8 24,Value.int .u8 18,Value.int .u8 12,Value.int .u8 5,Value.int .u8 63,Value.int .u8 55,Value.int .u8 48,Value.int .u8 27,Value.int .u8 60,Value.int .u8 41,Value.int .u8 37,Value.int .u8 16,Value.int .u8 46,Value.int .u8 35,Value.int .u8 44,Value.int .u8 21,Value.int .u8 52,Value.int .u8 32,Value.int .u8 23,Value.int .u8 11,Value.int .u8 54,Value.int .u8 26,Value.int .u8 40,Value.int .u8 15,Value.int .u8 34,Value.int .u8 20,Value.int .u8 31,Value.int .u8 10,Value.int .u8 25,Value.int .u8 14,Value.int .u8 19,Value.int .u8 9,Value.int .u8 13,Value.int .u8 8,Value.int .u8 7,Value.int .u8 6]:List Value).toArray t frozen
     | o=>o).modify 0 fun
     | .cells _ t frozen=>.cells ([Value.int .u64 1,Value.int .u64 10,Value.int .u64 100,Value.int .u64 1000,Value.int .u64 10000,Value.int .u64 100000,Value.int .u64 1000000,Value.int .u64 10000000,Value.int .u64 100000000,Value.int .u64 1000000000,Value.int .u64 10000000000,Value.int .u64 100000000000,Value.int .u64 1000000000000,Value.int .u64 10000000000000,Value.int .u64 100000000000000,Value.int .u64 1000000000000000,Value.int .u64 10000000000000000,Value.int .u64 100000000000000000,Value.int .u64 1000000000000000000,Value.int .u64 10000000000000000000]:List Value).toArray t frozen
     | o=>o).modify 3 fun
     | .cells _ t frozen=>.cells ([Value.int .u8 128,Value.int .u8 191,Value.int .u8 160,Value.int .u8 191,Value.int .u8 128,Value.int .u8 159,Value.int .u8 144,Value.int .u8 191,Value.int .u8 128,Value.int .u8 143,Value.int .u8 0,Value.int .u8 0,Value.int .u8 0,Value.int .u8 0,Value.int .u8 0,Value.int .u8 0,Value.int .u8 0,Value.int .u8 0,Value.int .u8 0,Value.int .u8 0,Value.int .u8 0,Value.int .u8 0,Value.int .u8 0,Value.int .u8 0,Value.int .u8 0,Value.int .u8 0,Value.int .u8 0,Value.int .u8 0,Value.int .u8 0,Value.int .u8 0,Value.int .u8 0,Value.int .u8 0]:List Value).toArray t frozen
     | o=>o).modify 6 fun
     | .cells _ t frozen=>.cells ([Value.iface 234 (.pointer (some ⟨h.size+0,0,none⟩))]:List Value).toArray t frozen
     | o=>o).modify 5 fun
     | .cells _ t frozen=>.cells ([Value.iface 234 (.pointer (some ⟨h.size+1,0,none⟩))]:List Value).toArray t frozen
     | o=>o).modify 4 fun
     | .cells _ t frozen=>.cells ([Value.int .i64 31,Value.int .i64 28,Value.int .i64 31,Value.int .i64 30,Value.int .i64 31,Value.int .i64 30,Value.int .i64 31,Value.int .i64 31,Value.int .i64 30,Value.int .i64 31,Value.int .i64 30,Value.int .i64 31]:List Value).toArray t frozen
     | o=>o).modify 2 fun
     | .cells _ t frozen=>.cells ((Go.Pinned.utf8FirstZ.map fun (n:Nat)=>Value.int .u8 (Int.ofNat n)):List Value).toArray t frozen
     | o=>o).push (.cells (#[Value.string ⟨⟨[118,97,108,117,101,32,111,117,116,32,111,102,32,114,97,110,103,101]⟩⟩]:Array Value) 236)).push (.cells (#[Value.string ⟨⟨[105,110,118,97,108,105,100,32,115,121,110,116,97,120]⟩⟩]:Array Value) 236)) }
theorem Gd (os:Os):laidMet Tryz.prog Rows.entryAppliesUptoRow.laid ((aF os).forCall (fun _ _=>0) ⟨#[],#[.agg #[.slice none 0 0,.slice none 0 0],.agg #[.slice none 0 0,.slice none 0 0]],[]⟩).memory :=
 laidMet_of_run' 8 (by kernel_rfl) (by kernel_rfl)
set_option maxRecDepth 100000 in
theorem oY (os:Os) (started:os.Started) (H:Type) (enc:TypeId×Value→H) (I:Stop.Interp) :
   ReturnsInHanded {} Tryz.checked os 5 .any ((Rows.OpenSpec.upto Rows.entryAppliesSpec).preRow enc Tryz.prog Tryz.f5 Rows.entryAppliesUptoRow.domain false Rows.entryAppliesUptoRow.laid) (((Rows.OpenSpec.upto Rows.entryAppliesSpec).at I).post enc Tryz.prog Tryz.f5 false true false false):=by
 have hs:(DataW.whole enc Tryz.prog ((aF os).forCall (fun _ _=>0) ⟨#[],#[.agg #[.slice none 0 0,.slice none 0 0],.agg #[.slice none 0 0,.slice none 0 0]],[]⟩).memory Tryz.f5.params.toList Rows.entryAppliesSpec.vars false #[.agg #[.slice none 0 0,.slice none 0 0],.agg #[.slice none 0 0,.slice none 0 0]].toList 8).isSome=true:=by kernel_rfl
 refine returnsInHanded_of_row (C:=Tryz.checked) (s:=Rows.OpenSpec.upto Rows.entryAppliesSpec) F5 started (by kernel_rfl) Tryz.func5
   (witness_row_at (enc:=enc) (C:=Tryz.checked) false (aF os) #[.agg #[.slice none 0 0,.slice none 0 0],.agg #[.slice none 0 0,.slice none 0 0]] rfl (by kernel_rfl) (by kernel_rfl) (by kernel_rfl)
     (OpenSpec.preRow_of_cond 8 (Option.some_get hs).symm (by kernel_rfl) (fun k hk=>by cases hk;kernel_rfl) (by kernel_rfl) (Gd os))) ?_
 intro W base args ds gs before hval hW _ hcond _ hL hsh _
 obtain ⟨X,ec,ok,h1,h2⟩:=Dh
 exact GA (tb:=4) Tryz.func5 rfl (by kernel_rfl) gU gT H4 (by kernel_rfl) rfl Tryz.underlying4 rfl
   (fun H ds h=>match ds,h with|[_,_],_=>⟨rfl,rfl,rfl⟩) h2 enc W args ds gs before (fun p hp=>h1 _ enc W base args.toList ds p (fun j t v a b=>hval j t v (by simpa using a) (by simpa using b)) hp (KA (hcond _ rfl))) hW (Dg hL hsh)
theorem Df:Rows.EntryAppliesUptoSaid :=
 OpenClaim.holds_of_cond 5 Tryz.f5 rfl rfl rfl rfl rfl rfl rfl ⟨rfl,rfl,rfl,rfl,rfl⟩ rfl rfl rfl rfl rfl gP Tryz.func5 oq
   (of_decide_eq_true (by kernel_rfl)) (by unfold Func.isWrapper;first|(rw [if_pos (by decide +kernel)];kernel_rfl)|(rw [if_neg (by decide +kernel)];exact ⟨rfl,rfl⟩))
   (fun os started H enc _ F=>by rw [OpenClaim.pre_eq_preRow];exact oY os started H enc F)
theorem AL (f:FuncId) (fn:Func) (hf:Tryz.pinned.checked.prog.funcNamed "castellan/castellanlaw14.EntryApplies" = some f) (hfn:Tryz.pinned.checked.prog.funcs[f]?=some fn) :
   true=Tryz.pinned.checked.prog.looks []∧∀ (j:Nat) t,fn.params[j]?=some t→Tryz.pinned.checked.prog.wantsStandIn t=false:=by
 obtain rfl:f=5:=Option.some.inj ((gP).symm.trans hf) |>.symm
 obtain rfl:fn=Tryz.f5:=(Option.some.inj (Tryz.func5.symm.trans hfn)).symm
 refine ⟨(H1).symm,fun j t ht=>?_⟩
 have hall:Tryz.f5.params.toList.all (fun t => !Tryz.prog.wantsStandIn t)=true:=GB
 have hm:t∈Tryz.f5.params.toList:=by simpa using Array.mem_of_getElem? ht
 have h2:Tryz.prog.wantsStandIn t=false:=by simpa using List.all_eq_true.1 hall t hm
 exact h2
theorem lawEntryApplies_card:Rows.EntryAppliesUptoCardSaid :=
 Claim7.holds_tied_plain_at .later [] _ _ _ _ Df (fun _ h=>by cases h) (by kernel_rfl) (fun _ h=>by cases h) entryAppliesUpto_row_tie rfl ⟨rfl,rfl⟩ GM rfl AL H0
end Go.Proofs.YtohflefnbajajaaGreatDoor.Av
