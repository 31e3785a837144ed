/- Joined texts of the walk, made small by a program. -/
import Derived.Test.YtolfghcbbpcciaaGreatDoorGP4
import Derived.Test.YtolfghcbbpcciaaGreatDoorRows
import Derived.KernelRfl
import Derived.Test.YtolfghcbbpcciaaGreatDoorGR3
import Derived.Test.YtolfghcbbpcciaaGreatDoorGE1
import Derived.Shelf.SortM.Plain
import Derived.Shelf.SortM.SortNone
import Derived.Test.YtolfghcbbpcciaaGreatDoorGShelfP
import Derived.Test.YtolfghcbbpcciaaGreatDoorGE3
import Derived.Test.YtolfghcbbpcciaaGreatDoorGD1
import Derived.Test.YtolfghcbbpcciaaGreatDoorGQ1
import Derived.Sort.Walk0
set_option linter.unusedSimpArgs false
set_option linter.unusedVariables false
set_option maxRecDepth 100000
namespace Go.Proofs.YtolfghcbbpcciaaGreatDoor.Av
open Go
def kG:LSO:=[Ab 4 0,Ah 5]
def kF:LSO:=[Aa 11 0,o1 12 (.call 63 [(iv 4),(tm 11)]),Aa 10 12,Ar 13 10,As 14 10,Aa 6 13,Aa 7 14]
def kE:LSO:=[Aa 16 0,o1 17 (.call 64 [(tm 16),(iv 10),(iv 64)]),Aa 15 17,Ar 18 15,As 19 15,Aa 8 18,Aa 9 19]
def kD:LSO:=[Aa 20 8,Aa 21 7,Aa 22 21,.grp none 22 true
 [Ae 23 22 9,og 24 22 true (.eqk false .iface (tm 23) (.av .nilif))]
 25 (tm 24),Aa 26 25,.grp none 26 true
 [Ae 27 26 8,og 28 26 true (.bin .geq (tm 27) (iv 0))]
 29 (tm 28),Aa 30 29,.grp none 30 true
 [Ae 31 30 8,Ae 32 30 1,BD 33 30 31 32]
 34 (tm 33),Aa 4 20,Aa 5 34]
def eS:ba:=⟨35,(.seq (.sreg kG [])
 (.seq (.sreg kF Cb)
 (.seq (.sreg kE Cd)
 (.seq (.sreg kD Cs)
 .ret)))),[(.tmp 4),(.tmp 5)]⟩
attribute [push_cast] kG kF kE kD
theorem jG:bb Tryz.prog (fun _ _=>1) 43=some eS.raw:=by kernel_rfl
def oL:LSO:=[Ai 6]
def oK:LSO:=[Ai 7]
def oJ:LSO:=[Aa 17 0,Aa 18 1,Ay 19 41 17 18,Ak 20 19,Ab 21 0]
def oI:LSO:=[Aj 22 21 20]
def oH:LSO:=[Ao 23 1 19 21,Ac 24 1 23,Aa 9 24]
def oG:LSO:=[Aa 25 2]
def oF:LSO:=[Aa 27 9,o1 28 (.call 42 [(tm 27),(.av (.str [46]))]),Aa 26 28,Ar 29 26,As 30 26,AX 31 26,Aa 10 29,Aa 11 30,Aa 12 31]
def oE:LSO:=[Aa 33 11,o1 34 (.call 43 [(tm 33),(iv 99)]),Aa 32 34,Ar 35 32,As 36 32,Aa 13 35,Aa 14 36]
def oD:LSO:=[Aa 37 14,Ax 38 37,Aa 39 38,.grp none 39 false
 [Af 40 39 12,Bc 41 39 40]
 42 (tm 41)]
def oC:LSO:=[Aa 43 10,Aa 9 43]
def kC:LSO:=[Aa 45 9,o1 46 (.call 43 [(tm 45),(iv 9007199254740991)]),Aa 44 46,Ar 47 44,As 48 44,Aa 15 47,Aa 16 48]
def kz:LSO:=[Aa 49 16]
def ky:LSO:=[Aa 50 7,Aa 51 15,Bu 52 51,o1 53 (.app 2 1 8 [(.int .i64 0)] (tm 50) (tm 52)),Aa 7 53]
def kx:LSO:=[Ag 54 21 1,Aa 21 54]
def kw:LSO:=[Aa 55 7,Al 56 44 55]
def ku:LSO:=[Aa 57 7,Aa 6 57]
def jF:ba:=⟨58,(.seq (.sreg oL [])
 (.seq (.sreg oK [])
 (.seq (.seq (.sreg oJ Cp)
 (.block 0 (.loop (.seq (.sreg oI [])
 (.seq (.cond (tm 22) .skip
 (.exit 0))
 (.seq (.block 1 (.seq (.sreg oH BW)
 (.seq (.seq (.sreg oG [])
 (.cond (tm 25) (.seq (.sreg oF Cq)
 (.seq (.seq (.sreg oE Cb)
 (.seq (.sreg oD BX)
 (.cond (tm 42) (.exit 1)
 .skip)))
 (.sreg oC BV)))
 .skip))
 (.seq (.sreg kC Cd)
 (.seq (.sreg kz [])
 (.cond (tm 49) (.sreg ky BY)
 .skip))))))
 (.sreg kx BV)))))))
 (.seq (.sreg kw Ck)
 (.seq (.sreg ku BV)
 .ret))))),[(.tmp 6)]⟩
attribute [push_cast] oL oK oJ oI oH oG oF oE oD oC kC kz ky kx kw ku
theorem Iu:bb Tryz.prog (fun r i=>if r=12∧i=3 then 2 else 1) 24=some jF.raw:=by kernel_rfl
def uu:LSO:=[Bk 2]
def ut:LSO:=[o1 8 (.call 17 [(iv 0)]),Bk 3,An 3 3 8]
def ur:LSO:=[Aa 9 0,o1 10 (.call 24 [(tm 9),(.av (.str [112,119,100,70,97,105,108,117,114,101])),(.av (.bool true))]),Ad 11 0 3,An 1 11 10]
def uq:LSO:=[Ad 12 0 3,Ac 13 1 12,Ad 14 0 3,Ac 15 1 14,Ak 16 15,AA 17 16 100,o1 18 (.minmax true [(iv 0),(tm 17)]),o1 19 (.slV 1 (tm 13) (some (tm 18)) none none),
 Ad 20 0 3,An 1 20 19]
def uo:LSO:=[Aa 21 0,o1 22 (.call 24 [(tm 21),(.av (.str [112,119,100,76,111,99,107,101,100])),(.av (.bool false))]),Ak 23 22,Ab 24 0]
def um:LSO:=[Aj 25 24 23]
def ul:LSO:=[Ao 26 1 22 24,Ac 27 1 26,Aa 5 27]
def uk:LSO:=[Aa 28 5,Ad 29 1 3,An 1 29 28]
def uj:LSO:=[Ag 30 24 1,Aa 24 30]
def ui:LSO:=[Aa 31 0,o1 32 (.call 24 [(tm 31),(.av (.str [112,119,100,67,104,97,110,103,101,100])),(.av (.bool false))]),Ak 33 32,Ab 34 0]
def o4:LSO:=[Aj 35 34 33]
def oZ:LSO:=[Ao 36 1 32 34,Ac 37 1 36,Aa 7 37]
def oY:LSO:=[Aa 38 7,Ad 39 2 3,An 1 39 38]
def oX:LSO:=[Ag 40 34 1,Aa 34 40]
def oW:LSO:=[Au 41 3 3,An 3 2 41]
def ll:ba:=⟨42,(.seq (.sreg uu [])
 (.seq (.sreg ut BV)
 (.seq (.sreg ur [false,false,false])
 (.seq (.sreg uq [false,false,false,false,false,false,false,false,false])
 (.seq (.seq (.sreg uo Cg)
 (.block 0 (.loop (.seq (.sreg um [])
 (.seq (.cond (tm 25) .skip
 (.exit 0))
 (.seq (.block 1 (.seq (.sreg ul BW)
 (.sreg uk Ck)))
 (.sreg uj BV)))))))
 (.seq (.seq (.sreg ui Cg)
 (.block 2 (.loop (.seq (.sreg o4 [])
 (.seq (.cond (tm 35) .skip
 (.exit 2))
 (.seq (.block 3 (.seq (.sreg oZ BW)
 (.sreg oY Ck)))
 (.sreg oX BV)))))))
 (.seq (.sreg oW [false])
 .ret))))))),[(.cell true 3 2)]⟩
attribute [push_cast] uu ut ur uq uo um ul uk uj ui o4 oZ oY oX oW
theorem Jb:bb Tryz.prog (fun _ _=>1) 11=some ll.raw:=by kernel_rfl
def vQ:LSO:=[A6 2 0,A6 3 1,Ah 4]
def vP:LSO:=[Ad 6 1 2,Ac 7 1 6,Ad 8 1 3,Ac 9 1 8,Bv 10 7 9,Aa 11 10,.grp none 11 false
 [AP 12 11 2 2,AB 13 11 1 12,AP 14 11 2 3,AB 15 11 1 14,BE 16 11 13 15]
 17 (tm 16),Aa 18 17,.grp none 18 false
 [AP 19 18 0 2,AB 20 18 1 19,AY 21 18 20,AP 22 18 0 3,AB 23 18 1 22,AY 24 18 23,BE 25 18 21 24]
 26 (tm 25)]
def vO:LSO:=[Ah 4]
def vN:LSO:=[Ad 27 0 2,Ac 28 1 27,Ak 29 28,Ab 30 0]
def vM:LSO:=[Aj 31 30 29]
def vL:LSO:=[Aa 32 30,Aa 5 32]
def vK:LSO:=[Ad 33 0 2,Ac 34 1 33,Aa 35 5,Ao 36 1 34 35,Ac 37 1 36,Ad 38 0 3,Ac 39 1 38,Aa 40 5,Ao 41 1 39 40,Ac 42 1 41,Bv 43 37 42]
def vJ:LSO:=[Ah 4]
def vI:LSO:=[Ag 44 30 1,Aa 30 44]
def vH:LSO:=[Aw 4]
def p6:ba:=⟨45,(.seq (.sreg vQ [])
 (.seq (.seq (.sreg vP Cl)
 (.cond (tm 26) (.seq (.sreg vO [])
 .ret)
 .skip))
 (.seq (.seq (.sreg vN Cf)
 (.block 0 (.loop (.seq (.sreg vM [])
 (.seq (.cond (tm 31) .skip
 (.exit 0))
 (.seq (.block 1 (.seq (.sreg vL BV)
 (.seq (.sdreg vK [.pure,(.read 0 0),.pure,(.read 0 0),(.read 0 0),.pure,(.read 0 0),.pure,(.read 0 0),(.read 0 0)] Ct)
 (.cond (tm 43) (.seq (.sreg vJ [])
 .ret)
 .skip))))
 (.sreg vI BV)))))))
 (.seq (.sreg vH [])
 .ret)))),[(.tmp 4)]⟩
attribute [push_cast] vQ vP vO vN vM vL vK vJ vI vH
theorem J9:bb Tryz.prog (fun _ _=>1) 9=some p6.raw:=by kernel_rfl
def ju (g:Int) (v:List UInt8):Option Int:=if v.length≤4096∧cW v=true∧0≤cI v∧cI v≤g then some (cI v) else none
def pX:List UInt8→Option (List UInt8×List UInt8)
 | []=>none
 | c::s=>if c=46 then some ([],s) else match pX s with
   | none=>none
   | some (a,b)=>some (c::a,b)
def tmM (counted:Bool) (v:List UInt8):Option Int :=
 if counted=true then match pX v with
   | none=>none
   | some (a,b)=>if (ju 99 b).isSome=true then ju 9007199254740991 a else none
 else ju 9007199254740991 v
def il (xs:List Int):List Int:=xs.mergeSort fun x y=>decide (x≤y)
theorem Sy (xs:List Int):(il xs).Pairwise (·≤·):=by
 have:=List.pairwise_mergeSort (le:=fun x y:Int=>decide (x≤y)) (by intro a b c h1 h2;simp only [decide_eq_true_eq] at *;omega) (by intro a b;simp only [Bool.or_eq_true,decide_eq_true_eq];omega) xs
 simpa [il] using this
theorem KR (xs:List Int):(il xs).Perm xs:=List.mergeSort_perm ..
theorem KQ {out xs:List Int} (h1:out.Pairwise (·≤·)) (h2:out.Perm xs):out=il xs :=
 (h2.trans (KR xs).symm).eq_of_pairwise (fun a b _ _ h3 h4=>Int.le_antisymm h3 h4) h1 (Sy xs)
theorem IE (xs:List Int):(il xs).length=xs.length:=(KR xs).length_eq
def ce (counted:Bool) (l:List (List UInt8)):List Int:=il (l.filterMap (tmM counted))
abbrev z8:List UInt8:=[112,119,100,102,97,105,108,117,114,101]
abbrev FR:List UInt8:=[112,119,100,108,111,99,107,101,100]
abbrev MY:List UInt8:=[112,119,100,99,104,97,110,103,101,100]
theorem CY {n m:List UInt8} (h:ak n=ak m):∀ l:List Atr,bm l n=bm l m
 | []=>rfl
 | a::t=>by rw [bm,bm,h,CY h t]
def eE (l:List Atr):List Int×Int×Int :=
 ((ce true (bm l z8)).drop ((ce true (bm l z8)).length - 100),(ce false (bm l FR)).getLastD (-1),(ce false (bm l MY)).getLastD 0)
end Go.Proofs.YtolfghcbbpcciaaGreatDoor.Av
namespace Go.Proofs
open Go.Shelf Go.Sort Go.RowKit
theorem Tryz.sort64 (blk off cap:Nat) (zs:List Int) (w:World) (hH:Holds (Value.int .i64) w blk off zs.toArray) (hblk:blk<w.heap.size) (hsz:zs.length<4611686018427387904) :
   Calls Tryz.prog 44 #[.slice (some ⟨blk,off,none⟩) zs.length cap] w fun e w' =>
     e=.returned (.tuple #[])∧∃ n os,w'=grow (putRow (Value.int .i64) (Sort.ahead w n) blk off (zs.mergeSort fun x y=>decide (x≤y)).toArray) os :=
 AnyM.slices_Sort_int Tryz.sort64L blk off cap zs w hH hblk hsz
theorem Tryz.sort64_none (p:Option Addr) (cap:Nat) (w:World):Calls Tryz.prog 44 #[.slice p 0 cap] w fun e w'=>e=.returned (.tuple #[])∧w'=w :=
 AnyM.slices_Sort_int_none Tryz.sort64L p cap w
end Go.Proofs
namespace Go.Proofs.YtolfghcbbpcciaaGreatDoor.Av
open Go Go.Sort
variable {L:List Blk} {K:AV→List Blk→Prop}
set_option maxHeartbeats 8000000
set_option maxRecDepth 100000
theorem Ta (v:List UInt8):(bX 4 v).isSome=(decide (v.length≤4096) && cW v):=by
 unfold bX MX
 by_cases hl:4096<v.length
 · rw [if_pos hl,decide_eq_false (by omega)];rfl
 · rw [if_neg hl,if_neg (by omega),if_neg (by omega),if_neg (by omega),if_pos rfl,decide_eq_true (by omega)]
   cases cW v<;>rfl
theorem Vd {syn:Int} {v:List UInt8} (h:K (.tup [.str ((bX syn v).getD []),.bool (bX syn v).isSome]) L):ao Tryz.prog 63 [.int .i64 syn,.str v] L K:=by
 refine PL ?_
 revert h
 rcases bX syn v with _|c<;>exact fun h=>h
theorem Rw {g:Int} {v:List UInt8} (hv:(v.length:Int)≤1100000) (h:K (.tup [.int .i64 (cI v),.bool (ju g v).isSome]) L):ao Tryz.prog 43 [.str v,.int .i64 g] L K:=by
 obtain ⟨r1,hr1⟩:∃ r,(bX 4 v).getD []=r:=⟨_,rfl⟩
 obtain ⟨b1,hb1⟩:∃ b,(bX 4 v).isSome=b:=⟨_,rfl⟩
 have kk1:Hid (Ctr Tryz.prog 63 [.int .i64 4,.str v] (.tup [.str r1,.bool b1])):=hid fun q=>Vd (by rw [hr1,hb1];exact q)
 have e:(ju g v).isSome=(b1 && (decide (0≤cI v) && decide (cI v≤g))):=by
   rw [← hb1,Ta]
   unfold ju
   by_cases h1:v.length≤4096<;>by_cases h2:cW v=true<;>by_cases h3:0≤cI v<;>by_cases h4:cI v≤g<;>simp [h1,h2,h3,h4]
 rw [e] at h
 by_cases hp:∃ n,Lib.parseIntB 64 v=.ok n
 · obtain ⟨n,hp⟩:=hp
   have e1:cI v=n:=by simp [cI,hp]
   rw [e1] at h
   clear e e1 hb1
   have kk2:Hid (Ctr Tryz.prog 64 [.str v,.int .i64 10,.int .i64 64] (.tup [.int .i64 n,.nilif])):=hid fun q=>Ov hv hp q
   replace hp:=hid hp
   replace h:=hid h
   refine ag jG (by simp [eS]) ?_
   simp only [eS,aN]
   cases b1 with
   | false =>
     refine wk ?_
     exact ab h.out
   | true =>
     refine wk ?_
     refine ab (Kto h.out ?_)
     by_cases h3:0≤n<;>by_cases h4:n≤g<;>simp [h3,h4]
 · have hb:b1=false:=by
     rw [← hb1,Ta]
     have:cW v=false:=by
       unfold cW
       split
       · rename_i n e;exact absurd ⟨n,e⟩ hp
       · rfl
     simp [this]
   subst hb
   clear e hb1
   have hp':=hid (show ∀ n,Lib.parseIntB 64 v ≠ .ok n from fun n e=>hp ⟨n,e⟩)
   clear hp
   replace h:=hid h
   refine ag jG (by simp [eS]) ?_
   simp only [eS,aN]
   have kk1:=@hid _ @kk1.out
   have kk2:=@hid _ (fun L K=>Ow hv hp'.out (L:=L) (K:=K))
   refine wk ?_
   exact ab h.out
theorem F4:∀ s:List UInt8,(Lib.indexByte s 46=-1∧pX s=none)∨∃ n:Nat,n<s.length∧Lib.indexByte s 46=(n:Int)∧pX s=some (s.take n,s.drop (n+1))
 | []=>.inl ⟨rfl,rfl⟩
 | c::s=>by
   by_cases hc:c=46
   · subst hc
     exact .inr ⟨0,by simp,by simp [Lib.indexByte],by simp [pX]⟩
   · have e1:(c == 46)=false:=by simpa using hc
     unfold Lib.indexByte
     rw [e1]
     simp only [Bool.false_eq_true,if_false,pX,if_neg hc]
     rcases F4 s with ⟨h1,h2⟩|⟨n,h0,h1,h2⟩
     · exact .inl ⟨by rw [h1];rfl,by rw [h2]⟩
     · refine .inr ⟨n+1,by simp;omega,?_,by rw [h2];simp⟩
       rw [h1]
       have:((n:Int) == -1)=false:=by simp
       rw [this];simp
def FH (s:List UInt8):AV:=match pX s with
 | some (a,b)=>.tup [.str a,.str b,.bool true]
 | none=>.tup [.str s,.str [],.bool false]
theorem QR {s:List UInt8} (hs:s.length≤100000) (h:K (FH s) L):ao Tryz.prog 62 [.str s,.str [46]] L K:=by
 have hl:[(46:UInt8)].length=1:=rfl
 rcases F4 s with ⟨h1,h2⟩|⟨n,h0,h1,h2⟩
 · simp only [FH,h2] at h
   replace h:=hid h
   clear h2
   refine ag bO (by simp [a6]) ?_
   simp only [a6,aN]
   have kk1:=@hid _ @H5
   refine wk ?_
   exact ab h.out
 · simp only [FH,h2] at h
   replace h:=hid h
   have g1:(0:Int)≤(n:Int):=by omega
   have g2:IntKind.i64.wrap ((n:Int)+1)=(n:Int)+1:=ac (by omega) (by omega)
   have g3:(n:Int)≤(s.length:Int):=by omega
   have g4:(n:Int)+1≤(s.length:Int):=by omega
   have g5:(0:Int)≤(n:Int)+1:=by omega
   have g6:((n:Int)+1).toNat=n+1:=by omega
   have g7:(s.drop (n+1)).take (s.length - (n+1))=s.drop (n+1):=List.take_of_length_le (by simp)
   clear h2
   refine ag bO (by simp [a6]) ?_
   simp only [a6,aN]
   have kk1:=@hid _ @H5
   refine wk ?_
   exact ab h.out
theorem Wq {s:List UInt8} (hs:s.length≤100000) (h:K (FH s) L):ao Tryz.prog 42 [.str s,.str [46]] L K:=by
 rcases hc:pX s with _|⟨a,b⟩
 all_goals
   simp only [FH,hc] at h
   replace h:=hid h
 · refine ag fo (by simp [cm]) ?_
   simp only [cm,aN]
   refine wk ?_
   refine QR hs ?_
   simp only [FH,hc]
   refine sk ?_
   refine wk ?_
   exact ab h.out
 · refine ag fo (by simp [cm]) ?_
   simp only [cm,aN]
   refine wk ?_
   refine QR hs ?_
   simp only [FH,hc]
   refine sk ?_
   refine wk ?_
   exact ab h.out
theorem Rel.putI64 {w0:World} {S0:Nat→Prop} {E:Env} {L:List Blk} {w:World} (h:Rel w0 S0 E L w) {i:Nat} {xs d:List Int} {c:Loc} (hi:L[i]?=some (.cells (bc xs))) (hc:E.loc i=some c) (hd:d.length=xs.length) (q:Nat) :
   Rel w0 S0 E (L.set i (.cells (bc d))) (putRow (Value.int .i64) (Sort.ahead w q) c.blk c.off d.toArray):=by
 obtain ⟨c',cs,ty,fr,h1,h2,h3,h4,h5,h6⟩:=h.blk i _ hi
 rw [hc] at h1;cases h1
 have hlt:c.blk<w.heap.size:=(Array.getElem?_eq_some_iff.1 h2).1
 have e1:(putRow (Value.int .i64) (Sort.ahead w q) c.blk c.off d.toArray).heap[c.blk]?=some (.cells (putCells (Value.int .i64) c.off d.toArray cs) ty fr):=by
   simp [putRow,mapBlock,Sort.ahead,Array.getElem?_modify,h2,onCells]
 have hlen:(bc xs).length=xs.length:=by simp
 refine h.turn (k':=.cells (bc d)) hi rfl hc (by simp) (fun b hb=>?_) rfl rfl rfl ⟨c,_,ty,fr,hc,e1,by simp [putCells,h3],?_,fun j a ha=>?_,h6⟩ (fun _ _ e=>by cases e)
 · have:c.blk≠b:=fun e=>hb e.symm
   simp [putRow,mapBlock,Sort.ahead,Array.getElem?_modify,this]
 · rw [hlen] at h4
   simp only [List.length_map,hd];omega
 · rw [hlen] at h4
   have hj:j<d.length:=by
     have:=(List.getElem?_eq_some_iff.1 ha).1
     simpa using this
   have hcs:c.off+j<cs.size:=by omega
   have ep:(putCells (Value.int .i64) c.off d.toArray cs)[c.off+j]?=some (if c.off≤c.off+j∧c.off+j<c.off+d.length then Value.int .i64 (d.toArray[c.off+j - c.off]!) else cs[c.off+j]):=by
     simp [putCells,hcs]
   have ea:a=.int .i64 d[j]:=by simpa [hj] using ha.symm
   subst ea
   refine ⟨_,ep,?_⟩
   rw [if_pos (by omega),show c.off+j - c.off=j by omega]
   simp [VR,hj]
theorem Oi {w0:World} {S0:Nat→Prop} {E:Env} {L:List Blk} {w:World} (h:Rel w0 S0 E L w) {i:Nat} {xs:List Int} {c:Loc} (hi:L[i]?=some (.cells (bc xs))) (hc:E.loc i=some c) :
   Holds (Value.int .i64) w c.blk c.off xs.toArray∧c.blk<w.heap.size:=by
 obtain ⟨c',cs,ty,fr,h1,h2,h3,h4,h5,h6⟩:=h.blk i _ hi
 rw [hc] at h1;cases h1
 refine ⟨fun j hj=>?_,(Array.getElem?_eq_some_iff.1 h2).1⟩
 have hj':j<xs.length:=by simpa using hj
 obtain ⟨v,g1,g2⟩:=h5 j (.int .i64 xs[j]) (by simp [hj'])
 simp only [VR] at g2
 subst g2
 refine ⟨by simp [World.cell?,h2,g1,hj'],?_⟩
 have h7:=h6 (c.off+j) (by omega) (by simp only [List.length_map] at h4;omega)
 simp only [World.frozen?,h2]
 obtain ⟨f1,f2⟩:=fr
 simp only at h7
 simp only [Bool.and_eq_false_iff,decide_eq_false_iff_not]
 omega
theorem Sz {xs:List Int} {i:Nat} {cp:Option Nat} (hx:xs≠[]) (hn:xs.length≤1100000) (hL:L[i]?=some (.cells (bc xs))) (h:K (.tup []) (L.set i (.cells (bc (il xs))))) :
   ao Tryz.prog 44 [.lsl i 0 xs.length cp 1] L K:=fun w0 S0 E w vs hR hv=>by
 simp only [VRL,VR] at hv
 obtain ⟨_,_,rfl,⟨c,rc,d,hc,rfl,hd,hle,_,_⟩,rfl⟩:=hv
 have hpos:0<xs.length:=List.length_pos_iff.2 hx
 have hd':d=c.off:=by have:=hd (by omega);omega
 subst hd'
 obtain ⟨hH,hlt⟩:=Oi hR hL hc
 refine .inl ⟨iP Tryz.func44 rfl (by kernel_rfl) _ _,(Tryz.sort64 c.blk c.off rc xs w hH hlt (by omega)).mono ?_⟩
 rintro e w' ⟨rfl,q,os,rfl⟩
 have r1:=hR.putI64 hL hc (d:=il xs) (IE xs) q
 refine ⟨E,_,_,_,rfl,.refl E,h,by simp [VR,VRL],r1.grown ?_⟩
 exact ⟨fun b hb=>Array.getElem?_append_left hb,by simp [grow],rfl,rfl,rfl⟩
theorem Re {cap:Option Nat} (h:K (.tup []) L):ao Tryz.prog 44 [.sl [] 0 cap] L K :=
 dd Tryz.func44 rfl (by kernel_rfl) (fun w0 S0 E w vs hR hv=>by
   simp only [VRL,VR] at hv
   obtain ⟨_,_,rfl,⟨p,c,rfl,_⟩,rfl⟩:=hv
   exact (Tryz.sort64_none p c w).mono fun e w' ⟨he,hw⟩=>⟨_,he,by simp [VR,VRL],by subst hw;exact Dv.refl _⟩) h
theorem K8 {l:List Atr} {cap:Option Nat} {n:List UInt8} {cnt:Bool} (hl:l.length≤1100000) (hr:gR du l) (hz:∀ a∈l,bH a.1∧a.2.length≤1100000) (hn:bH n) (hv:(bm l n).length≤1000000∧∀ v∈bm l n,v.length≤100000) (h:∀ cap,K (.sl (bc (ce cnt (bm l n))) (ce cnt (bm l n)).length cap) L) :
   ao Tryz.prog 24 [.sl (be l) l.length cap,.str n,.bool cnt] L K:=by
 obtain ⟨vs,hvs⟩:∃ vs,bm l n=vs:=⟨_,rfl⟩
 have kk1:Hid (Ctr Tryz.prog 41 [.sl (be l) l.length cap,.str n] (FN vs)):=hid fun q=>Wn hl hr hz hn (by rw [hvs];exact q)
 rw [hvs] at hv h
 clear hl hr hz hn hvs
 obtain ⟨hv1,hv2⟩:=hv
 replace hv2:=hid hv2
 replace h:=hid h
 refine ag Iu (by simp [jF]) ?_
 simp only [jF,aN]
 refine wk ?_
 refine aI (fun m T' L'=>∃ (i:Nat) (out:List Int) (v:AV) (Z:List Blk),m=vs.length - i∧i≤vs.length∧Hid (out=(vs.take i).filterMap (tmM cnt))∧Hid ((v=.sl [] 0 (some 0)∧out=[])∨∃ j,(out≠[]∧L.length≤j)∧v=.lsl j 0 out.length none 1∧L'[j]?=some (.cells (bc out)))∧T'=[(21,.int .i64 (i:Int)),(20,.int .i64 vs.length),(19,FN vs),(7,v),(2,.bool cnt)]∧L'=L++Z) (CutS (b:=by simp)) ⟨0,[],_,[],rfl,Nat.zero_le _,hid rfl,hid (.inl ⟨rfl,rfl⟩),rfl,by simp⟩ ?_
 rintro _ _ _ ⟨i,out,v,Z,rfl,hi,hout,hv,rfl,rfl⟩
 by_cases hlt:i<vs.length
 · have g1:(i:Int)<(vs.length:Int):=by omega
   have g2:IntKind.i64.wrap ((i:Int)+1)=(i:Int)+1:=ac (by omega) (by omega)
   obtain ⟨x,hx⟩:∃ x,vs.getD i []=x:=⟨_,rfl⟩
   have j3:(vs.map AV.str).getD i .undef=.str x:=by rw [← hx];simp [hlt]
   have hxl:x.length≤100000:=hv2.out x (by rw [← hx];simp [hlt])
   have hou2:(vs.take (i+1)).filterMap (tmM cnt)=out++(tmM cnt x).toList:=by
     rw [List.take_succ_eq_append_getElem hlt,List.filterMap_append,← hout.out]
     have:vs[i]=x:=by rw [← hx];simp [hlt]
     rw [this]
     cases h:tmM cnt x<;>simp [List.filterMap,h]
   have hol:out.length≤i:=by
     rw [hout.out]
     exact Nat.le_trans (List.length_filterMap_le ..) (by simp;try omega)
   have q1:(out.length+1) * 8≤281474976710656:=by omega
   obtain ⟨tm,htm⟩:∃ tm,tmM cnt x=tm:=⟨_,rfl⟩
   rw [htm] at hou2
   replace hou2:=hid hou2
   have kn:Hid (∀ (g:Int) (y:List UInt8),y.length≤x.length→∀ {L:List Blk} {K:AV→List Blk→Prop},K (.tup [.int .i64 (cI y),.bool (ju g y).isSome]) L→ao Tryz.prog 43 [.str y,.int .i64 g] L K):=hid fun g y hy {L K} q=>Rw (by omega) q
   have kc:Hid (Ctr Tryz.prog 42 [.str x,.str [46]] (FH x)):=hid fun q=>Wq hxl q
   clear hx hxl hout
   cases cnt with
   | false =>
     replace htm:ju 9007199254740991 x=tm:=htm
     have kk2:Hid (Ctr Tryz.prog 43 [.str x,.int .i64 9007199254740991] (.tup [.int .i64 (cI x),.bool tm.isSome])):=hid fun q=>kn.out _ x (Nat.le_refl _) (by rw [htm];exact q)
     clear kn kc
     cases tm with
     | none =>
       clear htm
       refine wk ?_
       exact az _ _ _ (by omega) (CutL (b:=by simp)) ⟨i+1,out,v,Z,rfl,hlt,hid (by rw [hou2.out];simp),hv,rfl,rfl⟩
     | some y =>
       have hy:cI x=y:=by
         unfold ju at htm
         split at htm
         · exact Option.some.inj htm
         · cases htm
       rw [hy] at kk2
       clear htm hy
       rcases hv.out with ⟨rfl,rfl⟩|⟨j,⟨hne,hLj⟩,rfl,hj⟩
       · refine wk ?_
         refine az _ _ _ (by omega) (CutL (b:=by simp)) ⟨i+1,[y],.lsl (L.length+Z.length) 0 1 none 1,_,rfl,hlt,hid (by rw [hou2.out];rfl),hid (.inr ⟨L.length+Z.length,⟨by simp,by omega⟩,rfl,?_⟩),rfl,rfl⟩
         rw [cj,List.getElem?_append_right (Nat.le_refl _),Nat.sub_self];rfl
       · refine wk ?_
         refine az _ _ _ (by omega) (CutL (b:=by simp;omega)) ⟨i+1,out++[y],.lsl (L.length+Z.length) 0 (out.length+1) none 1,Z.set (j - L.length) .dead++[.cells (bc (out++[y]))],rfl,hlt,hid (by rw [hou2.out];rfl),hid (.inr ⟨L.length+Z.length,⟨by simp,by omega⟩,by simp,?_⟩),rfl,?_⟩
         · rw [List.set_append_right _ _ hLj,List.append_assoc,cj,List.getElem?_append_right (by simp)]
           simp [List.take_of_length_le]
         · rw [List.set_append_right _ _ hLj,List.append_assoc]
           simp [List.take_of_length_le]
   | true =>
     have hm:tmM true x=match pX x with
       | none=>none
       | some (a,b)=>if (ju 99 b).isSome=true then ju 9007199254740991 a else none:=by rw [tmM,if_pos rfl]<;>rfl
     rw [hm] at htm
     clear hm
     have hci:=F4 x
     rcases hc:pX x with _|⟨fr,ct⟩
     · rw [hc] at htm
       subst htm
       have kk2:Hid (Ctr Tryz.prog 42 [.str x,.str [46]] (.tup [.str x,.str [],.bool false])):=hid fun q=>kc.out (by simp only [FH,hc];exact q)
       have kk3:Hid (Ctr Tryz.prog 43 [.str [],.int .i64 99] (.tup [.int .i64 (cI []),.bool false])):=hid fun q=>kn.out 99 [] (by simp) q
       clear kn kc hci hc
       refine wk ?_
       exact az _ _ _ (by omega) (CutL (b:=by simp)) ⟨i+1,out,v,Z,rfl,hlt,hid (by rw [hou2.out];simp),hv,rfl,rfl⟩
     rw [hc] at htm hci
     simp only at htm
     obtain ⟨m,hm0,_,hm2⟩:∃ m:Nat,m<x.length∧Lib.indexByte x 46=(m:Int)∧some (fr,ct)=some (x.take m,x.drop (m+1)):=by
       rcases hci with ⟨_,e⟩|e
       · cases e
       · exact e
     have lf:fr.length≤x.length:=by cases hm2;simp<;>omega
     have lc:ct.length≤x.length:=by cases hm2;simp<;>omega
     have kk2:Hid (Ctr Tryz.prog 42 [.str x,.str [46]] (.tup [.str fr,.str ct,.bool true])):=hid fun q=>kc.out (by simp only [FH,hc];exact q)
     obtain ⟨b1,hb1⟩:∃ b,(ju 99 ct).isSome=b:=⟨_,rfl⟩
     have kk3:Hid (Ctr Tryz.prog 43 [.str ct,.int .i64 99] (.tup [.int .i64 (cI ct),.bool b1])):=hid fun q=>kn.out 99 ct lc (by rw [hb1];exact q)
     rw [hb1] at htm
     cases b1 with
     | false =>
       simp only [Bool.false_eq_true,if_false] at htm
       subst htm
       clear kn kc hci hc hb1 hm2
       refine wk ?_
       exact az _ _ _ (by omega) (CutL (b:=by simp)) ⟨i+1,out,v,Z,rfl,hlt,hid (by rw [hou2.out];simp),hv,rfl,rfl⟩
     | true =>
     simp only [if_true] at htm
     have kk4:Hid (Ctr Tryz.prog 43 [.str fr,.int .i64 9007199254740991] (.tup [.int .i64 (cI fr),.bool tm.isSome])):=hid fun q=>kn.out _ fr lf (by rw [htm];exact q)
     clear kn kc hci hc hb1 hm2
     cases tm with
     | none =>
       clear htm
       refine wk ?_
       exact az _ _ _ (by omega) (CutL (b:=by simp)) ⟨i+1,out,v,Z,rfl,hlt,hid (by rw [hou2.out];simp),hv,rfl,rfl⟩
     | some y =>
       have hy:cI fr=y:=by
         unfold ju at htm
         split at htm
         · exact Option.some.inj htm
         · cases htm
       rw [hy] at kk4
       clear htm hy
       rcases hv.out with ⟨rfl,rfl⟩|⟨j,⟨hne,hLj⟩,rfl,hj⟩
       · refine wk ?_
         refine az _ _ _ (by omega) (CutL (b:=by simp)) ⟨i+1,[y],.lsl (L.length+Z.length) 0 1 none 1,_,rfl,hlt,hid (by rw [hou2.out];rfl),hid (.inr ⟨L.length+Z.length,⟨by simp,by omega⟩,rfl,?_⟩),rfl,rfl⟩
         rw [cj,List.getElem?_append_right (Nat.le_refl _),Nat.sub_self];rfl
       · refine wk ?_
         refine az _ _ _ (by omega) (CutL (b:=by simp;omega)) ⟨i+1,out++[y],.lsl (L.length+Z.length) 0 (out.length+1) none 1,Z.set (j - L.length) .dead++[.cells (bc (out++[y]))],rfl,hlt,hid (by rw [hou2.out];rfl),hid (.inr ⟨L.length+Z.length,⟨by simp,by omega⟩,by simp,?_⟩),rfl,?_⟩
         · rw [List.set_append_right _ _ hLj,List.append_assoc,cj,List.getElem?_append_right (by simp)]
           simp [List.take_of_length_le]
         · rw [List.set_append_right _ _ hLj,List.append_assoc]
           simp [List.take_of_length_le]
 · have hke:i=vs.length:=by omega
   subst hke
   have g1:¬ (vs.length:Int)<(vs.length:Int):=by omega
   have hoe:=hout.out
   rw [List.take_length] at hoe
   have hT:ce cnt vs=il out:=by rw [ce,hoe]
   have hl2:=IE out
   have ho6:out.length≤1000000:=by rw [hoe];exact Nat.le_trans (List.length_filterMap_le ..) (by omega)
   rw [hT] at h
   clear hoe hT hout
   rcases hv.out with ⟨rfl,rfl⟩|⟨j,⟨hne,hLj⟩,rfl,hj⟩
   · have kk2:Hid (Ctr Tryz.prog 44 [.sl [] 0 (some 0)] (.tup [])):=hid fun q=>Re q
     refine wk ?_
     refine aa rfl ?_
     have:=h.out (some 0)
     simpa [il] using this
   · refine wk ?_
     refine Sz hne (by omega) hj ?_
     refine sk ?_
     refine wk ?_
     rw [List.set_append_right _ _ hLj]
     refine Mk (i:=j) (l:=bc (il out)) (by
       rw [List.getElem?_append_right hLj,List.getElem?_set_self]
       rw [List.getElem?_append_right hLj] at hj
       exact (List.getElem?_eq_some_iff.1 hj).1) ?_
     have e:(AV.lsl j 0 out.length none 1).snap j (bc (il out))=.sl (bc (il out)) (il out).length none:=by
       simp only [AV.snap,if_true,List.drop_zero,Nat.mul_one,← hl2]
       rw [List.take_of_length_le (by simp)]
     rw [e,List.set_append_right _ _ hLj]
     exact aa (by simp only [AV.refs];exact dx _) (h.out none)
abbrev Nz:List UInt8:=[112,119,100,70,97,105,108,117,114,101]
abbrev Ny:List UInt8:=[112,119,100,76,111,99,107,101,100]
abbrev PM:List UInt8:=[112,119,100,67,104,97,110,103,101,100]
theorem N8 (n:List UInt8):∀ l:List Atr,bm l n=[]∨∃ a∈l,bm l n=a.2
 | []=>.inl rfl
 | a::t=>by
   rw [bm]
   split
   · exact .inr ⟨a,by simp,rfl⟩
   · rcases N8 n t with h|⟨b,h1,h2⟩
     · exact .inl h
     · exact .inr ⟨b,by simp [h1],h2⟩
def Si (l:List Atr):Prop:=l.length≤1000000∧∀ a∈l,bH a.1∧a.2.length≤1000000∧∀ v∈a.2,v.length≤100000
theorem Si.val {l:List Atr} (h:Si l) (n:List UInt8):(bm l n).length≤1000000∧∀ v∈bm l n,v.length≤100000:=by
 rcases N8 n l with e|⟨a,h1,e⟩
 · rw [e];exact ⟨by simp,fun v hv=>by cases hv⟩
 · rw [e];exact (h.2 a h1).2
theorem gV (cnt:Bool) (vs:List (List UInt8)):(ce cnt vs).length≤vs.length:=by
 rw [ce,IE]
 exact List.length_filterMap_le ..
theorem kS (xs:List Int) (d:Int) {i:Nat} (h:i<xs.length):(xs.take (i+1)).getLastD d=xs.getD i 0:=by
 rw [List.take_succ_eq_append_getElem h,List.getLastD_concat]
 simp [h]
theorem Qz {l:List Atr} {cap:Option Nat} (hr:gR du l) (hs:Si l) (h:K (.agg [.sl (bc (eE l).1) (eE l).1.length none,.int .i64 (eE l).2.1,.int .i64 (eE l).2.2]) L) :
   ao Tryz.prog 11 [.sl (be l) l.length cap] L K:=by
 have hz:∀ a∈l,bH a.1∧a.2.length≤1100000:=fun a ha=>⟨(hs.2 a ha).1,by have:=(hs.2 a ha).2.1;omega⟩
 have hl:l.length≤1100000:=by have:=hs.1;omega
 obtain ⟨A,hA⟩:∃ A,ce true (bm l Nz)=A:=⟨_,rfl⟩
 obtain ⟨B,hB⟩:∃ B,ce false (bm l Ny)=B:=⟨_,rfl⟩
 obtain ⟨C,hC⟩:∃ C,ce false (bm l PM)=C:=⟨_,rfl⟩
 have eR:eE l=(A.drop (A.length - 100),B.getLastD (-1),C.getLastD 0):=by
   unfold eE
   rw [CY (show ak z8=ak Nz by decide),CY (show ak FR=ak Ny by decide),CY (show ak MY=ak PM by decide),hA,hB,hC]
 have lA:A.length≤1000000:=by rw [← hA];exact Nat.le_trans (gV ..) (hs.val _).1
 have lB:B.length≤1000000:=by rw [← hB];exact Nat.le_trans (gV ..) (hs.val _).1
 have lC:C.length≤1000000:=by rw [← hC];exact Nat.le_trans (gV ..) (hs.val _).1
 have kt1:Hid (∀ {L:List Blk} {K:AV→List Blk→Prop},(∀ cap,K (.sl (bc A) A.length cap) L)→ao Tryz.prog 24 [.sl (be l) l.length cap,.str Nz,.bool true] L K):=hid fun q=>K8 hl hr hz (by unfold bH;decide) (hs.val _) (by rw [hA];exact q)
 have kt2:Hid (∀ {L:List Blk} {K:AV→List Blk→Prop},(∀ cap,K (.sl (bc B) B.length cap) L)→ao Tryz.prog 24 [.sl (be l) l.length cap,.str Ny,.bool false] L K):=hid fun q=>K8 hl hr hz (by unfold bH;decide) (hs.val _) (by rw [hB];exact q)
 have kt3:Hid (∀ {L:List Blk} {K:AV→List Blk→Prop},(∀ cap,K (.sl (bc C) C.length cap) L)→ao Tryz.prog 24 [.sl (be l) l.length cap,.str PM,.bool false] L K):=hid fun q=>K8 hl hr hz (by unfold bH;decide) (hs.val _) (by rw [hC];exact q)
 rw [eR] at h
 clear hz hl hA hB hC hr hs eR
 replace h:=hid h
 have kk1:Hid (∀ {n:Int} {L:List Blk} {K:AV→List Blk→Prop},K (.agg [.sl [] 0 (some 0),.int .i64 (-1),.int .i64 n]) L→ao Tryz.prog 17 [.int .i64 n] L K):=hid fun q=>OD q
 refine ag Jb (by simp [ll]) ?_
 simp only [ll,aN]
 obtain ⟨k,hk⟩:∃ k,A.length - 100=k:=⟨_,rfl⟩
 rw [hk] at h
 have w1:IntKind.i64.wrap ((A.length:Int) - 100)=(A.length:Int) - 100:=ac (by omega) (by omega)
 have w2:(if (A.length:Int) - 100 > 0 then (A.length:Int) - 100 else 0).toNat=k:=by split<;>omega
 have w3:List.take (A.length - k) (List.drop k (A.map (AV.int .i64)))=(A.drop k).map (AV.int .i64):=by
   rw [List.map_drop,List.take_of_length_le (by simp)]
 have w4:A.length - k=(A.drop k).length:=by simp
 have w5:0≤(if (A.length:Int) - 100 > 0 then (A.length:Int) - 100 else 0):=by split<;>omega
 have w6:(if (A.length:Int) - 100 > 0 then (A.length:Int) - 100 else 0)≤(A.length:Int):=by split<;>omega
 obtain ⟨D,hD⟩:∃ D,A.drop k=D:=⟨_,rfl⟩
 rw [hD] at w3 w4
 rw [w4] at w3
 simp only [hD] at h
 clear hk hD
 refine wk ?_
 refine kt1.out fun c1=>?_
 refine sk ?_
 refine wk ?_
 refine kt2.out fun c2=>?_
 refine sk ?_
 refine wk ?_
 clear w1 w2 w3 w5 w6
 obtain ⟨c3,hc3⟩:∃ c,Option.map (fun x=>x - k) c1=c:=⟨_,rfl⟩
 simp only [hc3]
 clear hc3 w4
 refine aI (fun m T' L'=>∃ (i:Nat) (x:Int),m=B.length - i∧i≤B.length∧Hid (x=(B.take i).getLastD (-1))∧T'=[(24,.int .i64 (i:Int)),(23,.int .i64 B.length),(22,.sl (bc B) B.length c2),(3,.ptr (L.length+1) 0),(2,.ptr L.length 0),(0,.sl (be l) l.length cap)]∧L'=L++[.cells [.sl [] 0 (some 0),.int .i64 0,.int .i64 0],.cells [.sl (bc D) D.length c3,.int .i64 x,.int .i64 0]]) (CutS (b:=by simp)) ⟨0,_,rfl,Nat.zero_le _,hid rfl,rfl,rfl⟩ ?_
 rintro _ _ _ ⟨i,x,rfl,hi,hx,rfl,rfl⟩
 by_cases hlt:i<B.length
 · have g1:(i:Int)<(B.length:Int):=by omega
   have g2:IntKind.i64.wrap ((i:Int)+1)=(i:Int)+1:=ac (by omega) (by omega)
   have j3:(B.map (AV.int .i64)).getD i .undef=.int .i64 (B.getD i 0):=by simp [hlt]
   have hx2:=hid (kS B (-1) hlt)
   obtain ⟨y,hy⟩:∃ y,B.getD i 0=y:=⟨_,rfl⟩
   rw [hy] at j3 hx2
   clear hx hy
   refine wk ?_
   exact az _ _ _ (by omega) (CutL (b:=by simp)) ⟨i+1,y,rfl,hlt,hid hx2.out.symm,rfl,rfl⟩
 have g1:¬ (i:Int)<(B.length:Int):=by omega
 have hx2:=hx.out
 rw [List.take_of_length_le (by omega)] at hx2
 subst hx2
 clear hx
 refine wk ?_
 refine kt3.out fun c4=>?_
 refine sk ?_
 refine wk ?_
 clear hi hlt g1
 obtain ⟨b,hb⟩:∃ b,B.getLastD (-1)=b:=⟨_,rfl⟩
 simp only [hb] at h ⊢
 refine aI (fun m T' L'=>∃ (i:Nat) (x:Int),m=C.length - i∧i≤C.length∧Hid (x=(C.take i).getLastD (0))∧T'=[(34,.int .i64 (i:Int)),(33,.int .i64 C.length),(32,.sl (bc C) C.length c4),(3,.ptr (L.length+1) 0),(2,.ptr L.length 0),(0,.sl (be l) l.length cap)]∧L'=L++[.cells [.sl [] 0 (some 0),.int .i64 0,.int .i64 0],.cells [.sl (bc D) D.length c3,.int .i64 b,.int .i64 x]]) (CutS (b:=by simp)) ⟨0,_,rfl,Nat.zero_le _,hid rfl,rfl,rfl⟩ ?_
 rintro _ _ _ ⟨i,x,rfl,hi,hx,rfl,rfl⟩
 by_cases hlt:i<C.length
 · have g1:(i:Int)<(C.length:Int):=by omega
   have g2:IntKind.i64.wrap ((i:Int)+1)=(i:Int)+1:=ac (by omega) (by omega)
   have j3:(C.map (AV.int .i64)).getD i .undef=.int .i64 (C.getD i 0):=by simp [hlt]
   have hx2:=hid (kS C (0) hlt)
   obtain ⟨y,hy⟩:∃ y,C.getD i 0=y:=⟨_,rfl⟩
   rw [hy] at j3 hx2
   clear hx hy
   refine wk ?_
   exact az _ _ _ (by omega) (CutL (b:=by simp)) ⟨i+1,y,rfl,hlt,hid hx2.out.symm,rfl,rfl⟩
 have g1:¬ (i:Int)<(C.length:Int):=by omega
 have hx2:=hx.out
 rw [List.take_of_length_le (by omega)] at hx2
 subst hx2
 clear hx
 obtain ⟨e,he⟩:∃ e,C.getLastD 0=e:=⟨_,rfl⟩
 simp only [he] at h ⊢
 refine wk ?_
 refine aX ?_
 simp only [AV.frz,AV.frzL,py]
 exact aa (by simp only [AV.refs,AV.refsL,dx];rfl) h.out
end Go.Proofs.YtolfghcbbpcciaaGreatDoor.Av
