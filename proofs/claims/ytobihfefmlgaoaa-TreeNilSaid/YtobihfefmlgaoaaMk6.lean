/- Joined texts of the walk, made small by a program. -/
import Derived.Shelf.Strings.Builder1
import Derived.Shelf.Strings.Builder2
import Derived.Shelf.Strings.OnBuilder
import Derived.Shelf.Small.Bits
import Derived.Shelf.Small.Strs
import Derived.Shelf.Strings.BuilderF
import Derived.Shelf.Strings.BuilderK
import Derived.Shelf.Strings.Builder2Cap
import Derived.Shelf.Strconv.Itoa0
import Derived.Shelf.Strings.Search1
import Derived.Shelf.Sort.Plain
import Derived.Shelf.Strings.BuilderCap
import Derived.Shelf.Slices.Equal
import Derived.Ground.Names2Prog
import Derived.Shelf.Slices.Clone
import Derived.Shelf.Slices.In.SortNone
import Derived.Shelf.Slices.Empties2
import Derived.Ground.SlgnProg
import Derived.Shelf.SlicesE.Clone
import Derived.Ground.SlsfProg
import Derived.Shelf.SlSortCmp.Insertion
import Derived.Shelf.SlSortCmp.SiftDown1
import Derived.Shelf.SlSortCmp.HeapSort1
import Derived.Shelf.SlSortCmp.Insertion1
import Derived.Shelf.SlSortCmp.Median1
import Derived.Shelf.SlSortCmp.Pivot1
import Derived.Shelf.SlSortCmp.ReverseRange1
import Derived.Shelf.SlSortCmp.PartialInsertion1
import Derived.Shelf.SlSortCmp.PartitionEqual1
import Derived.Shelf.SlSortCmp.Partition1
import Derived.Shelf.SlSortCmp.Pdq1
import Derived.Shelf.SlSortCmp.Whole1
import Derived.Shelf.SlSortCmp.NoneTotal
import Derived.Test.YtobihfefmlgaoaaProg
import Derived.Test.YtobihfefmlgaoaaMk4
import Derived.Test.YtobihfefmlgaoaaRows
import Derived.KernelRfl
import Derived.Test.YtobihfefmlgaoaaMk5
import Derived.Laws.RangeAny
import Derived.Laws.RangeString
set_option linter.unusedSimpArgs false
set_option linter.unusedVariables false
namespace Go.Proofs
open Go.Shelf
def Try.lays156_ren:Go.Shelf.Ren:=⟨fun|156=>37|165=>59|166=>60|169=>61|240=>76|241=>77|276=>91|277=>92|n=>n,fun|31=>53|9=>9|3=>3|4=>4|0=>0|20=>20|72=>109|76=>113|70=>106|37=>107|75=>112|127=>133|164=>145|5=>5|80=>115|n=>n,fun|n=>n⟩
theorem Try.lays156:Go.Proofs.Lays.n156 Try.prog Try.lays156_ren:={
 mixed:=by kernel_rfl
 f156:=Try.func37.trans (congrArg some (by kernel_rfl))
 f165:=Try.func59.trans (congrArg some (by kernel_rfl))
 f166:=Try.func60.trans (congrArg some (by kernel_rfl))
 f169:=Try.func61.trans (congrArg some (by kernel_rfl))
 f240:=Try.func76.trans (congrArg some (by kernel_rfl))
 f241:=Try.func77.trans (congrArg some (by kernel_rfl))
 f276:=Try.func91.trans (congrArg some (by kernel_rfl))
 f277:=Try.func92.trans (congrArg some (by kernel_rfl))
 t0:=Try.underlying0
 a0:=Try.isAgg0
 z0:=Try.sizeOf0
 v0:=Try.zeroValue0
 t3:=Try.underlying3
 a3:=Try.isAgg3
 z3:=Try.sizeOf3
 v3:=Try.zeroValue3
 t4:=Try.underlying4
 a4:=Try.isAgg4
 z4:=Try.sizeOf4
 v4:=Try.zeroValue4
 t9:=Try.underlying9
 a9:=Try.isAgg9
 z9:=Try.sizeOf9
 v9:=Try.zeroValue9
 t20:=Try.underlying20
 a20:=Try.isAgg20
 z20:=Try.sizeOf20
 v20:=Try.zeroValue20
 t31:=Try.underlying53
 a31:=Try.isAgg53
 z31:=Try.sizeOf53
 v31:=Try.zeroValue53
 t37:=Try.underlying107
 a37:=Try.isAgg107
 z37:=Try.sizeOf107
 v37:=Try.zeroValue107
 t70:=Try.underlying106
 a70:=Try.isAgg106
 z70:=Try.sizeOf106
 v70:=Try.zeroValue106
 t72:=Try.underlying109
 a72:=Try.isAgg109
 z72:=Try.sizeOf109
 v72:=Try.zeroValue109
 t75:=Try.underlying112
 a75:=Try.isAgg112
 z75:=Try.sizeOf112
 v75:=Try.zeroValue112
 t76:=Try.underlying113
 a76:=Try.isAgg113
 z76:=Try.sizeOf113
 v76:=Try.zeroValue113
 t127:=Try.underlying133
 a127:=Try.isAgg133
 z127:=Try.sizeOf133
 v127:=Try.zeroValue133
 t164:=Try.underlying145
 a164:=Try.isAgg145
 z164:=Try.sizeOf145
 v164:=Try.zeroValue145 }
theorem Try.Builder_Extra_156:Builder.Extra Try.prog Try.lays156_ren:={
 sizeBuilder:=by kernel_rfl
 liesBuilder:=by kernel_rfl
 t5:=Try.underlying5
 a5:=Try.isAgg5
 z5:=Try.sizeOf5
 v5:=Try.zeroValue5
 infoByte:=by kernel_rfl
 cellsByte:=by kernel_rfl
 sizeByte:=by kernel_rfl
 neB5:=by decide }
open Go.RowKit in
theorem Try.strings_Join_none (a:Option Addr) (c:Nat) (sep:ByteArray) (w:World) :
 Calls Try.prog 37 #[.slice a 0 c,.string sep] w fun e w'=>e=.returned (.string ⟨#[]⟩)/\w'=w:=Any.strings_Join_none Try.lays156 Try.Builder_Extra_156 a c sep w
open Go.RowKit in
theorem Try.strings_Join (bk o c:Nat) (xs:List ByteArray) (sep:ByteArray) (w:World) (hcells:∀ (j:Nat) x,xs[j]?=some x->w.cell? ⟨bk,o+j,none⟩=some (.string x)) (hbk:bk<w.heap.size) (hN:xs.length<=140737488355328) (hcap:xs.length<=c) (hlen:(Lib.join (xs.map (·.data.toList)) sep.data.toList).length<=140737488355328) :
 Calls Try.prog 37 #[.slice (some ⟨bk,o,none⟩) xs.length c,.string sep] w fun e w'=>e=.returned (.string ⟨(Lib.join (xs.map (·.data.toList)) sep.data.toList).toArray⟩)/\Below w.heap.size w w':=Any.strings_Join Try.lays156 Try.Builder_Extra_156 bk o c xs sep w hcells hbk hN hcap hlen
def Try.lays137_ren:Go.Shelf.Ren:=⟨fun|137=>68|217=>80|266=>93|n=>n,fun|9=>9|5=>5|3=>3|n=>n,fun|n=>n⟩
theorem Try.lays137:Go.Proofs.Lays.n137 Try.prog Try.lays137_ren:={
 mixed:=by kernel_rfl
 f137:=Try.func68.trans (congrArg some (by kernel_rfl))
 f217:=Try.func80.trans (congrArg some (by kernel_rfl))
 f266:=Try.func93.trans (congrArg some (by kernel_rfl))
 t3:=Try.underlying3
 a3:=Try.isAgg3
 z3:=Try.sizeOf3
 v3:=Try.zeroValue3
 t5:=Try.underlying5
 a5:=Try.isAgg5
 z5:=Try.sizeOf5
 v5:=Try.zeroValue5
 t9:=Try.underlying9
 a9:=Try.isAgg9
 z9:=Try.sizeOf9
 v9:=Try.zeroValue9 }
open Go.RowKit in
theorem Try.strings_IndexByte (s:ByteArray) (c:Int) (w:World) :
 Calls Try.prog 68 #[.string s,.int .u8 c] w fun e w'=>e=.returned (.int .i64 (Lib.indexByte s.data.toList c.toNat.toUInt8))/\w'=w:=Any.strings_IndexByte Try.lays137 s c w
end Go.Proofs
set_option maxRecDepth 100000
namespace Go.Proofs.Ytobihfefmlgaoaa.Av
open Go
def rq:LSO:=[As 2]
def rp:LSO:=[Aa 5 0,o1 6 (.bin .eql (tm 5) (.av (.str []))),Aa 7 6,.grp none 7 false
 [Ak 8 7 0,og 9 7 false (.len true (tm 8)),og 10 7 false (.bin .gtr (tm 9) (iv 32))]
 11 (tm 10),Aa 12 11,.grp none 12 false
 [Ak 13 12 0,og 14 12 false (.idxS (tm 13) (iv 0)),og 15 12 false (.conv .i32 (tm 14)),og 16 12 false (.call 65 [(tm 15)]),og 17 12 false (.un .not (tm 16))]
 18 (tm 17)]
def rn:LSO:=[As 2]
def rm:LSO:=[Aa 19 0,o1 20 (.rangeS (tm 19))]
def rl:LSO:=[o1 21 (.nextS (tm 20)),Ar 22 21]
def rk:LSO:=[o1 23 (.extract (tm 21) 2),Aa 4 23]
def rj:LSO:=[Aa 24 4,Ah 25 65 24,AD 26 25,Aa 27 26,.grp none 27 true
 [Ag 28 27 4,og 29 27 true (.bin .lss (tm 28) (.av (.int .i32 48))),Ag 30 27 29,.grp (some (27,true)) 30 false
 [Ak 31 30 4,og 32 30 false (.bin .gtr (tm 31) (.av (.int .i32 57)))]
 33 (tm 32)]
 34 (tm 33),Aa 35 34,.grp none 35 true
 [Ag 36 35 4,og 37 35 true (.bin .neq (tm 36) (.av (.int .i32 45)))]
 38 (tm 37)]
def ri:LSO:=[As 2]
def rh:LSO:=[o1 2 (.mv (.av (.bool true)))]
def qT:bJ:=⟨39,(.seq (.sreg rq [])
 (.seq (.seq (.sreg rp Bd)
 (.cond (tm 18) (.seq (.sreg rn [])
 .ret)
 .skip))
 (.seq (.seq (.sreg rm AY)
 (.block 0 (.loop (.seq (.sreg rl [])
 (.seq (.cond (tm 22) .skip
 (.exit 0))
 (.block 1 (.seq (.sreg rk AY)
 (.seq (.sreg rj Bb)
 (.cond (tm 38) (.seq (.sreg ri [])
 .ret)
 .skip)))))))))
 (.seq (.sreg rh [])
 .ret)))),[(.tmp 2)]⟩
attribute [push_cast] rq rp rn rm rl rk rj ri rh
theorem vh:ct Try.prog (fun _ _=>1) 40=some qT.raw:=by kernel_rfl
def nZ:LSO:=[As 2]
def nY:LSO:=[Aa 3 0,o1 4 (.bin .geq (tm 3) (.av (.int .i32 97))),Aa 5 4,.grp none 5 true
 [Ag 6 5 0,og 7 5 true (.bin .leq (tm 6) (.av (.int .i32 122)))]
 8 (tm 7),Aa 9 8,.grp none 9 false
 [Ak 10 9 0,og 11 9 false (.bin .geq (tm 10) (.av (.int .i32 65))),Ak 12 9 11,.grp (some (9,false)) 12 true
 [Ag 13 12 0,og 14 12 true (.bin .leq (tm 13) (.av (.int .i32 90)))]
 15 (tm 14)]
 16 (tm 15),Aa 2 16]
def ni:bJ:=⟨17,(.seq (.sreg nZ [])
 (.seq (.sreg nY Bb)
 .ret)),[(.tmp 2)]⟩
attribute [push_cast] nZ nY
theorem tx:ct Try.prog (fun _ _=>1) 65=some ni.raw:=by kernel_rfl
def sA:LSO:=[Ax 3 1,As 4]
def sy:LSO:=[Aa 5 0,o1 6 (.mkfn 67 [(tm 3)]),Aw 7 66 5 6,Aa 4 7]
def tz:bJ:=⟨8,(.seq (.sreg sA [])
 (.seq (.sreg sy Ba)
 .ret)),[(.tmp 4)]⟩
attribute [push_cast] sA sy
theorem wo:ct Try.prog (fun _ _=>1) 41=some tz.raw:=by kernel_rfl
def pG:LSO:=[Ax 2 0,As 3]
def pF:LSO:=[Ac 4 0 2,Ab 5 1 4,Ah 6 42 5,Ab 7 1 1,Ah 8 42 7,o1 9 (.bin .eql (tm 6) (tm 8)),Aa 3 9]
def oX:bJ:=⟨10,(.seq (.sreg pG [])
 (.seq (.sdreg pF [.pure,(.read 0 0),(.read 0 0),(.read 0 0)] Bb)
 .ret)),[(.tmp 3)]⟩
attribute [push_cast] pG pF
theorem tT:ct Try.prog (fun _ _=>1) 67=some oX.raw:=by kernel_rfl
def mS:LSO:=[A3 2]
def mR:LSO:=[Ai 3]
def mQ:LSO:=[Aa 7 0,o1 8 (.s2b (tm 7)),Af 9 8,Ad 10 0]
def mP:LSO:=[Ap 11 10 9]
def mO:LSO:=[Aa 12 10,An 13 1 8 10,Ab 14 1 13,Aa 4 12,Aa 5 14]
def mN:LSO:=[Aa 15 4,Aq 16 15 0,Aa 17 16,.grp none 17 true
 [Ag 18 17 5,AT 19 17 18,Ag 20 17 19,.grp (some (17,true)) 20 false
 [Ak 21 20 5,og 22 20 false (.bin .eql (tm 21) (.av (.int .u8 35)))]
 23 (tm 22)]
 24 (tm 23),Aa 25 24,.grp none 25 false
 [Ak 26 25 4,Ak 27 25 0,og 28 25 false (.len true (tm 27)),og 29 25 false (.bin .sub (tm 28) (iv 1)),og 30 25 false (.bin .eql (tm 26) (tm 29)),Ak 31 25 30,
 .grp (some (25,false)) 31 true
 [Ag 32 31 5,AT 33 31 32]
 34 (tm 33)]
 35 (tm 34),Aa 6 35]
def mM:LSO:=[Aa 37 5,o1 38 (.bin .eql (tm 37) (.av (.int .u8 0))),Aa 36 38]
def mL:LSO:=[Aa 39 3,o1 40 (.app 1 1 1 [(.int .u8 0)] (tm 39) (.av (.str [92,48,48]))),Aa 3 40]
def mK:LSO:=[Aa 42 6,Aa 43 42,.grp none 43 false
 [Ak 44 43 5,og 45 43 false (.call 68 [(.av (.str [34,43,44,59,60,62,92])),(tm 44)]),og 46 43 false (.bin .geq (tm 45) (iv 0))]
 47 (tm 46),Aa 41 47]
def mJ:LSO:=[Aa 48 3,o1 49 (.bslice false 1 1 [(.int .u8 0)] [(0,(1,(.av (.int .u8 92))))]),AU 50 48 49,Aa 3 50]
def lZ:LSO:=[Aa 51 3,Aa 52 5,o1 53 (.bslice false 1 1 [(.int .u8 0)] [(0,(1,(tm 52)))]),AU 54 51 53,Aa 3 54]
def lY:LSO:=[Am 55 10 1,Aa 10 55]
def lX:LSO:=[Aa 56 3,o1 57 (.b2s (tm 56)),Aa 2 57]
def lC:bJ:=⟨58,(.seq (.sreg mS [])
 (.seq (.sreg mR [])
 (.seq (.seq (.sreg mQ [true,true,true,false])
 (.block 0 (.loop (.seq (.sreg mP [])
 (.seq (.cond (tm 11) .skip
 (.exit 0))
 (.seq (.block 1 (.seq (.sreg mO Bi)
 (.seq (.sreg mN Bb)
 (.seq (.block 2 (.seq (.sreg mM AZ)
 (.cond (tm 36) (.seq (.sreg mL AZ)
 (.exit 1))
 (.seq (.sreg mK Ba)
 (.cond (tm 41) (.sreg mJ Ba)
 .skip)))))
 (.sreg lZ Bc)))))
 (.sreg lY AY)))))))
 (.seq (.sreg lX AZ)
 .ret)))),[(.tmp 2)]⟩
attribute [push_cast] mS mR mQ mP mO mN mM mL mK mJ lZ lY lX
theorem rW:ct Try.prog (fun _ _=>1) 44=some lC.raw:=by kernel_rfl
def pQ:LSO:=[Ad 2 0]
def pP:LSO:=[Aa 7 0,Af 8 7,Ad 9 0]
def pO:LSO:=[Ap 10 9 8]
def pN:LSO:=[Aa 11 9,An 12 1 7 9,Ab 13 1 12,Aa 3 11,Aa 4 13]
def pM:LSO:=[Aa 15 3,Aq 16 15 32,Aa 14 16]
def pL:LSO:=[Ad 2 9]
def pK:LSO:=[Aa 18 4,Af 19 18,Aq 20 19 0,Aa 17 20]
def pJ:LSO:=[Ad 2 2]
def pI:LSO:=[Aa 21 4,Af 22 21,Ad 23 0]
def pH:LSO:=[Ap 24 23 22]
def om:LSO:=[Aa 25 23,An 26 2 21 23,A7 27 2 26,AX 6,Aa 5 25,Az 2 6 27]
def ol:LSO:=[Aa 29 5,Aq 30 29 8,Aa 28 30]
def oj:LSO:=[Ad 2 9]
def oi:LSO:=[Ac 32 0 6,Ab 33 1 32,Ah 34 40 33,AD 35 34,Aa 31 35]
def oh:LSO:=[Ad 2 20]
def oe:LSO:=[Aa 37 4,Aa 38 5,o1 39 (.slV 2 (tm 37) none (some (tm 38)) none),Ac 40 0 6,Ab 41 1 40,Aw 42 41 39 41,Aa 36 42]
def oc:LSO:=[Ad 2 21]
def n9:LSO:=[Am 43 23 1,Aa 23 43]
def n8:LSO:=[Am 44 9 1,Aa 9 44]
def n7:LSO:=[Ad 2 0]
def oY:bJ:=⟨45,(.seq (.sreg pQ [])
 (.seq (.seq (.sreg pP [])
 (.block 0 (.loop (.seq (.sreg pO [])
 (.seq (.cond (tm 10) .skip
 (.exit 0))
 (.seq (.block 1 (.seq (.sreg pN Bi)
 (.seq (.block 2 (.seq (.sreg pM AZ)
 (.cond (tm 14) (.seq (.sreg pL [])
 .ret)
 (.seq (.sreg pK Ba)
 (.cond (tm 17) (.seq (.sreg pJ [])
 .ret)
 .skip)))))
 (.seq (.sreg pI [])
 (.block 3 (.loop (.seq (.sreg pH [])
 (.seq (.cond (tm 24) .skip
 (.exit 3))
 (.seq (.block 4 (.seq (.sreg om Bi)
 (.block 5 (.seq (.sreg ol AZ)
 (.cond (tm 28) (.seq (.sreg oj [])
 .ret)
 (.seq (.sreg oi Bc)
 (.cond (tm 31) (.seq (.sreg oh [])
 .ret)
 (.seq (.sdreg oe [.pure,.pure,(.read 0 0),.pure,(.read 0 0)] Bb)
 (.cond (tm 36) (.seq (.sreg oc [])
 .ret)
 .skip)))))))))
 (.sreg n9 AY))))))))))
 (.sreg n8 AY)))))))
 (.seq (.sreg n7 [])
 .ret))),[(.tmp 2)]⟩
attribute [push_cast] pQ pP pO pN pM pL pK pJ pI pH om ol oj oi oh oe oc n9 n8 n7
theorem tU:ct Try.prog (fun _ _=>1) 28=some oY.raw:=by kernel_rfl
def qg:LSO:=[A3 2,Ad 3 0]
def qf:LSO:=[Aa 11 0,Ah 12 28 11,Aa 4 12]
def qe:LSO:=[Aa 13 4,A1 14 13 0]
def qd:LSO:=[Aa 15 4,A3 2,Aa 3 15]
def qc:LSO:=[Ad 5 0]
def p9:LSO:=[Aa 16 0,Af 17 16,Ad 18 0]
def p0:LSO:=[Ap 19 18 17]
def pZ:LSO:=[An 20 1 16 18,Ab 21 1 20,Aa 7 21]
def pY:LSO:=[Aa 22 7,Af 23 22,Ad 24 0]
def pX:LSO:=[Ap 25 24 23]
def oA:LSO:=[An 26 2 22 24,A7 27 2 26,AX 9,Az 2 9 27]
def oz:LSO:=[Ac 28 1 9,Ab 29 1 28,o1 30 (.len true (tm 29)),A6 31 30 4096]
def oy:LSO:=[A3 2,Ad 3 5]
def ox:LSO:=[Aa 32 5,Am 33 32 1,Aa 5 33]
def ow:LSO:=[Am 34 24 1,Aa 24 34]
def ov:LSO:=[Am 35 18 1,Aa 18 35]
def ou:LSO:=[Aa 36 0,o1 37 (.call 29 [(tm 36),(.av (.bool false))]),Aa 10 37]
def ot:LSO:=[Aa 38 10,o1 39 (.len true (tm 38)),A6 40 39 4096]
def oq:LSO:=[A3 2,Ad 3 5]
def oo:LSO:=[Aa 41 10,Aa 2 41,Ad 3 0]
def oZ:bJ:=⟨42,(.seq (.sreg qg [])
 (.seq (.seq (.sreg qf AZ)
 (.seq (.sreg qe AY)
 (.cond (tm 14) (.seq (.sreg qd Bg)
 .ret)
 .skip)))
 (.seq (.sreg qc [])
 (.seq (.seq (.sreg p9 [])
 (.block 0 (.loop (.seq (.sreg p0 [])
 (.seq (.cond (tm 19) .skip
 (.exit 0))
 (.seq (.block 1 (.seq (.sreg pZ AZ)
 (.seq (.sreg pY [])
 (.block 2 (.loop (.seq (.sreg pX [])
 (.seq (.cond (tm 25) .skip
 (.exit 2))
 (.seq (.block 3 (.seq (.sreg oA AZ)
 (.seq (.seq (.sreg oz Ba)
 (.cond (tm 31) (.seq (.sreg oy [])
 .ret)
 .skip))
 (.sreg ox AZ))))
 (.sreg ow AY)))))))))
 (.sreg ov AY)))))))
 (.seq (.sreg ou AZ)
 (.seq (.seq (.sreg ot AZ)
 (.cond (tm 40) (.seq (.sreg oq [])
 .ret)
 .skip))
 (.seq (.sreg oo Bg)
 .ret))))))),[(.tmp 2),(.tmp 3)]⟩
attribute [push_cast] qg qf qe qd qc p9 p0 pZ pY pX oA oz oy ox ow ov ou ot oq oo
theorem tV:ct Try.prog (fun _ _=>1) 15=some oZ.raw:=by kernel_rfl
def rx:LSO:=[A3 2,Ad 3 0]
def rv:LSO:=[Aa 7 0,Ah 8 15 7,Aa 6 8,Ar 9 6,Au 10 6,Aa 4 9,Aa 5 10]
def ru:LSO:=[Aa 11 5,A1 12 11 0]
def rt:LSO:=[Aa 13 5,A3 2,Aa 3 13]
def rr:LSO:=[Aa 14 0,o1 15 (.call 29 [(tm 14),(.av (.bool true))]),Aa 2 15,Ad 3 0]
def qU:bJ:=⟨16,(.seq (.sreg rx [])
 (.seq (.seq (.sreg rv Bb)
 (.seq (.sreg ru AY)
 (.cond (tm 12) (.seq (.sreg rt Bg)
 .ret)
 .skip)))
 (.seq (.sreg rr [true,true,false,false])
 .ret))),[(.tmp 2),(.tmp 3)]⟩
attribute [push_cast] rx rv ru rt rr
theorem vi:ct Try.prog (fun _ _=>1) 19=some qU.raw:=by kernel_rfl
def bA:LSO:=[As 4]
def bz:LSO:=[Aa 5 0,Aa 6 1,Aw 7 79 5 6,AH 8 7 0,Aa 4 8]
def a7:bJ:=⟨9,(.seq (.sreg bA [])
 (.seq (.sreg bz Bc)
 .ret)),[(.tmp 4)]⟩
attribute [push_cast] bA bz
theorem dH:ct Try.prog (fun _ _=>1) 66=some a7.raw:=by kernel_rfl
def bR:LSO:=[Ad 4 0]
def bQ:LSO:=[Aa 6 0,Af 7 6,Ad 8 0]
def bP:LSO:=[Ap 9 8 7]
def bO:LSO:=[Aa 10 8,Aa 5 10]
def bN:LSO:=[Aa 11 1,Aa 12 0,Aa 13 5,An 14 2 12 13,A7 15 2 14,o1 16 (.callv (tm 11) [(tm 15)])]
def bM:LSO:=[Aa 17 5,Aa 4 17]
def bL:LSO:=[Am 18 8 1,Aa 8 18]
def bK:LSO:=[Ad 4 (-1)]
def bg:bJ:=⟨19,(.seq (.sreg bR [])
 (.seq (.seq (.sreg bQ Bg)
 (.block 0 (.loop (.seq (.sreg bP [])
 (.seq (.cond (tm 9) .skip
 (.exit 0))
 (.seq (.block 1 (.seq (.sreg bO AY)
 (.seq (.sreg bN Bd)
 (.cond (tm 16) (.seq (.sreg bM AY)
 .ret)
 .skip))))
 (.sreg bL AY)))))))
 (.seq (.sreg bK [])
 .ret))),[(.tmp 4)]⟩
attribute [push_cast] bR bQ bP bO bN bM bL bK
theorem dQ:ct Try.prog (fun _ _=>1) 79=some bg.raw:=by kernel_rfl
attribute [push_cast] ni tz lC oY oZ qU a7 bg
variable {L:List Blk} {K:Fw}
set_option maxHeartbeats 8000000
set_option maxRecDepth 100000
theorem wH {n:Int} (h0 : -2147483648<=n) (h1:n<2147483648):IntKind.i32.wrap n=n:=by
 simp only [IntKind.wrap,IntKind.bits,IntKind.signed];simp;omega
theorem xx {s:List UInt8} {p:Nat} (h:p<s.length) (ha:(s.getD p 0).toNat<128):th s p=((s.getD p 0).toNat,1):=by
 have e:s.getD p 0=s[p]:=by simp [h]
 rw [e] at ha ⊢;exact decode_ascii ⟨⟨s⟩⟩ p h ha
theorem zj {s:List UInt8} {p:Nat} (h:p<s.length) (ha:128<=(s.getD p 0).toNat):128<=(th s p).1:=by
 have e:s.getD p 0=s[p]:=by simp [h]
 rw [e] at ha;exact (decode_high ⟨⟨s⟩⟩ p h ha).1
def jk (x:Int):Bool:=(decide (97<=x) && decide (x<=122)) || (decide (65<=x) && decide (x<=90))
theorem gi {x:Int} {L:List Blk} {K:Fw} (h:K (.bool (jk x)) L):Fv 65 [.int .i32 x] L K:=by
 refine Fu tx ?_
 all_goals (first|refine ah rfl (Kto h ?_)|refine aq (Kto h ?_)|refine ah (by simp only [AV.refs,AV.refsL, *];rfl) (Kto h ?_)|refine cQ (ah rfl (Kto h ?_))|(trace_state;fail))
 all_goals (first|(simp [jk, *];done)|(simp [jk, *];omega)|(simp [jk, *];intros;omega)|(simp_all [Hid,jk];done)|(simp_all [Hid,jk];omega))
def rQ (x:Int):Bool:=jk x || (decide (48<=x) && decide (x<=57)) || decide (x=45)
def ll (s:List UInt8):Bool:=decide (1<=s.length) && decide (s.length<=32) && jk ((s.getD 0 0).toNat:Int) && s.all fun c=>rQ (c.toNat:Int)
theorem t7 {x:Int} (h:128<=x):rQ x=false:=by
 simp only [rQ,jk,HC,HU,decide_eq_false_iff_not];omega
theorem DX {s:List UInt8} (h:K (.bool (ll s)) L):Fv 40 [.str s] L K:=by
 have no:ll s=false->K (.bool false) L:=fun e=>by rw [<- e];exact h
 replace no:=hid no;replace h:=hid h;refine ac vh (by simp [qT]) ?_;simp only [qT,au];by_cases h0:s=[]
 ·subst h0;refine wk ?_;exact aq (no.out rfl)
 have hlen:0<s.length:=Gn.2 h0;by_cases h1:(32:Int)<(s.length:Int)
 ·refine wk ?_;exact aq (no.out (by simp [ll];omega))
 obtain ⟨c0,hc0⟩:=Fq (s.getD 0 0);have hr:=c0.toNat_lt;have w0:IntKind.i32.wrap (c0.toNat:Int)=(c0.toNat:Int):=wH (by omega) (by omega);cases hl0:jk (c0.toNat:Int) with
 | false =>
   have kk1:=@hid _ @gi;refine wk ?_;refine aq (no.out ?_);simp only [ll,hc0,hl0,HT,Hp]
 | true =>
   have kk1:=@hid _ @gi;refine wk ?_;refine aM (fun n T' L'=>∃ p,n=s.length - p/\p<=s.length/\Hid (∀ c∈s.take p,rQ (c.toNat:Int)=true)/\T'=[(20,.ptr L.length 0)]/\L'=L++[.siter s p]) (CutS (b:=by simp)) ⟨0,rfl,FW _,hid (by simp),rfl,rfl⟩ ?_;rintro _ _ _ ⟨p,rfl,hp,hall,rfl,rfl⟩;by_cases hlt:p<s.length
   ·obtain ⟨c,hc⟩:=Fq (s.getD p 0);have hmem:c∈s:=by rw [<- hc];simp [hlt]
    have htk:s.take (p+1)=s.take p++[c]:=by rw [Gc hlt,<- hc];simp [hlt]
    replace htk:=hid htk;have bad:rQ (c.toNat:Int)=false->K (.bool false) L:=fun e=>no.out (by
     have:(s.all fun c=>rQ (c.toNat:Int))=false:=List.all_eq_false.2 ⟨c,hmem,by rw [e];simp⟩;simp only [ll,this,HT])
    replace bad:=hid bad;by_cases ha:c.toNat<128
    ·have hd:=xx hlt (by rw [hc];exact ha);rw [hc] at hd;obtain ⟨x,hx⟩:∃ x:Nat,c.toNat=x:=⟨_,rfl⟩;rw [hx] at hd bad;have hx':=hid hx;clear hx hc hmem ha hr w0;cases hxl:jk (x:Int) with
     | true =>
       have kk1:=@hid _ @gi;refine wk ?_;refine aJ _ _ _ (by omega) (CutS (b:=by simp)) ⟨p+1,rfl,hlt,hid fun d hd'=>?_,rfl,rfl⟩;rw [htk.out] at hd';rcases FE.1 hd' with h|h
       ·exact hall.out d h
       ·rw [FM.1 h,hx'.out,rQ,hxl];rfl
     | false =>
       repeat' first
        | refine ku ?_
        | (first|refine iC (by kernel_rfl) ?_|refine eX (by kernel_rfl) ?_|refine fa ?_|refine qE ?_|refine lE (fun _=>?_)|refine dU ?_|refine iF ?_|refine gi ?_|refine ee (gi ⟨rfl,rfl⟩) (gi ⟨rfl,rfl⟩) ?_|refine bB (gi ⟨rfl,rfl⟩) ?_)
          refine sm ?_
        | (first|refine iy (by kernel_rfl) ?_|refine fV ?_|refine eZ ?_|refine iE ?_|refine lK (dT ?_))
          refine sl ?_
        | exact lF
        | first|apply lH|apply iz|apply lI|apply iA|apply lJ|apply iB
        | refine fe ?_
        | refine eY ?_
        | first|refine fb rfl ?_|refine fc rfl ?_|refine dA rfl ?_ ?_|refine gp rfl (fun _=>?_) (fun _=>?_)|refine gm rfl (fun _=>?_) (fun _=>?_)
        | ((first|refine dy (fun _=>?_) (fun _=>?_)|refine dN (fun _=>?_) (fun _=>?_))<;>try refine sm ?_)
        | refine And.intro trivial ?_
        | refine And.intro (by omega) ?_
        | refine dV rfl (fun _=>?_) (fun _=>?_)
        | refine And.intro ?_ ?_
       ·rename_i hb
        refine ah rfl (bad.out ?_);simp only [rQ,hxl,Hk,HC,HU,decide_eq_false_iff_not];omega
       ·rename_i hb
        refine aJ _ _ _ (by omega) (CutS (b:=by simp)) ⟨p+1,rfl,hlt,hid fun d hd'=>?_,rfl,rfl⟩;rw [htk.out] at hd';rcases FE.1 hd' with h|h
        ·exact hall.out d h
        ·rw [FM.1 h,hx'.out];simp only [rQ,hxl,Hk,Gm,FG,decide_eq_true_eq];omega
    ·have hh:=zj hlt (by rw [hc];omega);obtain ⟨⟨x,wd⟩,hd⟩:∃ q,th s p=q:=⟨_,rfl⟩;rw [hd] at hh;simp only at hh;have bad':=hid (bad.out (t7 (show (128:Int)<=(c.toNat:Int) by omega)));have hxl:jk (x:Int)=false:=by
      have:=t7 (show (128:Int)<=(x:Int) by omega);simp only [rQ,HC] at this;exact this.1.1
     have f1:¬ (x:Int)<48:=by omega
     have f2:(57:Int)<(x:Int):=by omega
     have f3:¬ (x:Int)=45:=by omega
     clear hc hmem hr w0;have kk1:=@hid _ @gi;refine wk ?_;exact ah rfl bad'.out
   ·have hke:p=s.length:=by omega
    subst hke;have h':=h.out;have e:ll s=true:=by
     have e1:(s.all fun c=>rQ (c.toNat:Int))=true:=FH.2 fun c hcm=>hall.out c (by rw [F5];exact hcm)
     simp only [ll,e1,hc0,hl0,Hi];simp;omega
    rw [e] at h';replace h':=hid h';clear e;refine wk ?_;exact ah rfl h'.out
abbrev Ava:=List UInt8×List UInt8
def qW (a:Ava):List AV:=[.str a.1,.str a.2]
def bE (r:List Ava):List AV:=r.flatMap qW
abbrev z6 (r:List Ava) (cap:Option Nat):AV:=.sl (bE r) r.length cap
def nE (r:List Ava) (typ:List UInt8):Bool:=r.any fun a=>decide (az a.1=az typ)
theorem Eb {a:Ava} {typ:List UInt8} {ip:Nat} (h1:(a.1.length:Int)<=100000) (h2:(typ.length:Int)<=100000) (hL:L[ip]?=some (.cells [.str typ])) (h:K (.bool (decide (az a.1=az typ))) L) :
  Fv 67 [.agg (qW a),.ptr ip 0] L K:=by
 obtain ⟨t,v⟩:=a;replace h:=hid h;have hip:ip<L.length:=(Fx.1 hL).1;have g1:(L++[Blk.cells [.str t,.str v]])[ip]?=some (.cells [.str typ]):=by rw [FC hip];exact hL
 simp only [qW];refine ac tT (by simp [oX]) ?_;simp only [oX,au];have kk1:=@hid _ (fun L K=>mW h1 (L:=L) (K:=K));have kk2:=@hid _ (fun L K=>mW h2 (L:=L) (K:=K));refine wk ?_;exact ah rfl h.out
theorem dS (r:List Ava):(bE r).length=r.length * 2:=by
 induction r with
 | nil=>rfl
 | cons a r ih=>simp only [bE,HA,FP,qW,FT,Gu] at ih ⊢;omega
theorem jq:∀ {r:List Ava} {k:Nat},k<r.length->((bE r).drop (k * 2)).take 2=qW (r.getD k ([],[]))
 | a::r,0,_=>rfl
 | a::r,k+1,h=>by
   have ih:=@jq r k (by simpa using h);rw [show (k+1) * 2=k * 2+1+1 by omega];simpa [bE,qW] using ih
theorem BO {r:List Ava} {typ:List UInt8} {cap:Option Nat} {ip:Nat} (hn:r.length<=100000) (h1:∀ a∈r,(a.1.length:Int)<=100000) (h2:(typ.length:Int)<=100000) (hL:L[ip]?=some (.cells [.str typ]))
  (hno:nE r typ=false->K (.int .i64 (-1)) L) (hyes:∀ k:Nat,nE r typ=true->K (.int .i64 k) L):Fv 79 [z6 r cap,.func 67 [.ptr ip 0]] L K:=by
 replace hno:=hid hno;replace hyes:=hid hyes;replace h1:=hid h1;refine Fu dQ ?_;refine aM (fun n T' L'=>∃ (k:Nat),n=r.length - k/\k<=r.length/\Hid (nE (r.take k) typ=false)/\T'=[(8,.int .i64 (k:Int)),(7,.int .i64 r.length),(0,z6 r cap),(1,.func 67 [.ptr ip 0])]/\L=L') (CutS (b:=Fz _)) ⟨0,rfl,FW _,hid rfl,rfl,rfl⟩ ?_;rintro _ _ _ ⟨k,rfl,hk,hf,rfl,rfl⟩;by_cases hlt:k<r.length
 ·have g1:(k:Int)<(r.length:Int):=by omega
  have g2:=Ft k (by omega);have e1:=jq hlt;have e2:k * 2+2<=(bE r).length:=by rw [dS];omega
  obtain ⟨a,ha⟩:=Fq (r.getD k ([],[]));have ham:a∈r:=by rw [<- ha];simp [hlt]
  have htk:r.take (k+1)=r.take k++[a]:=by rw [Gc hlt,<- ha];simp [hlt]
  rw [ha] at e1;have hs:nE (r.take (k+1)) typ=decide (az a.1=az typ):=by
   have:=hf.out;simp only [nE] at this ⊢;rw [htk,HV,this];simp
  have hall:decide (az a.1=az typ)=true->nE r typ=true:=fun e=>Ha.2 ⟨a,ham,e⟩
  replace hall:=hid hall;replace hs:=hid hs;replace htk:=hid htk;have ha1:=hid (h1.out a ham);clear ha ham;refine wk ?_;refine Eb ha1.out h2 hL ?_;refine sk ?_;cases hd:decide (az a.1=az typ) with
  | true =>
    have hy:=hid (hyes.out k (hall.out hd));replace hd:=hid hd;refine wk ?_;exact aq hy.out
  | false =>
    replace hd:=hid hd;refine wk ?_;exact aJ _ _ _ (by omega) (CutS (b:=Fz _)) ⟨k+1,rfl,hlt,hid (by rw [hs.out,hd.out]),rfl,rfl⟩
 ·have hke:k=r.length:=by omega
  subst hke;have g1:¬ (r.length:Int)<(r.length:Int):=by omega
  have hn':=hf.out;rw [F5] at hn';have hy:=hid (hno.out hn');clear hn';refine wk ?_;exact aq hy.out
theorem wn {r:List Ava} {typ:List UInt8} {cap:Option Nat} {ip:Nat} (hn:r.length<=100000) (h1:∀ a∈r,(a.1.length:Int)<=100000) (h2:(typ.length:Int)<=100000) (hL:L[ip]?=some (.cells [.str typ])) (h:K (.bool (nE r typ)) L) :
  Fv 66 [z6 r cap,.func 67 [.ptr ip 0]] L K:=by
 replace h:=hid h;refine Fu dH ?_;refine BO hn h1 h2 hL (fun e=>?_) (fun k e=>?_)
 ·have h':=h.out;rw [e] at h';replace h':=hid h';refine sk ?_;refine wk ?_;exact aq h'.out
 ·have h':=h.out;rw [e] at h';replace h':=hid h';have g:(0:Int)<=(k:Int):=by omega
  refine sk ?_;refine wk ?_;exact aq h'.out
theorem EK {r:List Ava} {typ:List UInt8} {cap:Option Nat} (hn:r.length<=100000) (h1:∀ a∈r,(a.1.length:Int)<=100000) (h2:(typ.length:Int)<=100000) (h:K (.bool (nE r typ)) L) :
  Fv 41 [z6 r cap,.str typ] L K:=by
 replace h:=hid h;refine Fu wo ?_;refine wn hn h1 h2 (by simp) ?_;refine sk ?_;refine wk ?_;exact ah rfl h.out
theorem qr {a:List UInt8} {c:UInt8} (h:K (.int .i64 (Lib.indexByte a c)) L):Fv 68 [.str a,.int .u8 c.toNat] L K :=
 jt Try.func68 rfl (by kernel_rfl) (fun w0 S0 E w vs hR hv=>by
  simp only [VRL,VR] at hv;obtain ⟨_,_,rfl,rfl,_,_,rfl,rfl,rfl⟩:=hv;exact (Try.strings_IndexByte ⟨⟨a⟩⟩ c.toNat w).mono fun e w' ⟨he,hw⟩=>⟨_,he,by simp [VR],by subst hw;exact tY.refl _⟩) h
theorem uv (a:List UInt8) (c:UInt8):(0<=Lib.indexByte a c)↔c∈a:=by
 induction a with
 | nil=>simp [Lib.indexByte]
 | cons b l ih =>
   have hge:=Lib.indexByte_ge l c;unfold Lib.indexByte;by_cases hb:b=c
   ·simp [hb]
   ·have e1:(b == c)=false:=by simpa using hb
    rw [e1];simp only [FI,if_false];have e2:c∈b::l↔c∈l:=by simp [Ne.symm hb]
    rw [e2,<- ih];split
    ·rename_i h;simp at h;omega
    ·rename_i h;simp at h;omega
theorem lh (c d:UInt8):(c.toNat:Int)=(d.toNat:Int)↔c=d:=by
 constructor
 ·intro h;exact HW.1 (by omega)
 ·rintro rfl;rfl
def wrB (i n:Nat) (c:UInt8):List UInt8 :=
 if c=0 then [92,48,48] else if (i=0/\(c=32\/c=35))\/(i+1=n/\c=32)\/c∈[34,43,44,59,60,62,92] then [92,c] else [c]
def wrL (n:Nat):Nat->List UInt8->List UInt8
 | _,[]=>[]
 | i,c::s=>wrB i n c++wrL n (i+1) s
def eC (s:List UInt8):List UInt8:=wrL s.length 0 s
theorem CG (i n:Nat) (c:UInt8):(wrB i n c).length<=3:=by
 unfold wrB;split
 ·simp
 ·split<;>simp
theorem dF {s:List UInt8} (hs:s.length<=100000) (h:K (.str (eC s)) L):Fv 44 [.str s] L K:=by
 replace h:=hid h;have g0:IntKind.i64.wrap ((s.length:Int) - 1)=(s.length:Int) - 1:=aw (by omega) (by omega);refine Fu rW ?_;refine iD (l:=[]) (n:=0) 3 1 rfl (GP 1).symm ?_;refine aM (fun n T' L'=>∃ (i m:Nat) (b:List UInt8),n=s.length - i/\i<=s.length/\m<=3 * i/\Hid (m=b.length/\b++wrL s.length i (s.drop i)=eC s)/\T'=[(10,.int .i64 (i:Int)),(9,.int .i64 s.length),(8,.sl (u8s s) s.length none),(3,.gsl (u8s b) m L.length 1),(0,.str s)]/\L'=L++[.spare m 1]) (CutS (b:=by simp)) ⟨0,0,[],rfl,FW _,by omega,hid ⟨rfl,rfl⟩,rfl,rfl⟩ ?_;rintro _ _ _ ⟨i,m,b,rfl,hi,hm,hb,rfl,rfl⟩;by_cases hlt:i<s.length
 ·have g1:(i:Int)<(s.length:Int):=by omega
  have g2:=Ft i (by omega);obtain ⟨c,hc⟩:=Fq (s.getD i 0);have g3:(u8s s).getD i .undef=.int .u8 c.toNat:=by rw [<- hc];simp [u8s,hlt]
  have hdr:s.drop i=c::s.drop (i+1):=by rw [GZ hlt,<- hc];simp [hlt]
  have hb2:=hb.out.2;rw [hdr] at hb2;simp only [wrL] at hb2;have g4:=o8;have g5:(u8s s).length=s.length:=by simp [u8s]
  clear hc hdr;replace hb2:=hid hb2
  repeat' first
   | refine ku ?_
   | (first|refine iC (by kernel_rfl) ?_|refine eX (by kernel_rfl) ?_|refine fa ?_|refine qE ?_|refine lE (fun _=>?_)|refine dU ?_|refine iF ?_|refine qr ?_|refine ee (qr ⟨rfl,rfl⟩) (qr ⟨rfl,rfl⟩) ?_|refine bB (qr ⟨rfl,rfl⟩) ?_)
     refine sm ?_
   | (first|refine iy (by kernel_rfl) ?_|refine fV ?_|refine eZ ?_|refine iE ?_|refine lK (dT ?_))
     refine sl ?_
   | exact lF
   | first|apply lH|apply iz|apply lI|apply iA|apply lJ|apply iB
   | refine fe ?_
   | refine eY ?_
   | first|refine fb rfl ?_|refine fc rfl ?_|refine dA rfl ?_ ?_|refine gp rfl (fun _=>?_) (fun _=>?_)|refine gm rfl (fun _=>?_) (fun _=>?_)
   | ((first|refine dy (fun _=>?_) (fun _=>?_)|refine dN (fun _=>?_) (fun _=>?_))<;>try refine sm ?_)
   | refine And.intro trivial ?_
   | refine And.intro (by omega) ?_
   | refine dV rfl (fun _=>?_) (fun _=>?_)
   | refine And.intro ?_ ?_
  ·rfl
  ·omega
  ·rename_i h0
   have hc0:=(lh c 0).1 h0;rw [show u8s b++AV.frzL (u8s [92,48,48])=u8s (b++[92,48,48]) by simp [u8s,AV.frzL,AV.frz]];refine aJ _ _ _ (by omega) (CutL (b:=by simp)) ⟨i+1,m+3,b++[92,48,48],rfl,hlt,by omega,hid ⟨by simp [hb.out.1],?_⟩,rfl,rfl⟩;rw [<- hb2.out,wrB,if_pos hc0,FO]
  ·rename_i h0 h1
   have hc0:¬ c=0:=fun e=>h0 ((lh c 0).2 e)
   have hq:(i=0/\(c=32\/c=35))\/(i+1=s.length/\c=32)\/c∈[34,43,44,59,60,62,92]:=by
    rcases h1 with (⟨e1,e2⟩|⟨e1,e2⟩)|e
    ·exact .inl ⟨by omega,e2.imp (lh c 32).1 (lh c 35).1⟩
    ·exact .inr (.inl ⟨by omega,(lh c 32).1 e2⟩)
    ·exact .inr (.inr ((uv _ _).1 e))
   rw [show u8s b++[AV.int IntKind.u8 92,AV.int IntKind.u8 (c.toNat:Int)]=u8s (b++[92,c]) by simp [u8s]];refine aJ _ _ _ (by omega) (CutL (b:=by simp)) ⟨i+1,m+1+1,b++[92,c],rfl,hlt,by omega,hid ⟨by simp [hb.out.1],?_⟩,rfl,rfl⟩;rw [<- hb2.out,wrB,if_neg hc0,if_pos hq,FO]
  ·rename_i h0 h1
   have hc0:¬ c=0:=fun e=>h0 ((lh c 0).2 e)
   have hq:¬ ((i=0/\(c=32\/c=35))\/(i+1=s.length/\c=32)\/c∈[34,43,44,59,60,62,92]):=fun hq=>h1 (by
    rcases hq with ⟨e1,e2⟩|⟨e1,e2⟩|e
    ·exact .inl (.inl ⟨by omega,e2.imp (lh c 32).2 (lh c 35).2⟩)
    ·exact .inl (.inr ⟨by omega,(lh c 32).2 e2⟩)
    ·exact .inr ((uv _ _).2 e))
   rw [show u8s b++[AV.int IntKind.u8 (c.toNat:Int)]=u8s (b++[c]) by simp [u8s]];refine aJ _ _ _ (by omega) (CutL (b:=by simp)) ⟨i+1,m+1,b++[c],rfl,hlt,by omega,hid ⟨by simp [hb.out.1],?_⟩,rfl,rfl⟩;rw [<- hb2.out,wrB,if_neg hc0,if_neg hq,FO]
 ·have hke:i=s.length:=by omega
  subst hke;have g1:¬ (s.length:Int)<(s.length:Int):=by omega
  have e1:=o8 b;have e2:=o7 b;have e:=hb.out.2;rw [List.drop_length,wrL,Ge] at e;have h':=h.out;rw [<- e] at h';replace h':=hid h';clear e;refine wk ?_;exact ah rfl h'.out
abbrev zQ:List UInt8:=[34,43,44,59,60,62,92,32,35,61]
def ju:List UInt8->Bool->List UInt8->Option (List UInt8×List UInt8×Bool)
 | b,bl,[]=>some (b,[], !bl)
 | b,bl,c::s=>if c=44\/c=43 then some (b,c::s, !bl)
   else if c≠92 then (if c=0\/c∈([34,59,60,62]:List UInt8)\/(b=[]/\(c=32\/c=35)) then none else ju (b++[c]) (decide (c=32)) s)
   else match s with
    | []=>none
    | d::s1=>if d∈zQ then ju (b++[d]) false s1 else match s1 with
      | []=>none
      | e::s2=>match EJ d e with
        | none=>none
        | some x=>ju (b++[x]) false s2
theorem zJ {b:List UInt8} {bl:Bool}:ju b bl []=some (b,[], !bl):=by rw [ju.eq_def]
theorem yu {b:List UInt8} {bl:Bool} {c:UInt8} {s:List UInt8} (h:c=44\/c=43):ju b bl (c::s)=some (b,c::s, !bl):=by rw [ju.eq_def];simp only [if_pos h]
theorem wK {b:List UInt8} {bl:Bool} {c:UInt8} {s:List UInt8} (h:¬ (c=44\/c=43)) (h2:c≠92):ju b bl (c::s)=if c=0\/c∈([34,59,60,62]:List UInt8)\/(b=[]/\(c=32\/c=35)) then none else ju (b++[c]) (decide (c=32)) s:=by
 rw [ju.eq_def];simp only [if_neg h,if_pos h2]
theorem yv {b:List UInt8} {bl:Bool} {d:UInt8} {s:List UInt8} (h:d∈zQ):ju b bl (92::d::s)=ju (b++[d]) false s:=by
 rw [ju.eq_def];simp only [show ¬ ((92:UInt8)=44\/(92:UInt8)=43) by decide,if_false,ne_eq,not_true_eq_false,if_pos h]
theorem zK {b:List UInt8} {bl:Bool} {d e:UInt8} {s:List UInt8} (h:¬ d∈zQ):ju b bl (92::d::e::s)=match EJ d e with|none=>none|some x=>ju (b++[x]) false s:=by
 rw [ju.eq_def];simp only [show ¬ ((92:UInt8)=44\/(92:UInt8)=43) by decide,if_false,ne_eq,not_true_eq_false,if_neg h]
def B2:List UInt8->Option (List UInt8×List UInt8)
 | []=>none
 | c::s=>if c=61 then some ([],s) else match B2 s with
   | none=>none
   | some (a,b)=>some (c::a,b)
abbrev Rdn:=List Ava
abbrev aI (r:Rdn):AV:=z6 r none
def Bt:Nat->List Rdn->Rdn->List UInt8->List Rdn×Int
 | 0,_,_,_=>([],4)
 | f+1,out,now,s=>if out.length=32\/now.length=8 then ([],9) else match B2 s with
   | none=>([],4)
   | some (typ,rest)=>if ll typ=false then ([],4) else if nE now typ=true then ([],21) else match ju [] false rest with
     | none=>([],4)
     | some (v,r2,ok)=>if ok=false then ([],4) else match r2 with
       | []=>(out++[now++[(typ,v)]],0)
       | c::s'=>if c=44 then Bt f (out++[now++[(typ,v)]]) [] s' else Bt f out (now++[(typ,v)]) s'
def D2 (s:List UInt8):List Rdn×Int:=if 4096<s.length then ([],5) else if s=[] then ([],0) else Bt (s.length+1) [] [] s
section
variable {P:Program} {N:Nat} {own:Nat->Nat->Nat} {Q:Exit->Tm->List Blk->Prop} {T:Tm} {L:List Blk}
end
set_option maxHeartbeats 8000000
set_option maxRecDepth 100000
theorem qV (r:Rdn):AV.frzL (bE r)=bE r:=by
 induction r with
 | nil=>rfl
 | cons a r ih=>simpa [bE,qW,AV.frzL,AV.frz] using ih
theorem kz (d:List Rdn):AV.frzL (d.map aI)=d.map aI:=by
 rw [AV.frzL_eq,FR];refine Gp fun r _=>?_
 simp only [Function.comp,AV.frz,qV]
theorem zn (q:Nat->Bool) (r:Rdn):AV.refsL q (bE r)=true:=by
 induction r with
 | nil=>rfl
 | cons a r ih=>simpa [bE,qW,AV.refsL,AV.refs] using ih
theorem iH (q:Nat->Bool):∀ d:List Rdn,AV.refsL q (d.map aI)=true
 | []=>rfl
 | r::d=>by simp only [FQ,AV.refsL,AV.refs,zn,iH q d,Bool.and_self]
theorem vw {s:List UInt8} (h:ll s=true):s.length<=32:=by
 simp only [ll,FG,decide_eq_true_eq] at h;exact h.1.1.2
variable {L:List Blk} {K:Fw}
def cS:Rdn->Rdn->Int
 | _,[]=>0
 | done,a::t=>if done.length=8 then 9 else if ll a.1=false then 20 else if nE done a.1=true then 21 else cS (done++[a]) t
def gk:Nat->List Rdn->Int
 | _,[]=>0
 | i,r::t=>if i=32 then 9 else if r=[] then 2 else if cS [] r≠0 then cS [] r else gk (i+1) t
theorem oI {d:List Rdn} {k:Nat} (h:k<d.length):(d.map aI).getD k .undef=aI (d.getD k []):=by simp [h]
theorem zm {r:Rdn} {k:Nat}:(bE r).take (k * 2)=bE (r.take k):=by
 induction r generalizing k with
 | nil=>simp [bE]
 | cons a r ih =>
   cases k with
   | zero=>simp [bE]
   | succ k =>
     have:=@ih k;simp only [bE] at this;rw [show (k+1) * 2=k * 2+1+1 by omega];simp [bE,qW,this]
theorem Ea {r:Rdn} {typ:List UInt8} {n:Nat} {cap:Option Nat} (hr:r.length=n) (hn:n<=8) (h1:∀ a∈r,a.1.length<=32) (h2:typ.length<=32) (h:K (.bool (nE r typ)) L) :
  Fv 41 [.sl (bE r) n cap,.str typ] L K:=by
 subst hr;exact EK (by omega) (fun a ha=>by have:=h1 a ha;omega) (by omega) h
theorem Dc {d:List Rdn} {cap:Option Nat} (hn:d.length<=1100000) (hr:∀ r∈d,r.length<=1100000) (h:K (.int .i64 (gk 0 d)) L):Fv 28 [.sl (d.map aI) d.length cap] L K:=by
 replace h:=hid h;have hat:=hid (fun k=>@oI d k);replace hr:=hid hr;refine Fu tU ?_;refine aM (fun n T' L'=>∃ (i:Nat) (X:List Blk),n=d.length - i/\i<=d.length/\i<=32/\Hid (gk i (d.drop i)=gk 0 d)/\T'=[(9,.int .i64 (i:Int)),(8,.int .i64 d.length),(7,.sl (d.map aI) d.length cap)]/\L'=L++X) (CutS (b:=by simp)) ⟨0,[],rfl,FW _,by omega,hid rfl,rfl,by simp⟩ ?_;rintro _ _ _ ⟨i,X,rfl,hi,hi32,he,rfl,rfl⟩;by_cases hlt:i<d.length
 ·have g1:(i:Int)<(d.length:Int):=by omega
  have g2:=Ft i (by omega);have e2:=hat.out i hlt;have hrl:=hr.out (d.getD i []) (by rw [F4,FN hlt];exact GV _);obtain ⟨r,hri⟩:=Fq (d.getD i []);have hdr:d.drop i=r::d.drop (i+1):=by rw [GZ hlt,<- hri];simp [hlt]
  rw [hri] at e2 hrl;have he2:=he.out;rw [hdr,gk] at he2;clear hdr hri;by_cases h32:i=32
  ·rw [if_pos h32] at he2;have h':=h.out;rw [<- he2] at h';replace h':=hid h';have k1:(i:Int)=32:=by omega
   have g1':(32:Int)<(d.length:Int):=by omega
   clear h32 he2;refine wk ?_;exact ah rfl h'.out
  rw [if_neg h32] at he2;have k1:¬ (i:Int)=32:=by omega
  by_cases hr0:r=[]
  ·rw [if_pos hr0] at he2;subst hr0;have h':=h.out;rw [<- he2] at h';replace h':=hid h';clear h32 he2;refine wk ?_;exact ah rfl h'.out
  rw [if_neg hr0] at he2;have k2:¬ (r.length:Int)=0:=by have:=Gn.2 hr0;omega
  have herr:∀ e:Int,cS [] r=e->e≠0->K (.int .i64 e) L:=fun e a1 a2=>by
   rw [if_pos (by rw [a1];exact a2),a1] at he2;rw [he2];exact h.out
  replace herr:=hid herr;replace he2:=hid he2;clear h32;refine wk ?_;refine aM (fun n T' L'=>∃ (k:Nat) (Y:List Blk),n=r.length - k/\k<=r.length/\k<=8/\Hid (cS (r.take k) (r.drop k)=cS [] r/\∀ a∈r.take k,a.1.length<=32)/\T'=[(23,.int .i64 (k:Int)),(22,.int .i64 r.length),(21,aI r),(4,aI r),(9,.int .i64 (i:Int)),(8,.int .i64 d.length),(7,.sl (d.map aI) d.length cap)]/\L'=L++(X++Y)) (CutS (b:=by simp)) ⟨0,[],rfl,FW _,by omega,hid ⟨rfl,by simp⟩,rfl,by simp⟩ ?_;rintro _ _ _ ⟨k,Y,rfl,hk,hk8,hrow,rfl,rfl⟩;by_cases hkl:k<r.length
  ·have g3:(k:Int)<(r.length:Int):=by omega
   have g4:=Ft k (by omega);have e3:=jq hkl;have e4:k * 2+2<=(bE r).length:=by rw [dS];omega
   obtain ⟨⟨ty,va⟩,ha⟩:∃ a,r.getD k ([],[])=a:=⟨_,rfl⟩;have hdk:r.drop k=(ty,va)::r.drop (k+1):=by rw [GZ hkl,<- ha];simp [hkl]
   have htk:r.take (k+1)=r.take k++[(ty,va)]:=by rw [Gc hkl,<- ha];simp [hkl]
   rw [ha] at e3;simp only [qW] at e3;obtain ⟨hr1,hr2⟩:=hrow.out;rw [hdk,cS] at hr1;have hlk:(r.take k).length=k:=by simp;omega
   rw [hlk] at hr1;clear hdk ha hrow;have e5:(bE r).take (k * 2)=bE (r.take k):=zm;have g5:(k:Int)<=(r.length:Int):=by omega
   replace hr1:=hid hr1;replace hr2:=hid hr2;replace htk:=hid htk;have e6:=hid hlk;clear hlk
   repeat' first
    | refine ku ?_
    | (first|refine iC (by kernel_rfl) ?_|refine eX (by kernel_rfl) ?_|refine fa ?_|refine qE ?_|refine lE (fun _=>?_)|refine dU ?_|refine iF ?_)
      refine sm ?_
    | (first|refine iy (by kernel_rfl) ?_|refine fV ?_|refine eZ ?_|refine iE ?_|refine lK (dT ?_))
      refine sl ?_
    | exact lF
    | first|apply lH|apply iz|apply lI|apply iA|apply lJ|apply iB
    | refine fe ?_
    | refine eY ?_
    | first|refine fb rfl ?_|refine fc rfl ?_|refine dA rfl ?_ ?_|refine gp rfl (fun _=>?_) (fun _=>?_)|refine gm rfl (fun _=>?_) (fun _=>?_)
    | ((first|refine dy (fun _=>?_) (fun _=>?_)|refine dN (fun _=>?_) (fun _=>?_))<;>try refine sm ?_)
    | refine And.intro trivial ?_
    | refine And.intro (by omega) ?_
    | refine dV rfl (fun _=>?_) (fun _=>?_)
    | refine And.intro ?_ ?_
   ·rename_i h8
    have h':=herr.out 9 (by rw [<- hr1.out,if_pos (by omega)]) (by decide);exact ah rfl h'
   ·rename_i h8
    have hr3:=hr1.out;rw [if_neg (by omega)] at hr3;refine DX ?_;cases hty:ll ty with
    | false =>
      have h':=hid (herr.out 20 (by rw [<- hr3,if_pos hty]) (by decide));clear hr3;refine sk ?_;refine wk ?_;exact ah rfl h'.out
    | true =>
      rw [if_neg (by rw [hty];simp)] at hr3;replace hr3:=hid hr3;have htl:=vw hty;refine sk ?_
      repeat' first
       | refine ku ?_
       | (first|refine iC (by kernel_rfl) ?_|refine eX (by kernel_rfl) ?_|refine fa ?_|refine qE ?_|refine lE (fun _=>?_)|refine dU ?_|refine iF ?_)
         refine sm ?_
       | (first|refine iy (by kernel_rfl) ?_|refine fV ?_|refine eZ ?_|refine iE ?_|refine lK (dT ?_))
         refine sl ?_
       | exact lF
       | first|apply lH|apply iz|apply lI|apply iA|apply lJ|apply iB
       | refine fe ?_
       | refine eY ?_
       | first|refine fb rfl ?_|refine fc rfl ?_|refine dA rfl ?_ ?_|refine gp rfl (fun _=>?_) (fun _=>?_)|refine gm rfl (fun _=>?_) (fun _=>?_)
       | ((first|refine dy (fun _=>?_) (fun _=>?_)|refine dN (fun _=>?_) (fun _=>?_))<;>try refine sm ?_)
       | refine And.intro trivial ?_
       | refine And.intro (by omega) ?_
       | refine dV rfl (fun _=>?_) (fun _=>?_)
       | refine And.intro ?_ ?_
      refine bB (Ea e6.out (by omega) hr2.out htl ⟨rfl,rfl⟩) ?_;cases hha:nE (r.take k) ty with
      | true =>
        have h':=hid (herr.out 21 (by rw [<- hr3.out,if_pos hha]) (by decide));refine sk ?_;refine wk ?_;exact ah rfl h'.out
      | false =>
        have hr4:=hr3.out;rw [if_neg (by rw [hha];simp),<- htk.out] at hr4;replace hr4:=hid hr4;clear hr3;refine sk ?_;refine wk ?_;refine aJ _ _ _ (by omega) (CutS (b:=by simp)) ⟨k+1,Y++[.cells [.str ty,.str va]],rfl,hkl,by omega,hid ⟨hr4.out,fun a ha=>?_⟩,rfl,by simp⟩;rw [htk.out] at ha;rcases FE.1 ha with h|h
        ·exact hr2.out a h
        ·rw [FM.1 h];exact htl
  ·have hke:k=r.length:=by omega
   subst hke;have g3:¬ (r.length:Int)<(r.length:Int):=by omega
   have hz:=hrow.out.1;rw [List.drop_length,cS] at hz;have he3:=he2.out;rw [<- hz] at he3;simp only [ne_eq,not_true_eq_false,if_false] at he3;replace he3:=hid he3;clear hz;refine wk ?_;exact aJ _ _ _ (by omega) (CutS (b:=by simp)) ⟨i+1,X++Y,rfl,hlt,by omega,hid he3.out,rfl,rfl⟩
 ·have hke:i=d.length:=by omega
  subst hke;have g1:¬ (d.length:Int)<(d.length:Int):=by omega
  have h':=h.out;rw [<- he.out,List.drop_length,gk] at h';replace h':=hid h';refine wk ?_;exact ah rfl h'.out
end Go.Proofs.Ytobihfefmlgaoaa.Av
namespace Go.Proofs
open Go.Shelf
def Try.lays190_ren:Go.Shelf.Ren:=⟨fun|190=>45|125=>33|258=>69|128=>55|129=>56|302=>81|303=>82|304=>83|305=>84|306=>85|307=>86|308=>87|309=>88|310=>89|333=>94|329=>71|330=>72|334=>95|335=>96|336=>57|344=>97|n=>n,fun|31=>53|9=>9|3=>3|46=>79|0=>0|51=>100|53=>102|4=>4|183=>93|182=>92|131=>97|5=>5|218=>126|222=>130|228=>142|229=>143|n=>n,fun|n=>n⟩
theorem Try.lays190:Go.Proofs.Lays.n190 Try.prog Try.lays190_ren:={
 mixed:=by kernel_rfl
 f125:=Try.func33.trans (congrArg some (by kernel_rfl))
 f128:=Try.func55.trans (congrArg some (by kernel_rfl))
 f129:=Try.func56.trans (congrArg some (by kernel_rfl))
 f190:=Try.func45.trans (congrArg some (by kernel_rfl))
 f258:=Try.func69.trans (congrArg some (by kernel_rfl))
 f302:=Try.func81.trans (congrArg some (by kernel_rfl))
 f303:=Try.func82.trans (congrArg some (by kernel_rfl))
 f304:=Try.func83.trans (congrArg some (by kernel_rfl))
 f305:=Try.func84.trans (congrArg some (by kernel_rfl))
 f306:=Try.func85.trans (congrArg some (by kernel_rfl))
 f307:=Try.func86.trans (congrArg some (by kernel_rfl))
 f308:=Try.func87.trans (congrArg some (by kernel_rfl))
 f309:=Try.func88.trans (congrArg some (by kernel_rfl))
 f310:=Try.func89.trans (congrArg some (by kernel_rfl))
 f329:=Try.func71.trans (congrArg some (by kernel_rfl))
 f330:=Try.func72.trans (congrArg some (by kernel_rfl))
 f333:=Try.func94.trans (congrArg some (by kernel_rfl))
 f334:=Try.func95.trans (congrArg some (by kernel_rfl))
 f335:=Try.func96.trans (congrArg some (by kernel_rfl))
 f336:=Try.func57.trans (congrArg some (by kernel_rfl))
 f344:=Try.func97.trans (congrArg some (by kernel_rfl))
 t0:=Try.underlying0
 a0:=Try.isAgg0
 z0:=Try.sizeOf0
 v0:=Try.zeroValue0
 t3:=Try.underlying3
 a3:=Try.isAgg3
 z3:=Try.sizeOf3
 v3:=Try.zeroValue3
 t4:=Try.underlying4
 a4:=Try.isAgg4
 z4:=Try.sizeOf4
 v4:=Try.zeroValue4
 t5:=Try.underlying5
 a5:=Try.isAgg5
 z5:=Try.sizeOf5
 v5:=Try.zeroValue5
 t9:=Try.underlying9
 a9:=Try.isAgg9
 z9:=Try.sizeOf9
 v9:=Try.zeroValue9
 t31:=Try.underlying53
 a31:=Try.isAgg53
 z31:=Try.sizeOf53
 v31:=Try.zeroValue53
 t46:=Try.underlying79
 a46:=Try.isAgg79
 z46:=Try.sizeOf79
 v46:=Try.zeroValue79
 t51:=Try.underlying100
 a51:=Try.isAgg100
 z51:=Try.sizeOf100
 v51:=Try.zeroValue100
 t53:=Try.underlying102
 a53:=Try.isAgg102
 z53:=Try.sizeOf102
 v53:=Try.zeroValue102
 t131:=Try.underlying97
 a131:=Try.isAgg97
 z131:=Try.sizeOf97
 v131:=Try.zeroValue97
 t182:=Try.underlying92
 a182:=Try.isAgg92
 z182:=Try.sizeOf92
 v182:=Try.zeroValue92
 t183:=Try.underlying93
 a183:=Try.isAgg93
 z183:=Try.sizeOf93
 v183:=Try.zeroValue93
 t218:=Try.underlying126
 a218:=Try.isAgg126
 z218:=Try.sizeOf126
 v218:=Try.zeroValue126
 t222:=Try.underlying130
 a222:=Try.isAgg130
 z222:=Try.sizeOf130
 v222:=Try.zeroValue130
 t228:=Try.underlying142
 a228:=Try.isAgg142
 z228:=Try.sizeOf142
 v228:=Try.zeroValue142
 t229:=Try.underlying143
 a229:=Try.isAgg143
 z229:=Try.sizeOf143
 v229:=Try.zeroValue143 }
open Go.Sort Go.RowKit in
theorem Try.slices_Sort_string (blk off cap:Nat) (ss:List (List UInt8)) (w:World) (hH:Holds encStr w blk off ss.toArray) (hblk:blk<w.heap.size) (hsz:ss.length<4611686018427387904) :
 Calls Try.prog 45 #[.slice (some ⟨blk,off,none⟩) ss.length cap] w fun e w' =>
  e=.returned (.tuple #[])/\∃ n os,w'=grow (putRow encStr (Sort.ahead w n) blk off (ss.mergeSort fun x y=>decide (x<=y)).toArray) os:=Any.slices_Sort_string Try.lays190 blk off cap ss w hH hblk hsz
open Go.RowKit Go.Sort in
theorem Try.slices_Sort_string_none (p:Option Addr) (cap:Nat) (w:World) :
 Calls Try.prog 45 #[.slice p 0 cap] w fun e w'=>e=.returned (.tuple #[])/\w'=w:=Any.slices_Sort_string_none Try.lays190 p cap w
end Go.Proofs
