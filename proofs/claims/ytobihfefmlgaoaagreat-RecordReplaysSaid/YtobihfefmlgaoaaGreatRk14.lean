/- Joined texts of the walk, made small by a program. -/
import Derived.Shelf.Strings.Builder1
import Derived.Shelf.Strings.Builder2
import Derived.Shelf.Strings.OnBuilder
import Derived.Shelf.Small.Bits
import Derived.Shelf.Small.Strs
import Derived.Shelf.Strconv.Itoa0
import Derived.Shelf.Strings.Search1
import Derived.Shelf.Strings.Search2
import Derived.Shelf.Strings.Cut
import Derived.Shelf.LaysM
import Derived.Shelf.Strings.Shaped
import Derived.Shelf.Slices.Equal
import Derived.Ground.SlsfProg
import Derived.Shelf.SlSortCmp.Insertion
import Derived.Shelf.SlSortCmp.SiftDown1
import Derived.Shelf.SlSortCmp.HeapSort1
import Derived.Shelf.SlSortCmp.Insertion1
import Derived.Shelf.SlSortCmp.Median1
import Derived.Shelf.SlSortCmp.Pivot1
import Derived.Shelf.SlSortCmp.ReverseRange1
import Derived.Shelf.SlSortCmp.PartialInsertion1
import Derived.Shelf.SlSortCmp.PartitionEqual1
import Derived.Shelf.SlSortCmp.Partition1
import Derived.Shelf.Spec.SlicesGrow
import Derived.Ground.Names8Prog
import Derived.Test.YtobihfefmlgaoaaGreatProg
import Derived.Test.YtobihfefmlgaoaaGreatRk4
import Derived.Test.YtobihfefmlgaoaaGreatRows
import Derived.KernelRfl
import Derived.Test.YtobihfefmlgaoaaGreatRk9
import Derived.Test.YtobihfefmlgaoaaGreatRk10
import Derived.Test.YtobihfefmlgaoaaGreatRk5
import Derived.Test.YtobihfefmlgaoaaGreatRk13
set_option linter.unusedSimpArgs false
set_option linter.unusedVariables false
namespace Go.Proofs
open Go.Shelf
def Tryz.growD_ren:Go.Shelf.Ren:=⟨fun|4=>91|n=>n,fun|22=>23|25=>43|3=>3|4=>4|9=>9|20=>20|0=>0|n=>n,fun|n=>n⟩
theorem Tryz.growD:Go.Proofs.Lays8.n4 Tryz.prog Tryz.growD_ren:={
 mixed:=by kernel_rfl
 f4:=⟨Tryz.f91.name,by decide,Tryz.func91.trans (congrArg some (by kernel_rfl))⟩
 t0:=Tryz.underlying0
 a0:=Tryz.isAgg0
 z0:=Tryz.sizeOf0
 v0:=Tryz.zeroValue0
 t3:=Tryz.underlying3
 a3:=Tryz.isAgg3
 z3:=Tryz.sizeOf3
 v3:=Tryz.zeroValue3
 t4:=Tryz.underlying4
 a4:=Tryz.isAgg4
 z4:=Tryz.sizeOf4
 v4:=Tryz.zeroValue4
 t9:=Tryz.underlying9
 a9:=Tryz.isAgg9
 z9:=Tryz.sizeOf9
 v9:=Tryz.zeroValue9
 t20:=Tryz.underlying20
 a20:=Tryz.isAgg20
 z20:=Tryz.sizeOf20
 v20:=Tryz.zeroValue20
 t22:=Tryz.underlying23
 a22:=Tryz.isAgg23
 z22:=Tryz.sizeOf23
 v22:=Tryz.zeroValue23 }
end Go.Proofs
set_option maxRecDepth 100000
namespace Go.Proofs.YtobihfefmlgaoaaGreat.Av
open Go
def Gb:LSO:=[A8 1 0,Bj 2]
def Ga:LSO:=[Ad 6 0 1,Ab 7 1 6,A0 8 7 4]
def F9:LSO:=[Ad 9 2 1,o0 (.store 1 (tm 9) (.av (.sl [] 0 (some 0))))]
def F8:LSO:=[Ad 10 0 1,Ab 11 1 10,Au 12 11 2]
def F7:LSO:=[Ad 13 3 1,o0 (.store 1 (tm 13) (.av (.sl [] 0 (some 0))))]
def F6:List (am×Kd) :=
 [Aw 14 0 1,Ax 15 1 14 0 1,Aw 16 1 1,Ax 17 1 16 0 1,od 18 (.call 25 [(tm 17),(.av (.sl [] 0 (some 0)))]) (.read 0 1),Aw 19 2 1,Ax 20 1 19 0 1,
 od 21 (.call 25 [(tm 20),(.av (.sl [] 0 (some 0)))]) (.read 0 1),
 od 22 (.build [(.int .i64 0),(.sl [] 0 (some 0)),(.sl [] 0 (some 0)),(.sl [] 0 (some 0))] [(0,(1,(tm 15))),(1,(1,(tm 18))),(2,(1,(tm 21)))]) .pure,
 od 3 (.alloc [(.int .i64 0),(.sl [] 0 (some 0)),(.sl [] 0 (some 0)),(.sl [] 0 (some 0))]) .eff]
def ye:List am :=
 [⟨none,(.store 4 (tm 3) (tm 22)),none⟩]
def F5:LSO:=[Ad 23 3 1,Ab 24 1 23,Ae 25 24,Ac 26 0]
def F4:LSO:=[Ak 27 26 25]
def F3:LSO:=[Al 28 2 24 26,As 29 2 28,Br 5,Af 2 5 29]
def F2:List (am×Kd) :=
 [Aw 30 3 3,Ax 31 1 30 0 1,Aw 32 0 5,Ax 33 1 32 0 1,Aw 34 1 5,Ax 35 1 34 0 0,od 36 (.app 0 1 16 [(.str [])] (.av (.sl [] 0 (some 0))) (tm 35)) .eff,BZ 37 33 36,Ca 38 37 0 0]
def yd:List am :=
 [⟨(some 39),(.app 1 2 40 [(.str []),(.sl [] 0 (some 0))] (tm 31) (tm 38)),none⟩,⟨(some 40),(.faddr 3 (tm 3)),none⟩,⟨none,(.store 1 (tm 40) (tm 39)),none⟩]
def yg:LSO:=[Ah 41 26 1,Aa 26 41]
def yf:LSO:=[As 42 4 3,Af 4 2 42]
def uJ:aS:=⟨43,(.seq (.sreg Gb [])
 (.seq (.seq (.sreg Ga Cq)
 (.cond (tm 8) (.sreg F9 CA)
 .skip))
 (.seq (.seq (.sreg F8 Cq)
 (.cond (tm 12) (.sreg F7 CA)
 .skip))
 (.seq (.dregM F6 ye Cy)
 (.seq (.seq (.sreg F5 C4)
 (.block 0 (.loop (.seq (.sreg F4 [])
 (.seq (.cond (tm 27) .skip
 (.exit 0))
 (.seq (.block 1 (.seq (.sreg F3 Cq)
 (.dregM F2 yd CL)))
 (.sreg yg Cp)))))))
 (.seq (.sreg yf CA)
 .ret)))))),[(.cell true 4 2)]⟩
attribute [push_cast] Gb Ga F9 F8 F7 F6 ye F5 F4 F3 F2 yd yg yf
theorem Rg:aT Tryz.prog (fun r i=>if r=9/\i=6 then 0 else 1) 72=some uJ.raw:=by kernel_rfl
def FR:LSO:=[Bj 2,Ac 3 0]
def FQ:LSO:=[Aa 11 0,Aj 12 70 11,Aa 10 12,Aq 13 10,Ar 14 10,A7 4,Af 3 4 13,Aa 5 14]
def FP:LSO:=[Aa 15 5,A0 16 15 0]
def FO:LSO:=[AO 17,Aa 18 5,Af 4 2 17,Aa 3 18]
def FN:LSO:=[As 20 3 4,Aj 21 71 20,Aa 19 21,Aq 22 19,Ar 23 19,Bj 6,Af 4 6 22,Aa 7 23]
def FM:LSO:=[Aa 24 7,AA 25 24]
def FL:LSO:=[AO 26,Af 4 2 26,Ac 3 4]
def FK:LSO:=[As 28 4 6,Aj 29 34 28,Aa 27 29,Aq 30 27,Ar 31 27,Aa 8 30,Aa 9 31]
def FJ:LSO:=[Aa 32 9,A0 33 32 0,Aa 34 33,.grp none 34 false
 [Ag 35 34 8,Ag 36 34 0,BF 37 34 35 36]
 38 (tm 37)]
def FI:LSO:=[AO 39,Af 4 2 39,Ac 3 4]
def yc:LSO:=[As 40 4 6,Aj 41 72 40,Af 4 2 41,Ac 3 0]
def cw:aS:=⟨42,(.seq (.sreg FR [])
 (.seq (.sreg FQ Cx)
 (.seq (.seq (.sreg FP Cp)
 (.cond (tm 16) (.seq (.sreg FO Cq)
 .ret)
 .skip))
 (.seq (.sreg FN Cx)
 (.seq (.seq (.sreg FM Cp)
 (.cond (tm 25) (.seq (.sreg FL Cp)
 .ret)
 .skip))
 (.seq (.seq (.sreg FK Cx)
 (.seq (.sreg FJ Cr)
 (.cond (tm 38) (.seq (.sreg FI Cp)
 .ret)
 .skip)))
 (.seq (.sreg yc Cq)
 .ret))))))),[(.cell true 4 2),(.tmp 3)]⟩
attribute [push_cast] FR FQ FP FO FN FM FL FK FJ FI yc
theorem fU:aT Tryz.prog (fun _ _=>1) 37=some cw.raw:=by kernel_rfl
def FH:LSO:=[A8 1 0,Bj 2,An 3]
def FG:LSO:=[Ad 18 2 1,Ab 19 1 18,Aa 4 19]
def FF:LSO:=[Aa 20 4,Ae 21 20,AB 22 21 2,Aa 23 22,.grp none 23 false
 [Ag 24 23 4,AH 25 23 24,AD 26 23 25 4]
 27 (tm 26)]
def FE:LSO:=[AO 28,Af 4 2 28,An 3]
def FD:LSO:=[Aa 30 4,B0 31 3 30 0,Ad 32 1 31,Ab 33 1 32,Aj 34 105 33,Aa 29 34,Aq 35 29,Ar 36 29,Aa 5 35,Aa 6 36]
def FC:LSO:=[Aa 37 6,AA 38 37]
def FB:LSO:=[AO 39,Af 4 2 39,An 3]
def FA:LSO:=[Aa 40 5,o1 41 (.build [(.int .i64 0),(.sl [] 0 (some 0)),(.sl [] 0 (some 0)),(.sl [] 0 (some 0))] [(0,(1,(tm 40)))]),Bj 7,Af 4 7 41]
def Fz:LSO:=[Ac 8 0,Ac 9 0]
def Fy:LSO:=[Aa 43 4,B0 44 3 43 1,Ad 45 1 44,Ab 46 1 45,Aj 47 106 46,Aa 42 47,Aq 48 42,Ar 49 42,Ad 50 1 7,Af 1 50 48,Aa 8 49]
def xS:LSO:=[Aa 51 4,o1 52 (.slV 3 (tm 51) (some (iv 2)) none none),Aa 10 52]
def xR:LSO:=[Ad 53 0 7,Ab 54 1 53,Au 55 54 4,Aa 56 55,.grp none 56 true
 [Ai 57 56 10,AU 58 56 57,BC 59 56 58 0]
 60 (tm 59)]
def xQ:LSO:=[Aa 62 10,B0 63 3 62 0,Ad 64 1 63,Ab 65 1 64,Aj 66 106 65,Aa 61 66,Aq 67 61,Ar 68 61,Ad 69 2 7,Af 1 69 67,Aa 9 68]
def xP:LSO:=[Aa 70 10,o1 71 (.slV 3 (tm 70) (some (iv 1)) none none),Aa 10 71]
def xO:LSO:=[Aa 72 8,A0 73 72 0,Aa 74 73,.grp none 74 false
 [Ag 75 74 9,Bv 76 74 75 0]
 77 (tm 76),Aa 78 77,.grp none 78 false
 [Ag 79 78 10,AH 80 78 79,AD 81 78 80 1]
 82 (tm 81)]
def xN:LSO:=[AO 83,Af 4 2 83,An 3]
def xM:LSO:=[Aa 84 10,Ae 85 84,Ac 86 0]
def xL:LSO:=[Ak 87 86 85]
def xK:LSO:=[Al 88 3 84 86,As 89 3 88,A7 12,Af 3 12 89]
def xJ:LSO:=[Ad 90 2 12,Ab 91 1 90,Ae 92 91,Ac 93 0]
def xI:LSO:=[Ak 94 93 92]
def xH:LSO:=[Al 95 3 91 93,As 96 3 95,A7 14,Af 3 14 96]
def xG:LSO:=[Ad 97 2 14,Ab 98 1 97,Ae 99 98,A0 100 99 2]
def xF:LSO:=[AO 101,Af 4 2 101,An 3]
def xE:LSO:=[Ad 102 2 14,Ab 103 1 102,B0 104 3 103 0,Ad 105 1 104,Ab 106 1 105,o1 107 (.build [(.str []),(.sl [] 0 (some 0))] [(0,(1,(tm 106)))]),Br 15,Af 2 15 107]
def xD:LSO:=[Ad 108 2 14,Ab 109 1 108,B0 110 3 109 1,Ad 111 2 110,Ab 112 1 111,Ae 113 112,Ac 114 0]
def xC:LSO:=[Ak 115 114 113]
def xB:LSO:=[Al 116 3 112 114,As 117 3 116,A7 17,Af 3 17 117]
def xA:LSO:=[Ad 118 1 15,Ab 119 1 118,Ad 120 1 17,Ab 121 1 120,Bb 122 121,B5 123 119 122,Ad 124 1 15,Af 1 124 123]
def xz:LSO:=[Ah 125 114 1,Aa 114 125]
def xy:LSO:=[Ad 126 3 7,Ab 127 1 126,As 128 2 15,o1 129 (.bslice false 2 1 [(.str []),(.sl [] 0 (some 0))] [(0,(2,(tm 128)))]),
 o1 130 (.app 1 2 40 [(.str []),(.sl [] 0 (some 0))] (tm 127) (tm 129)),Ad 131 3 7,Af 1 131 130]
def xx:LSO:=[Ah 132 93 1,Aa 93 132]
def xw:LSO:=[Ah 133 86 1,Aa 86 133]
def xu:LSO:=[As 134 4 7,Af 4 2 134,AC 3]
def di:aS:=⟨135,(.seq (.sreg FH [])
 (.seq (.sreg FG Cq)
 (.seq (.seq (.sreg FF Cs)
 (.cond (tm 27) (.seq (.sreg FE Cp)
 .ret)
 .skip))
 (.seq (.sreg FD CO)
 (.seq (.seq (.sreg FC Cp)
 (.cond (tm 38) (.seq (.sreg FB Cp)
 .ret)
 .skip))
 (.seq (.sreg FA Cq)
 (.seq (.sreg Fz [])
 (.seq (.sreg Fy Cy)
 (.seq (.sreg xS Cq)
 (.seq (.seq (.sreg xR Cs)
 (.cond (tm 60) (.seq (.sreg xQ Cy)
 (.sreg xP Cq))
 .skip))
 (.seq (.seq (.sreg xO Ct)
 (.cond (tm 82) (.seq (.sreg xN Cp)
 .ret)
 .skip))
 (.seq (.seq (.sreg xM [])
 (.block 0 (.loop (.seq (.sreg xL [])
 (.seq (.cond (tm 87) .skip
 (.exit 0))
 (.seq (.block 1 (.seq (.sreg xK Cq)
 (.seq (.sreg xJ C4)
 (.block 2 (.loop (.seq (.sreg xI [])
 (.seq (.cond (tm 94) .skip
 (.exit 2))
 (.seq (.block 3 (.seq (.sreg xH Cq)
 (.seq (.seq (.sreg xG Cr)
 (.cond (tm 100) (.seq (.sreg xF Cp)
 .ret)
 .skip))
 (.seq (.sreg xE Cu)
 (.seq (.seq (.sreg xD CI)
 (.block 4 (.loop (.seq (.sreg xC [])
 (.seq (.cond (tm 115) .skip
 (.exit 4))
 (.seq (.block 5 (.seq (.sreg xB Cq)
 (.sreg xA C7)))
 (.sreg xz Cp)))))))
 (.sreg xy CJ))))))
 (.sreg xx Cp)))))))))
 (.sreg xw Cp)))))))
 (.seq (.sreg xu Cp)
 .ret))))))))))))),[(.cell true 4 2),(.tmp 3)]⟩
attribute [push_cast] FH FG FF FE FD FC FB FA Fz Fy xS xR xQ xP xO xN xM xL xK xJ xI xH xG xF xE xD xC xB xA xz xy xx xw xu
theorem ig:aT Tryz.prog (fun _ _=>1) 71=some di.raw:=by kernel_rfl
def ue:LSO:=[Ac 4 0,Ac 5 0]
def uc:LSO:=[Aa 10 0,Bk 11 10]
def ub:LSO:=[Ac 4 0,Ac 5 1]
def t8:LSO:=[Aa 12 1,Ae 13 12,Ac 14 0]
def t7:LSO:=[Ak 15 14 13]
def tZ:LSO:=[Aa 16 14,Al 17 1 12 14,Ab 18 1 17,Aa 6 16,Aa 7 18]
def tY:LSO:=[Aa 20 7,Aj 21 37 20,Aa 19 21,Aq 22 19,Ar 23 19,Bj 8,Af 4 8 22,Aa 9 23]
def tX:LSO:=[Aa 24 9,A0 25 24 0]
def tW:LSO:=[Aa 26 6,Aa 27 9,Aa 4 26,Aa 5 27]
def tV:LSO:=[Aa 28 0,As 29 4 8,Ay 30 20 28 29,A0 31 30 0]
def rD:LSO:=[Aa 32 6,Aa 4 32,Ac 5 4]
def rC:LSO:=[Ah 33 14 1,Aa 14 33]
def rB:LSO:=[Aa 34 1,Ae 35 34,Aa 4 35,Ac 5 0]
def cC:aS:=⟨36,(.seq (.sreg ue [])
 (.seq (.seq (.sreg uc Cp)
 (.cond (tm 11) (.seq (.sreg ub [])
 .ret)
 .skip))
 (.seq (.seq (.sreg t8 [])
 (.block 0 (.loop (.seq (.sreg t7 [])
 (.seq (.cond (tm 15) .skip
 (.exit 0))
 (.seq (.block 1 (.seq (.sreg tZ Cz)
 (.seq (.sreg tY Cx)
 (.seq (.seq (.sreg tX Cp)
 (.cond (tm 25) (.seq (.sreg tW C2)
 .ret)
 .skip))
 (.seq (.sreg tV Cr)
 (.cond (tm 31) (.seq (.sreg rD Cv)
 .ret)
 .skip))))))
 (.sreg rC Cp)))))))
 (.seq (.sreg rB C2)
 .ret)))),[(.tmp 4),(.tmp 5)]⟩
attribute [push_cast] ue uc ub t8 t7 tZ tY tX tW tV rD rC rB
theorem gk:aT Tryz.prog (fun _ _=>1) 15=some cC.raw:=by kernel_rfl
def Sf:LSO:=[Ap 4]
def Se:LSO:=[Ap 5]
def Sd:LSO:=[Aa 8 1,Aa 9 0,o1 10 (.bslice false 1 2 [(.sl [] 0 (some 0)),(.sl [] 0 (some 0))] [(0,(1,(tm 8))),(1,(1,(tm 9)))]),Aj 11 54 10,Ae 12 11,Ac 13 0]
def Sc:LSO:=[Ak 14 13 12]
def Sb:LSO:=[Al 15 1 11 13,Ab 16 1 15,Aa 7 16]
def Sa:LSO:=[Aa 17 5,Aa 18 7,o1 19 (.app 0 2 32 [(.str []),(.str [])] (.av (.sl [] 0 (some 0))) (tm 18)),Be 20 19,Bg 21 17 20,Aa 5 21]
def R9:LSO:=[Ah 22 13 1,Aa 13 22]
def R8:LSO:=[Aa 23 5,Aa 4 23]
def yK:aS:=⟨24,(.seq (.sreg Sf [])
 (.seq (.sreg Se [])
 (.seq (.seq (.sreg Sd CB)
 (.block 0 (.loop (.seq (.sreg Sc [])
 (.seq (.cond (tm 14) .skip
 (.exit 0))
 (.seq (.block 1 (.seq (.sreg Sb Cq)
 (.sreg Sa Ct)))
 (.sreg R9 Cp)))))))
 (.seq (.sreg R8 Cp)
 .ret)))),[(.tmp 4)]⟩
attribute [push_cast] Sf Se Sd Sc Sb Sa R9 R8
theorem QK:aT Tryz.prog (fun r i=>if r=5/\i=2 then 0 else 1) 25=some yK.raw:=by kernel_rfl
def eW:LSO:=[Ap 2]
def eV:LSO:=[Ac 3 0]
def eU:LSO:=[Aa 9 0,Ae 10 9,Ac 11 0]
def eT:LSO:=[Ak 12 11 10]
def eS:LSO:=[Al 13 1 9 11,Ab 14 1 13,Aa 5 14]
def eR:LSO:=[Aa 15 3,Aa 16 5,Ae 17 16,AK 18 15 17,Aa 3 18]
def eQ:LSO:=[Aa 19 3,AB 20 19 0]
def eP:LSO:=[o1 21 (.mkif 9 (.av (.str [108,101,110,32,111,117,116,32,111,102,32,114,97,110,103,101]))),
 .op ⟨none,.bad,none⟩]
def eO:LSO:=[Ah 22 11 1,Aa 11 22]
def eN:LSO:=[Aa 23 3,o1 24 (.call 91 [(.av (.sl [] 0 (some 0))),(tm 23)]),Aa 6 24]
def eu:LSO:=[Aa 25 0,Ae 26 25,Ac 27 0]
def eo:LSO:=[Ak 28 27 26]
def em:LSO:=[Al 29 1 25 27,Ab 30 1 29,Aa 8 30]
def ek:LSO:=[Aa 31 6,Aa 32 8,Bg 33 31 32,Aa 6 33]
def eh:LSO:=[Ah 34 27 1,Aa 27 34]
def ef:LSO:=[Aa 35 6,Aa 2 35]
def dd:aS:=⟨36,(.seq (.sreg eW [])
 (.seq (.sreg eV [])
 (.seq (.seq (.sreg eU [])
 (.block 0 (.loop (.seq (.sreg eT [])
 (.seq (.cond (tm 12) .skip
 (.exit 0))
 (.seq (.block 1 (.seq (.sreg eS Cq)
 (.seq (.sreg eR Cs)
 (.seq (.sreg eQ Cp)
 (.cond (tm 20) (.sreg eP CA)
 .skip)))))
 (.sreg eO Cp)))))))
 (.seq (.sreg eN Cq)
 (.seq (.seq (.sreg eu [])
 (.block 2 (.loop (.seq (.sreg eo [])
 (.seq (.cond (tm 28) .skip
 (.exit 2))
 (.seq (.block 3 (.seq (.sreg em Cq)
 (.sreg ek Cr)))
 (.sreg eh Cp)))))))
 (.seq (.sreg ef Cp)
 .ret)))))),[(.tmp 2)]⟩
attribute [push_cast] eW eV eU eT eS eR eQ eP eO eN eu eo em ek eh ef
theorem kA:aT Tryz.prog (fun _ _=>1) 54=some dd.raw:=by kernel_rfl
def O4:LSO:=[B9 2,Ac 3 0]
def O3:LSO:=[Aa 7 0,Aj 8 27 7,Aa 6 8,Aq 9 6,Ar 10 6,Aa 4 9,Aa 5 10]
def O2:LSO:=[Aa 11 5,A0 12 11 0]
def O1:LSO:=[Aa 13 5,B9 2,Aa 3 13]
def O0:LSO:=[Aa 14 0,Ae 15 14,Au 16 15 0]
def OZ:LSO:=[B9 2,Ac 3 2]
def OY:LSO:=[Aa 17 0,BM 18 25 17,
 .op ⟨(some 19),.mkmap,none⟩,
 .op ⟨(some 20),.mkmap,none⟩,o1 21 (.build [(.sl [] 0 (some 0)),.nilmap,.nilmap,(.int .i64 0)] [(0,(1,(tm 18))),(1,(1,(tm 19))),(2,(1,(tm 20))),(3,(1,(iv 0)))]),A8 22 21,
 o1 23 (.build [.nilptr] [(0,(1,(tm 22)))]),A8 24 23,Aa 2 24,Ac 3 0]
def gj:aS:=⟨25,(.seq (.sreg O4 [])
 (.seq (.seq (.sreg O3 Cu)
 (.seq (.sreg O2 Cp)
 (.cond (tm 12) (.seq (.sreg O1 Cv)
 .ret)
 .skip)))
 (.seq (.seq (.sreg O0 Cq)
 (.cond (tm 16) (.seq (.sreg OZ [])
 .ret)
 .skip))
 (.seq (.sreg OY CO)
 .ret)))),[(.tmp 2),(.tmp 3)]⟩
attribute [push_cast] O4 O3 O2 O1 O0 OZ OY
theorem mR:aT Tryz.prog (fun _ _=>1) 13=some gj.raw:=by kernel_rfl
def vd:LSO:=[A8 3 1,Ac 4 0]
def vc:LSO:=[Aa 17 0,Bk 18 17]
def u9:LSO:=[Ac 4 1]
def uZ:LSO:=[Aa 19 0,Am 20 19,Ad 21 0 20,Ab 22 1 21,As 23 4 3,Ay 24 41 22 23,Aa 5 24]
def uY:LSO:=[Aa 25 5,A0 26 25 0]
def uX:LSO:=[Aa 27 5,Aa 4 27]
def uW:LSO:=[Aa 28 0,Am 29 28,Ad 30 0 29,Ab 31 1 30,Ad 32 1 3,Ab 33 1 32,Ay 34 24 31 33,Aa 6 34]
def uV:LSO:=[Ad 35 0 3,Ab 36 1 35]
def uU:LSO:=[Au 38 36 1,Aa 37 38]
def uT:LSO:=[Aa 39 0,Am 40 39,Ad 41 0 40,Ab 42 1 41,Am 43 42,Ad 44 3 43,Ab 45 1 44,Ah 46 45 1,Am 47 42,Ad 48 3 47,Af 1 48 46]
def sV:List (am×Kd) :=
 [Az 49 0,AF 50 49 0 1,Aw 51 0 50,Ax 52 1 51 0 1,AF 53 52 0 1,Aw 54 1 53,Ax 55 1 54 0 1,Az 56 0,AF 57 56 0 1,Aw 58 0 57,Ax 59 1 58 0 1,AF 60 59 0 1,Aw 61 3 60,Ax 62 1 61 0 1,
 Aw 63 3 3,Ax 64 1 63 0 0,AS 65 26 64 0 0,od 66 (.build [(.sl [] 0 (some 0)),(.sl [] 0 (some 0)),(.sl [] 0 (some 0)),(.int .i64 0)] [(2,(1,(tm 65)))]) .pure,
 od 67 (.box (tm 66)) .eff]
def qY:List am :=
 [⟨none,(.mset .int (tm 55) (tm 62) (tm 67)),none⟩]
def sU:List (am×Kd) :=
 [Az 68 0,Az 69 0,AF 70 69 0 0,Aw 71 0 70,Ax 72 1 71 0 0,AF 73 72 0 0,Aw 74 3 73,Ax 75 1 74 0 0,Aw 76 1 3,Ax 77 1 76 0 0]
def qX:List am :=
 [⟨(some 78),(.call 42 [(tm 68),(tm 75),(tm 77)]),none⟩]
def sT:LSO:=[Aa 79 0,Ad 80 1 3,Ab 81 1 80,Bm 82 43 79 81 1]
def sS:LSO:=[Au 84 36 2,Aa 83 84]
def sR:LSO:=[Ad 86 1 3,Ab 87 1 86,Aj 88 44 87,Aa 85 88,Aq 89 85,Ar 90 85,Aa 7 89,Aa 8 90]
def sQ:LSO:=[Aa 91 0,Am 92 91,Ad 93 0 92,Ab 94 1 93,Am 95 94,Ad 96 2 95,Ab 97 1 96,Aa 98 7,o0 (.mdel .str (tm 97) (tm 98))]
def sP:LSO:=[Aa 99 0,Am 100 99,Ad 101 0 100,Ab 102 1 101,Am 103 102,Ad 104 1 103,Ab 105 1 104,Aa 106 6,o0 (.mdel .int (tm 105) (tm 106))]
def sO:LSO:=[Aa 107 0,Ad 108 1 3,Ab 109 1 108,Bm 110 43 107 109 (-1)]
def sN:LSO:=[Au 112 36 3,Aa 111 112]
def sM:List (am×Kd) :=
 [Az 113 0,AF 114 113 0 0,Aw 115 0 114,Ax 116 1 115 0 0,AF 117 116 0 0,Aw 118 1 117,Ax 119 1 118 0 0,Az 120 6,od 121 (.mget .int false .nilptr (tm 119) (tm 120)) (.read 0 0),
 Aw 122 3 3,Ax 123 1 122 0 0,AS 124 26 123 0 0]
def qW:List am :=
 [⟨(some 125),(.nilchk (tm 121)),none⟩,⟨(some 126),(.faddr 2 (tm 125)),none⟩,⟨none,(.store 1 (tm 126) (tm 124)),none⟩]
def sL:LSO:=[Au 128 36 4,Aa 127 128]
def sK:LSO:=[Aa 129 0,Am 130 129,Ad 131 0 130,Ab 132 1 131,Aa 133 6,Bm 134 23 132 133 2,Aa 9 134]
def sJ:LSO:=[Aa 135 9,Ae 136 135,Ac 137 0]
def sI:LSO:=[Ak 138 137 136]
def sH:LSO:=[Al 139 1 135 137,Ab 140 1 139,Aa 11 140]
def sG:LSO:=[Aa 142 0,Am 143 142,Ad 144 0 143,Ab 145 1 144,Am 146 145,Ad 147 1 146,Ab 148 1 147,Aa 149 11,Bl 150 148 149,Am 151 150,Ad 152 0 151,Ab 153 1 152,
 Aj 154 44 153,Aa 141 154,Aq 155 141,Ar 156 141,Aa 12 155,Aa 13 156]
def sF:LSO:=[Aa 157 0,Am 158 157,Ad 159 0 158,Ab 160 1 159,Am 161 160,Ad 162 2 161,Ab 163 1 162,Aa 164 12,o0 (.mdel .str (tm 163) (tm 164))]
def sE:LSO:=[Ah 165 137 1,Aa 137 165]
def sD:LSO:=[Aa 166 0,Ad 167 1 3,Ab 168 1 167,Bm 169 43 166 168 (-1)]
def sC:LSO:=[Aa 170 9,Ae 171 170,Ac 172 0]
def sB:LSO:=[Ak 173 172 171]
def sA:LSO:=[Al 174 1 170 172,Ab 175 1 174,Aa 15 175]
def sy:LSO:=[Aa 176 0,Am 177 176,Ad 178 0 177,Ab 179 1 178,Am 180 179,Ad 181 1 180,Ab 182 1 181,Aa 183 15,Bl 184 182 183,Am 185 184,Ad 186 0 185,Ab 187 1 186,
 Aa 16 187]
def sx:List (am×Kd) :=
 [Az 188 0,Az 189 15,Aw 190 2 3,Ax 191 1 190 0 0,Az 192 16,Az 193 16,od 194 (.len false (tm 193)) (.read 0 0),Aw 195 1 3,Ax 196 1 195 0 0,
 od 197 (.len false (tm 196)) (.read 0 0),od 198 (.bin .sub (tm 194) (tm 197)) .pure,od 199 (.slV 1 (tm 192) none (some (tm 198)) none) (.read 0 0),
 od 200 (.call 25 [(tm 191),(tm 199)]) (.read 0 0)]
def qV:List am :=
 [⟨(some 201),(.call 42 [(tm 188),(tm 189),(tm 200)]),none⟩]
def sw:LSO:=[Ah 202 172 1,Aa 172 202]
def su:LSO:=[Aa 203 0,Ad 204 2 3,Ab 205 1 204,Bm 206 43 203 205 1]
def sq:List (am×Kd) :=
 [Az 207 0,AF 208 207 0 0,Aw 209 0 208,Ax 210 1 209 0 0,AF 211 210 0 0,Aw 212 1 211,Ax 213 1 212 0 0,Az 214 6,od 215 (.mget .int false .nilptr (tm 213) (tm 214)) (.read 0 0),
 Aw 216 3 3,Ax 217 1 216 0 0,AS 218 26 217 0 0]
def qU:List am :=
 [⟨(some 219),(.nilchk (tm 215)),none⟩,⟨(some 220),(.faddr 2 (tm 219)),none⟩,⟨none,(.store 1 (tm 220) (tm 218)),none⟩]
def sn:LSO:=[Ac 4 0]
def bv:aS:=⟨221,(.seq (.sreg vd [])
 (.seq (.seq (.sreg vc Cp)
 (.cond (tm 18) (.seq (.sreg u9 [])
 .ret)
 .skip))
 (.seq (.sdreg uZ [.pure,(.read 0 0),.pure,(.read 0 0),(.read 0 0)] Cu)
 (.seq (.seq (.sreg uY Cp)
 (.cond (tm 26) (.seq (.sreg uX Cp)
 .ret)
 .skip))
 (.seq (.sdreg uW [.pure,(.read 0 0),.pure,(.read 0 0),.pure,(.read 0 0)] Cw)
 (.seq (.seq (.sreg uV Cp)
 (.block 0 (.seq (.sreg uU Cp)
 (.cond (tm 37) (.seq (.sreg uT CF)
 (.seq (.dregM sV qY [false,false,false,false,false,false,false,false,false,false,false,false,false,false,false,false,false,false,false])
 (.seq (.dregM sU qX CL)
 (.sreg sT C3))))
 (.seq (.sreg sS Cp)
 (.cond (tm 83) (.seq (.sreg sR CR)
 (.seq (.sreg sQ CE)
 (.seq (.sreg sP CE)
 (.sreg sO C3))))
 (.seq (.sreg sN Cp)
 (.cond (tm 111) (.dregM sM qW CP)
 (.seq (.sreg sL Cp)
 (.cond (tm 127) (.seq (.sreg sK Cu)
 (.seq (.seq (.sreg sJ [])
 (.block 1 (.loop (.seq (.sreg sI [])
 (.seq (.cond (tm 138) .skip
 (.exit 1))
 (.seq (.block 2 (.seq (.sreg sH Cq)
 (.seq (.sreg sG [false,true,false,false,false,false,false,false,false,false,false,false,false,false,false,false,false,false])
 (.sreg sF CE))))
 (.sreg sE Cp)))))))
 (.seq (.sreg sD C3)
 (.seq (.seq (.sreg sC [])
 (.block 3 (.loop (.seq (.sreg sB [])
 (.seq (.cond (tm 173) .skip
 (.exit 3))
 (.seq (.block 4 (.seq (.sreg sA Cq)
 (.seq (.sreg sy CK)
 (.dregM sx qV CP))))
 (.sreg sw Cp)))))))
 (.seq (.sreg su C3)
 (.dregM sq qU CP))))))
 .skip))))))))))
 (.seq (.sreg sn [])
 .ret))))))),[(.tmp 4)]⟩
attribute [push_cast] vd vc u9 uZ uY uX uW uV uU uT sV qY sU qX sT sS sR sQ sP sO sN sM qW sL sK sJ sI sH sG sF sE sD sC sB sA sy sx qV sw su sq qU sn
theorem dr:aT Tryz.prog (fun _ _=>1) 20=some bv.raw:=by kernel_rfl
def qS:LSO:=[A8 3 1,Ac 4 0]
def qR:LSO:=[Aa 8 0,Bk 9 8]
def qQ:LSO:=[Ac 4 1]
def qP:LSO:=[Aa 10 0,Ad 11 1 3,Ab 12 1 11,Ay 13 24 10 12,Aa 5 13]
def qO:LSO:=[Ad 14 0 3,Ab 15 1 14]
def qN:LSO:=[Au 17 15 1,Aa 16 17]
def qM:LSO:=[Ad 19 1 3,Ab 20 1 19,Aj 21 27 20,Aa 18 21,Aq 22 18,Ar 23 18,Aa 6 22,Aa 7 23]
def qL:LSO:=[Aa 25 7,A0 26 25 0,Aa 24 26]
def qK:LSO:=[Ac 4 34]
def qJ:LSO:=[Aa 28 5,A6 29 28 0,Aa 27 29]
def pm:LSO:=[Ac 4 68]
def pl:LSO:=[Aa 31 0,Ad 32 1 3,Ab 33 1 32,Aa 34 0,Am 35 34,Ad 36 0 35,Ab 37 1 36,B8 38 79 31 33 37,AA 39 38,Aa 40 39,.grp none 40 true
 [A5 41 40 1 3,A4 42 40 1 41,AU 43 40 42,Bd 44 40 43 0,Ai 45 40 44,.grp (some (40,true)) 45 false
 [Ag 46 45 0,A3 47 45 1 3,A1 48 45 1 47,og 49 45 false (.slV 1 (tm 48) (some (iv 1)) none none),Bw 50 45 24 46 49,Bf 51 45 50 0]
 52 (tm 51)]
 53 (tm 52),Aa 30 53]
def pk:LSO:=[Ac 4 32]
def pj:LSO:=[Aa 55 0,Am 56 55,Ad 57 1 56,Ab 58 1 57,o1 59 (.mlen (tm 58)),Bc 60 59 4096,Aa 54 60]
def pi:LSO:=[Ac 4 80]
def ph:LSO:=[Ac 4 0]
def pg:LSO:=[Au 62 15 2,Aa 61 62]
def pf:LSO:=[Au 63 15 3,Aa 61 63]
def pd:LSO:=[Au 64 15 4,Aa 61 64]
def pc:LSO:=[Aa 65 5,Au 66 65 0]
def o9:LSO:=[Ac 4 32]
def o8:LSO:=[Ad 67 0 3,Ab 68 1 67]
def o7:LSO:=[Au 70 68 2,Aa 69 70]
def o6:LSO:=[Aa 71 0,Am 72 71,Ad 73 1 72,Ab 74 1 73,Aa 75 5,Bl 76 74 75,Am 77 76,Ad 78 3 77,Ab 79 1 78,A6 80 79 0]
def o5:LSO:=[Ac 4 66]
def o4:LSO:=[Ac 4 0]
def o3:LSO:=[Au 82 68 3,Aa 81 82]
def oZ:LSO:=[Ac 4 0]
def oY:LSO:=[Au 84 68 4,Aa 83 84]
def oX:LSO:=[Aa 85 0,Aa 86 5,As 87 4 3,B8 88 80 85 86 87,Aa 4 88]
def oW:LSO:=[Ac 4 1]
def ax:aS:=⟨89,(.seq (.sreg qS [])
 (.seq (.seq (.sreg qR Cp)
 (.cond (tm 9) (.seq (.sreg qQ [])
 .ret)
 .skip))
 (.seq (.sreg qP Cs)
 (.seq (.seq (.sreg qO Cp)
 (.block 0 (.seq (.sreg qN Cp)
 (.cond (tm 16) (.seq (.sreg qM Cw)
 (.seq (.block 1 (.seq (.sreg qL Cq)
 (.cond (tm 24) (.seq (.sreg qK [])
 .ret)
 (.seq (.sreg qJ Cq)
 (.cond (tm 27) (.seq (.sreg pm [])
 .ret)
 (.seq (.sdreg pl [.pure,.pure,(.read 0 0),.pure,(.read 0 0),.pure,(.read 0 0),(.read 0 0),.pure,.pure,.pure,(.read 0 0),(.read 0 0),.pure,.pure,.pure,.pure,(.read 0 0),(.read 0 0)] CH)
 (.cond (tm 30) (.seq (.sreg pk [])
 .ret)
 (.seq (.sreg pj Cu)
 (.cond (tm 54) (.seq (.sreg pi [])
 .ret)
 .skip)))))))))
 (.seq (.sreg ph [])
 .ret)))
 (.seq (.seq (.sreg pg Cp)
 (.cond (tm 61) .skip
 (.seq (.sreg pf Cp)
 (.cond (tm 61) .skip
 (.sreg pd Cp)))))
 (.cond (tm 61) (.seq (.sreg pc Cp)
 (.cond (tm 66) (.seq (.sreg o9 [])
 .ret)
 .skip))
 .skip))))))
 (.seq (.seq (.sreg o8 Cp)
 (.block 2 (.seq (.sreg o7 Cp)
 (.cond (tm 69) (.seq (.seq (.sreg o6 Cy)
 (.cond (tm 80) (.seq (.sreg o5 [])
 .ret)
 .skip))
 (.seq (.sreg o4 [])
 .ret))
 (.seq (.sreg o3 Cp)
 (.cond (tm 81) (.seq (.sreg oZ [])
 .ret)
 (.seq (.sreg oY Cp)
 (.cond (tm 83) (.seq (.sreg oX Cs)
 .ret)
 .skip))))))))
 (.seq (.sreg oW [])
 .ret)))))),[(.tmp 4)]⟩
attribute [push_cast] qS qR qQ qP qO qN qM qL qK qJ pm pl pk pj pi ph pg pf pd pc o9 o8 o7 o6 o5 o4 o3 oZ oY oX oW
theorem aM:aT Tryz.prog (fun _ _=>1) 41=some ax.raw:=by kernel_rfl
def qI:LSO:=[Ac 4 0]
def qH:LSO:=[Aa 7 0,Bk 8 7]
def qG:LSO:=[Ac 4 0]
def qF:LSO:=[Aa 10 1,Aj 11 44 10,Aa 9 11,Aq 12 9,Ar 13 9,Aa 5 12,Aa 6 13]
def qE:LSO:=[Aa 14 6,A0 15 14 0]
def qD:LSO:=[Ac 4 0]
def qC:LSO:=[Aa 16 0,Am 17 16,Ad 18 2 17,Ab 19 1 18,Aa 20 5,o1 21 (.mget .str false (.int .i64 0) (tm 19) (tm 20)),Aa 4 21]
def aR:aS:=⟨22,(.seq (.sreg qI [])
 (.seq (.seq (.sreg qH Cp)
 (.cond (tm 8) (.seq (.sreg qG [])
 .ret)
 .skip))
 (.seq (.sreg qF Cx)
 (.seq (.seq (.sreg qE Cp)
 (.cond (tm 15) (.seq (.sreg qD [])
 .ret)
 .skip))
 (.seq (.sreg qC Cu)
 .ret))))),[(.tmp 4)]⟩
attribute [push_cast] qI qH qG qF qE qD qC
theorem bN:aT Tryz.prog (fun _ _=>1) 24=some aR.raw:=by kernel_rfl
def GD:LSO:=[A8 1 0,An 2]
def GC:LSO:=[Ad 9 1 1,Ab 10 1 9,Ad 11 2 1,Ab 12 1 11,o1 13 (.bslice false 1 2 [(.sl [] 0 (some 0)),(.sl [] 0 (some 0))] [(0,(1,(tm 10))),(1,(1,(tm 12)))]),Ae 14 13,
 Ac 15 0]
def GB:LSO:=[Ak 16 15 14]
def GA:LSO:=[Al 17 1 13 15,Ab 18 1 17,Aa 4 18]
def Gz:LSO:=[Aa 19 4,Ae 20 19,A6 21 20 40]
def Gy:LSO:=[An 2]
def Gx:LSO:=[Aa 22 4,Ae 23 22,Ac 24 0]
def Gw:LSO:=[Ak 25 24 23]
def Gv:LSO:=[Al 26 1 22 24,Ab 27 1 26,Aa 6 27]
def Gu:LSO:=[Aa 28 6,Ae 29 28,Ac 30 0]
def yw:LSO:=[Ak 31 30 29]
def yv:LSO:=[Al 32 2 28 30,As 33 2 32,Bq 8,Af 2 8 33]
def yu:LSO:=[Aa 34 6,Ae 35 34,A6 36 35 10,Aa 37 36,.grp none 37 false
 [A3 38 37 1 8,A1 39 37 1 38,Bo 40 37 39,AD 41 37 40 5000]
 42 (tm 41)]
def yt:LSO:=[An 2]
def yr:LSO:=[Ah 43 30 1,Aa 30 43]
def yq:LSO:=[Ah 44 24 1,Aa 24 44]
def yo:LSO:=[Ah 45 15 1,Aa 15 45]
def ym:LSO:=[Ad 46 3 1,Ab 47 1 46,Aj 48 33 47,Aa 2 48]
def uM:aS:=⟨49,(.seq (.sreg GD [])
 (.seq (.seq (.sreg GC CI)
 (.block 0 (.loop (.seq (.sreg GB [])
 (.seq (.cond (tm 16) .skip
 (.exit 0))
 (.seq (.block 1 (.seq (.sreg GA Cq)
 (.seq (.seq (.sreg Gz Cq)
 (.cond (tm 21) (.seq (.sreg Gy [])
 .ret)
 .skip))
 (.seq (.sreg Gx [])
 (.block 2 (.loop (.seq (.sreg Gw [])
 (.seq (.cond (tm 25) .skip
 (.exit 2))
 (.seq (.block 3 (.seq (.sreg Gv Cq)
 (.seq (.sreg Gu [])
 (.block 4 (.loop (.seq (.sreg yw [])
 (.seq (.cond (tm 31) .skip
 (.exit 4))
 (.seq (.block 5 (.seq (.sreg yv Cq)
 (.seq (.sreg yu Cs)
 (.cond (tm 42) (.seq (.sreg yt [])
 .ret)
 .skip))))
 (.sreg yr Cp)))))))))
 (.sreg yq Cp))))))))))
 (.sreg yo Cp)))))))
 (.seq (.sreg ym Cr)
 .ret))),[(.tmp 2)]⟩
attribute [push_cast] GD GC GB GA Gz Gy Gx Gw Gv Gu yw yv yu yt yr yq yo ym
theorem Rj:aT Tryz.prog (fun _ _=>1) 11=some uM.raw:=by kernel_rfl
def Gt:LSO:=[An 0]
def Gs:LSO:=[o1 8 (.build [(.str []),(.str [])] [(0,(1,(.av (.str [100,99])))),(1,(1,(.av (.str [122]))))]),BS 9 8,Be 10 9,Aa 1 10]
def Gr:LSO:=[Aa 12 1,o1 13 (.build [(.int .i64 0),(.sl [] 0 (some 0)),(.sl [] 0 (some 0)),(.sl [] 0 (some 0))] [(0,(1,(iv 2))),(1,(1,(tm 12)))]),Aj 14 34 13,
 Aa 11 14,Aq 15 11,Ar 16 11,Aa 2 15,Aa 3 16]
def Gq:LSO:=[Aa 18 1,Aj 19 13 18,Aa 17 19,Aq 20 17,Ar 21 17,Aa 4 20,Aa 5 21]
def Gp:LSO:=[Aa 23 4,Aa 24 2,Bb 25 24,Ay 26 15 23 25,Aa 22 26,Aq 27 22,Ar 28 22,Aa 6 27,Aa 7 28]
def Gn:LSO:=[Aa 29 3,Au 30 29 0,Aa 31 30,.grp none 31 true
 [Ai 32 31 2,og 33 31 true (.bin .eql (tm 32) (.av (.str [48,9,2,1,2,4,4,100,99,61,122])))]
 34 (tm 33),Aa 35 34,.grp none 35 true
 [Ai 36 35 6,Bd 37 35 36 0]
 38 (tm 37),Aa 39 38,.grp none 39 true
 [Ai 40 39 7,Bd 41 39 40 4]
 42 (tm 41),Aa 0 42]
def uL:aS:=⟨43,(.seq (.sreg Gt [])
 (.seq (.sreg Gs Cr)
 (.seq (.sreg Gr C9)
 (.seq (.sreg Gq CQ)
 (.seq (.sreg Gp C5)
 (.seq (.sreg Gn C1)
 .ret)))))),[(.tmp 0)]⟩
attribute [push_cast] Gt Gs Gr Gq Gp Gn
theorem Ri:aT Tryz.prog (fun _ _=>1) 12=some uL.raw:=by kernel_rfl
attribute [push_cast] cw di cC yK dd gj bv ax aR uM uL
open Go Go.Sort Go.Proofs
variable {L:List Blk} {K:afC}
set_option maxHeartbeats 8000000
set_option maxRecDepth 100000
theorem Yi (z:Array Value):∀ k,(Builtin.zeroCells z k).size=k * z.size:=by
 intro k;simp [Builtin.zeroCells]
theorem ac7:∃ i0,Tryz.prog.info? 43=some i0/\i0.zero=some (.slice none 0 0)/\i0.size=1/\i0.bytes=24:=by
 have h:(Tryz.prog.info? 43).map (fun i=>(i.zero,i.size,i.bytes))=some (some (.slice none 0 0),1,24):=by kernel_rfl
 cases hi:Tryz.prog.info? 43 with
 | none=>rw [hi] at h;cases h
 | some i0 =>
   rw [hi] at h;simp only [ahM,aho,ahx] at h;exact ⟨i0,rfl,h⟩
theorem ada {L:List Blk} {K:afC} (h:K (.sl [] 0 (some 0)) L):afB 91 [.sl [] 0 (some 0),.int .i64 0] L K :=
 mL Tryz.func91 rfl (by kernel_rfl) (fun w0 S0 E w vs hR hv=>by
  simp only [VRL] at hv;obtain ⟨v,_,rfl,hv,_,_,rfl,h2,rfl⟩:=hv;have hv':=hv;simp only [VR] at hv h2;obtain ⟨p,c,rfl,_,h3,_⟩:=hv;have hc:c=0:=h3 0 rfl;subst hc;subst h2;exact (Any8.slices_Grow_room Tryz.growD p 0 0 0 w (ahn _) (by omega) (by omega) (by omega)).mono fun e w' ⟨he,hw⟩=>⟨_,he,hv',by subst hw;exact Vc.refl _⟩) h
theorem aeJ {n:Nat} (h0:0<n) (hn:n<=4000000) (h:K (.lsl L.length 0 0 none 1) (L++[.cells []])):afB 91 [.sl [] 0 (some 0),.int .i64 (n:Int)] L K:=fun w0 S0 E w vs hR hv=>by
 simp only [VRL,VR] at hv;obtain ⟨_,_,rfl,⟨p,c,rfl,_,h3,_⟩,_,_,rfl,rfl,rfl⟩:=hv;have hc:c=0:=h3 0 rfl;subst hc;obtain ⟨i0,i1,i2,i3,i4⟩:=ac7;refine .inl ⟨jM Tryz.func91 rfl (by kernel_rfl) _ _,(Any8.slices_Grow_grow Tryz.growD i0 (.slice none 0 0) i1 i2 (by omega) p 0 0 n [] w (ahn _) (by omega) (by rw [i4];omega) (by omega) (by simp) (fun _=>rfl) (fun a _ j v hj=>by simp at hj)).mono ?_⟩;rintro e w' ⟨rfl,rfl⟩;have r0:Rel w0 S0 E L w.drew:=hR.grown ⟨fun _ _=>rfl,ahn _,rfl,rfl,rfl⟩
 let cs:Array Value:=([]:List Value).toArray++Builtin.zeroCells (Value.slice none 0 0).cells (0+n - 0)++Builtin.zeroCells (Value.slice none 0 0).cells (grownCap w (0+n) 0 43 - (0+n))
 have hcs:cs.size=n+(grownCap w (0+n) 0 43 - n):=by
  simp only [cs,Array.size_append,Yi];have:(Value.slice none 0 0).cells.size=1:=rfl;rw [this];simp
 have r1:=r0.push (.cells cs 43) (.cells []) ⟨w.heap.size,0,cs.size⟩ rfl rfl ⟨⟨w.heap.size,0,cs.size⟩,cs,43,(0,0),by simp,(show (w.heap.push (Obj.cells cs 43))[w.heap.size]?=some (Obj.cells cs 43 (0,0)) by simp),rfl,by simp,(fun j a ha=>by simp at ha),fun o _ _=>by omega⟩;refine ⟨_,_,_,_,rfl,r1.1,h,?_,r1.2⟩;simp only [VR];exact ⟨⟨w.heap.size,0,cs.size⟩,grownCap w (0+n) 0 43,0,by simp,rfl,fun _=>rfl,ahp _,(fun k hk=>by cases hk),by simp only [hcs];omega⟩
abbrev UX (l:List AV):AV:=.sl l l.length none
theorem aek {ls:List (List AV)} {k:Nat} (h:k<ls.length):(ls.map UX).getD k .undef=UX (ls.getD k []):=by simp [h]
theorem Zg {ls:List (List AV)} {k:Nat} (h:k<ls.length):(ls.take (k+1)).flatten=(ls.take k).flatten++ls.getD k []:=by
 rw [ahK h,List.flatten_append];simp [h]
theorem adk (ls:List (List AV)) (k:Nat):(ls.take k).flatten.length<=ls.flatten.length:=by
 have h:ls.flatten=(ls.take k).flatten++(ls.drop k).flatten:=by rw [<- List.flatten_append,ai4]
 rw [h];simp
theorem VO {ls:List (List AV)} {cap:Option Nat} (hn:ls.length<=1100000) (ht:ls.flatten.length<=1100000) (hone:∀ l∈ls,l.all AV.one=true) (href:∀ p,AV.refsL p ls.flatten=true) {L:List Blk} {K:afC} (h:K (.sl ls.flatten ls.flatten.length none) L) :
  afB 54 [.sl (ls.map UX) ls.length cap] L K:=by
 replace h:=hid h;have htk:=hid (fun k=>@Zg ls k);have hle:=hid (adk ls);have hat:=hid (fun k=>@aek ls k);replace hone:=hid hone;replace href:=hid href;refine acg kA ?_;refine ah (fun n T' L'=>∃ k:Nat,n=ls.length - k/\k<=ls.length/\T'=[(11,.int .i64 (k:Int)),(10,.int .i64 ls.length),(9,.sl (ls.map UX) ls.length cap),(3,.int .i64 ((ls.take k).flatten.length:Int)),(2,.sl [] 0 (some 0)),(0,.sl (ls.map UX) ls.length cap)]/\L=L') (CutS (b:=ahn _)) ⟨0,rfl,ahp _,rfl,rfl⟩ ?_;rintro _ _ _ ⟨k,rfl,hk,rfl,rfl⟩;by_cases hlt:k<ls.length
 ·have g1:(k:Int)<(ls.length:Int):=by omega
  have g2:=ace k (by omega);have e1:=htk.out k hlt;have e2:=hat.out k hlt;have e3:=hle.out (k+1);obtain ⟨l,hl⟩:=aaR (ls.getD k []);rw [hl] at e1 e2;have e4:(ls.take (k+1)).flatten.length=(ls.take k).flatten.length+l.length:=by rw [e1,ahy]
  rw [e4] at e3;obtain ⟨m,hm⟩:=aaR ((ls.take k).flatten.length);rw [hm] at e3 e4 ⊢;replace e1:=hid e1;replace hm:=hid hm;replace hl:=hid hl;have g3:IntKind.i64.wrap ((m:Int)+(l.length:Int))=(m:Int)+(l.length:Int):=ac (by omega) (by omega);have g4:¬ ((m:Int)+(l.length:Int)<0):=by omega
  refine wk ?_;exact aq _ _ _ (by omega) (CutL (b:=ahn _)) ⟨k+1,rfl,hlt,rfl,rfl⟩
 ·have hke:k=ls.length:=by omega
  subst hke;clear hlt hk;have g1:¬ (ls.length:Int)<(ls.length:Int):=by omega
  obtain ⟨m,hm⟩:=aaR (ls.flatten.length);rw [ahA,hm];rw [hm] at h ht;rcases aiA m with h0|hpos
  ·subst h0;have hnil:=hid (ahX.1 hm);have kk1:=@hid _ @ada;refine wk ?_;refine bi (l:=[]) (n:=0) 6 1 rfl (ahQ 1).symm ?_;refine ah (fun n T' L'=>∃ k:Nat,n=ls.length - k/\k<=ls.length/\T'=[(27,.int .i64 (k:Int)),(26,.int .i64 ls.length),(25,.sl (ls.map UX) ls.length cap),(6,.gsl [] 0 L.length 1)]/\L'=L++[.spare 0 1]) (CutS (b:=by simp)) ⟨0,rfl,ahp _,rfl,rfl⟩ ?_;rintro _ _ _ ⟨k,rfl,hk,rfl,rfl⟩;by_cases hlt:k<ls.length
   ·have g1:(k:Int)<(ls.length:Int):=by omega
    have g2:=ace k (by omega);have e2:=hat.out k hlt;have e3:ls.getD k []=[]:=List.flatten_eq_nil_iff.1 hnil.out _ (by rw [ahE,ahB hlt];exact ain _);rw [e3] at e2;replace e2:(ls.map UX).getD k .undef=.sl [] 0 none:=e2;clear e3;refine wk ?_;exact aq _ _ _ (by omega) (CutL (b:=by simp)) ⟨k+1,rfl,hlt,rfl,rfl⟩
   ·have hke:k=ls.length:=by omega
    subst hke;have g1:¬ (ls.length:Int)<(ls.length:Int):=by omega
    refine wk ?_;refine ay (ab (by rfl) ?_);have:=h.out;rw [hnil.out] at this;exact this
  ·have kk1:=@hid _ (fun L K=>aeJ hpos (by omega) (L:=L) (K:=K));refine wk ?_;refine ah (fun n T' L'=>∃ (k i:Nat) (X:List Blk) (c:List AV),n=ls.length - k/\k<=ls.length/\Hid (c=(ls.take k).flatten)/\c.length<=m/\i=L.length+X.length/\T'=[(27,.int .i64 (k:Int)),(26,.int .i64 ls.length),(25,.sl (ls.map UX) ls.length cap),(6,.lsl i 0 c.length none 1)]/\L'=L++(X++[.cells c])) (CutS (b:=by simp)) ⟨0,L.length,[],[],rfl,ahp _,hid rfl,ahp _,rfl,rfl,rfl⟩ ?_;rintro _ _ _ ⟨k,i,X,c,rfl,hk,hc,hcm,hi,rfl,rfl⟩;have hget:(L++(X++[Blk.cells c]))[i]?=some (.cells c):=by subst hi;simp
   replace hi:=hid hi;by_cases hlt:k<ls.length
   ·have g1:(k:Int)<(ls.length:Int):=by omega
    have g2:=ace k (by omega);have e1:=htk.out k hlt;have e2:=hat.out k hlt;have e3:=hle.out (k+1);obtain ⟨l,hl⟩:=aaR (ls.getD k []);have hones:l.all AV.one=true:=hone.out l (by rw [<- hl];simp [hlt]);rw [hl] at e1 e2;rw [<- hc.out] at e1;have e4:c.length+l.length<=m:=by rw [e1,ahy,hm] at e3;exact e3
    have e5:(c.length+l.length) * 24<=140737488355328:=by omega
    have e6:c.length+l.length<=140737488355328:=by omega
    replace e1:=hid e1;replace hl:=hid hl;clear e3;have hdead:(L++(X++[Blk.cells c])).set i .dead=L++(X++[.dead]):=by rw [hi.out];simp
    have hlen:(L++(X++[Blk.dead])).length=i+1:=by rw [hi.out];simp;omega
    refine wk ?_;refine aq _ _ _ ?_ (CutL (b:=by simp)) ⟨k+1,i+1,X++[.dead],c++l,rfl,hlt,hid e1.out.symm,by simpa using e4,by rw [hi.out];simp;omega,rfl,?_⟩
    ·omega
    ·simp [ah0]
   ·have hke:k=ls.length:=by omega
    subst hke;have g1:¬ (ls.length:Int)<(ls.length:Int):=by omega
    refine wk ?_;refine KW (i:=i) (l:=c) hget ?_;rw [show (L++(X++[Blk.cells c])).set i .dead=L++(X++[.dead]) by rw [hi.out];simp];have e:=hc.out;rw [ahA] at e;have hs:(AV.lsl i 0 c.length none 1).snap i c=.sl c c.length none:=by simp [AV.snap,ah0]
    rw [hs,e,hm];exact ab (by simp only [AV.refs,href.out]) h.out
theorem Og {d:List Rdn} {cap cap':Option Nat} (hn:d.length<=1100000) (hr:∀ r∈d,r.length<=1100000) (h:K (.sl (d.map aw) d.length none) L) :
  afB 25 [.sl (d.map aw) d.length cap,.sl [] 0 cap'] L K:=by
 replace h:=hid h;have hat:=hid (fun k=>@mw d k);replace hr:=hid hr;have kk1:Hid (Ctr Tryz.prog 54 [.sl [.sl [] 0 cap',.sl (d.map aw) d.length cap] 2 (some 2)] (.sl (d.map aw) d.length none)):=@hid _ (by
  intro L K q;refine dQ ?_;simp only [AV.frzL,AV.frz,aO];have:=@VO [[],d.map aw] none (by simp) (by simpa using hn) (fun l hl=>by
   simp at hl;rcases hl with rfl|rfl
   ·rfl
   ·rw [ahC];intro a ha;obtain ⟨r,_,rfl⟩:=ahs.1 ha;rfl) (fun p=>by simpa using cQ p d) L K
  simp only [ake,akf,ahO,ah3,ahH,aif,ahF,ahZ,ahD,UX] at this;exact this q)
 refine acg QK ?_;refine bi (l:=[]) (n:=0) 5 1 rfl (ahQ 1).symm ?_;refine ah (fun m T' L'=>∃ (k:Nat) (C:List AV) (X:List Blk),m=d.length - k/\k<=d.length/\Hid (C=(d.take k).map aw)/\T'=[(13,.int .i64 (k:Int)),(12,.int .i64 d.length),(11,.sl (d.map aw) d.length none),(5,.gsl C k L.length 1)]/\L'=L++(.spare k 1::X)) (CutS (b:=by simp)) ⟨0,[],[],rfl,ahp _,hid rfl,rfl,by simp⟩ ?_;rintro _ _ _ ⟨k,C,X,rfl,hk,hC,rfl,rfl⟩;by_cases hlt:k<d.length
 ·have g1:(k:Int)<(d.length:Int):=by omega
  have g2:=ace k (by omega);have e2:=hat.out k hlt;have e3:k<(d.map aw).length:=by simpa using hlt
  obtain ⟨r,hri⟩:=aaR (d.getD k []);have hrl:=hr.out r (by rw [<- hri];simp [hlt]);have htk:(d.take (k+1)).map aw=C++[.sl (aN r) r.length none]:=by
   rw [hC.out,ahK hlt,ahN,show d[k]=r by rw [<- hri];simp [hlt]];rfl
  rw [hri] at e2;have e4:=fV r;have e5:=cr r;replace htk:=hid htk;clear hri hC;refine wk ?_;exact aq _ _ _ (by omega) (CutL (b:=by simp)) ⟨k+1,_,_,rfl,hlt,hid htk.out.symm,rfl,rfl⟩
 ·have hke:k=d.length:=by omega
  subst hke;have g1:¬ (d.length:Int)<(d.length:Int):=by omega
  have hC2:=hC.out;rw [ahA] at hC2;subst hC2;clear hC;refine wk ?_;refine ay ?_;simp only [AV.frz,aO];exact ab (by simp only [AV.refs,cQ]) h.out
def smA (n:Nat) (a:Ava):Bool:=decide (n<=10) && decide (a.2.length<=5000)
def smR (r:Rdn):Bool:=r.all (smA r.length)
def smD (d:List Rdn):Bool:=decide (d.length<=40) && d.all smR
def smU (u:Upd):Bool:=smD u.dn && (smD u.to && abu u.attrs)
def XE (d:List Rdn):Prop:=(d.length:Int)<=9223372036854775807/\∀ r∈d,(r.length:Int)<=9223372036854775807
theorem W0 {u:Upd} (hd:XE u.dn) (ht:XE u.to) (hl:(u.attrs.length:Int)<=9223372036854775807) (hz:∀ a∈u.attrs,(a.2.length:Int)<=9223372036854775807) (h:K (.bool (smU u)) L) :
  afB 11 [.agg (dO u)] L K:=by
 obtain ⟨k,d,t,l⟩:=u;simp only [dO,smU] at hd ht hl hz h ⊢;obtain ⟨fw,hfw⟩:=aaR (abu l);have kk1:Hid (Ctr Tryz.prog 33 [.sl (aU l) l.length none] (.bool fw)):=@hid _ (by intro L K q;exact agK hl hz (by rw [hfw];exact q));rw [hfw] at h;obtain ⟨ns,hns⟩:∃ ns,ns=[d,t]:=⟨_,rfl⟩;obtain ⟨R,hR⟩:=aaR ((ns.all smD && fw));have hR0:(smD d && (smD t && fw))=R:=by rw [<- hR,hns];simp [aki]
 rw [hR0] at h;replace h:=hid h;have hnl:ns.length=2:=by rw [hns];rfl
 have hnb:∀ x∈ns,XE x:=fun x hx=>by
  rw [hns] at hx;simp at hx;rcases hx with rfl|rfl<;>assumption
 have hrow:AV.sl [dnA d,dnA t] 2 (some 2)=.sl (ns.map dnA) 2 (some 2):=by rw [hns];rfl
 replace hnb:=hid hnb;obtain ⟨U,hU⟩:∃ U,U=[AV.int .i64 k,dnA d,dnA t,.sl (aU l) l.length none]:=⟨_,rfl⟩;have hU3:U.getD 3 .undef=.sl (aU l) l.length none:=by rw [hU];rfl
 have hUl:U.length=4:=by rw [hU];rfl
 clear hfw hz hR0 hd ht;replace hrow:=hid hrow;replace hU:=hid hU;replace hns:=hid hns;refine acg Rj ?_;rw [hrow.out,<- hU.out];clear hrow;refine ah (fun m T' L'=>∃ (i:Nat) (X:List Blk),m=2 - i/\i<=2/\Hid (((ns.drop i).all smD && fw)=R)/\T'=[(15,.int .i64 (i:Int)),(14,.int .i64 2),(13,.sl (ns.map dnA) 2 (some 2)),(1,.ptr L.length 0)]/\L'=L++(.cells U::X)) (CutS (b:=by simp)) ⟨0,[],rfl,by omega,hid (by simpa using hR),rfl,by simp⟩ ?_;rintro _ _ _ ⟨i,X,rfl,hi,hI,rfl,rfl⟩;by_cases hlt:i<2
 ·have g1:(i:Int)<2:=by omega
  have g2:=ace i (by omega);obtain ⟨x,hx⟩:=aaR (ns.getD i []);have hil:i<ns.length:=by omega
  have hxb:=hnb.out x (by rw [<- hx];simp [hil]);have e2:(ns.map dnA).getD i .undef=dnA x:=by rw [<- hx];simp [hil]
  have e3:i<(ns.map dnA).length:=by simpa using hil
  have hdr:ns.drop i=x::ns.drop (i+1):=by rw [ah2 hil,<- hx];simp [hil]
  have hI2:=hI.out;rw [hdr,aiG] at hI2;obtain ⟨S,hS⟩:=aaR (((ns.drop (i+1)).all smD && fw));rw [aki,hS] at hI2;clear hI hdr hx hR;by_cases h40:(40:Int)<(x.length:Int)
  ·have h':=h.out;rw [<- hI2,smD,decide_eq_false (by omega)] at h';replace h':=hid h';clear hI2 hS;refine wk ?_;exact ab rfl h'.out
  have hI3:(x.all smR && S)=R:=by rw [<- hI2,smD,decide_eq_true (by omega),aid]
  have hxl:x.length<=40:=by omega
  have hxr:=hid hxb.2;clear hI2 hxb;have hat:=hid (fun k=>@mw x k);refine wk ?_;refine ah (fun m T' L'=>∃ (j:Nat) (Y:List Blk),m=x.length - j/\j<=x.length/\X.length<=Y.length/\Hid (((x.drop j).all smR && S)=R)/\T'=[(24,.int .i64 (j:Int)),(23,.int .i64 x.length),(22,dnA x),(15,.int .i64 (i:Int)),(14,.int .i64 2),(13,.sl (ns.map dnA) 2 (some 2)),(1,.ptr L.length 0)]/\L'=L++(.cells U::Y)) (CutS (b:=by simp)) ⟨0,_,rfl,by omega,ahn _,hid (by simpa using hI3),rfl,rfl⟩ ?_;rintro _ _ _ ⟨j,Y,rfl,hj,hXY,hJ,rfl,rfl⟩;by_cases hjl:j<x.length
  ·have j1:(j:Int)<(x.length:Int):=by omega
   have j2:=ace j (by omega);have e4:=hat.out j hjl;have e5:j<(x.map aw).length:=by simpa using hjl
   obtain ⟨r,hr⟩:=aaR (x.getD j []);have hrb:=hxr.out r (by rw [<- hr];simp [hjl]);have hdr:x.drop j=r::x.drop (j+1):=by rw [ah2 hjl,<- hr];simp [hjl]
   rw [hr] at e4;have hJ2:=hJ.out;rw [hdr,aiG] at hJ2;obtain ⟨S2,hS2⟩:=aaR (((x.drop (j+1)).all smR && S));rw [aki,hS2,smR] at hJ2;clear hJ hdr hr hI3;refine wk ?_;refine ah (fun m T' L'=>∃ (p:Nat) (Z:List Blk),m=r.length - p/\p<=r.length/\Y.length<=Z.length/\Hid (((r.drop p).all (smA r.length) && S2)=R)/\T'=[(30,.int .i64 (p:Int)),(29,.int .i64 r.length),(28,aw r),(6,aw r),(24,.int .i64 (j:Int)),(23,.int .i64 x.length),(22,dnA x),(15,.int .i64 (i:Int)),(14,.int .i64 2),(13,.sl (ns.map dnA) 2 (some 2)),(1,.ptr L.length 0)]/\L'=L++(.cells U::Z)) (CutS (b:=by simp)) ⟨0,_,rfl,by omega,ahn _,hid (by simpa using hJ2),rfl,rfl⟩ ?_;rintro _ _ _ ⟨p,Z,rfl,hp,hYZ,hP,rfl,rfl⟩;by_cases hpl:p<r.length
   ·have p1:(p:Int)<(r.length:Int):=by omega
    have p2:=ace p (by omega);have e6:=fW hpl;have e7:p * 2+2<=(aN r).length:=by rw [cr];omega
    obtain ⟨⟨ty,va⟩,ha⟩:∃ a,r.getD p ([],[])=a:=⟨_,rfl⟩;have hdr:r.drop p=(ty,va)::r.drop (p+1):=by rw [ah2 hpl,<- ha];simp [hpl]
    rw [ha] at e6;simp only [oC] at e6;have hP2:=hP.out;rw [hdr,aiG,aki] at hP2;obtain ⟨S3,hS3⟩:=aaR (((r.drop (p+1)).all (smA r.length) && S2));rw [hS3] at hP2;clear hP hdr ha hJ2 hS hS2;by_cases h10:(10:Int)<(r.length:Int)
    ·have h':=h.out;rw [<- hP2,smA,decide_eq_false (by omega)] at h';replace h':=hid h';clear hP2 hS3;refine wk ?_;exact ab rfl h'.out
    by_cases h50:(5000:Int)<(va.length:Int)
    ·have h':=h.out;rw [<- hP2,smA,decide_eq_true (by omega),decide_eq_false (by simp only;omega)] at h';replace h':=hid h';clear hP2 hS3;refine wk ?_;exact ab rfl h'.out
    have hP3:S3=R:=by rw [<- hP2,smA,decide_eq_true (by omega),decide_eq_true (by simp only;omega)];rfl
    subst hP3;replace hS3:=hid hS3;clear hP2;refine wk ?_;exact aq _ _ _ (by omega) (CutL (b:=by simp;omega)) ⟨p+1,_,rfl,hpl,by simp;omega,hS3,rfl,rfl⟩
   ·have hpe:p=r.length:=by omega
    subst hpe;have p1:¬ (r.length:Int)<(r.length:Int):=by omega
    have hP2:=hP.out;rw [aij,ajf,aid,<- hS2] at hP2;replace hP2:=hid hP2;clear hP hJ2 hS hS2;refine wk ?_;exact aq _ _ _ (by omega) (CutL (b:=by simp;omega)) ⟨j+1,_,rfl,hjl,by omega,hP2,rfl,rfl⟩
  ·have hje:j=x.length:=by omega
   subst hje;have j1:¬ (x.length:Int)<(x.length:Int):=by omega
   have hJ2:=hJ.out;rw [aij,ajf,aid,<- hS] at hJ2;replace hJ2:=hid hJ2;clear hJ hS hI3;refine wk ?_;exact aq _ _ _ (by omega) (CutL (b:=by simp)) ⟨i+1,_,rfl,hlt,hJ2,rfl,rfl⟩
 ·have hie:i=2:=by omega
  subst hie;have hI2:=hI.out;rw [ai7 (by omega),ajf,aid] at hI2;subst hI2;clear hI hR;refine wk ?_;exact ab rfl h.out
def agA (u:Upd):Prop:=dnB u.dn/\dnB u.to/\u.attrs.length<=1100000/\∀ a∈u.attrs,a.2.length<=1100000
theorem af8 {u:Upd} (hu:agA u) (h:K (.agg (dO (lD u))) L):afB 72 [.agg (dO u)] L K:=by
 obtain ⟨k,d,t,l⟩:=u;obtain ⟨hd,ht,hl,hv⟩:=hu;simp only [dO,lD] at hd ht hl hv h ⊢;obtain ⟨t',ht'⟩:=aaR ((if k=4 then t else []));obtain ⟨l',hl'⟩:=aaR ((if k=2 then [] else l));rw [ht',hl'] at h;have hdt:dnB t':=by
  rw [<- ht'];split
  ·exact ht
  ·exact ⟨by simp,by simp⟩
 have hll:l'.length<=1100000:=by
  rw [<- hl'];split
  ·simp
  ·exact hl
 have hvv:∀ a∈l',a.2.length<=1100000:=by
  rw [<- hl'];split
  ·simp
  ·exact hv
 replace h:=hid h;have kk1:Hid (∀ {cap:Option Nat} {L:List Blk} {K:afC},K (dnA d) L->afB 25 [dnA d,.sl [] 0 cap] L K):=@hid _ (by intro cap L K q;exact Og hd.1 hd.2 q);have kk2:Hid (∀ {cap:Option Nat} {L:List Blk} {K:afC},K (dnA t') L->afB 25 [dnA t',.sl [] 0 cap] L K):=@hid _ (by intro cap L K q;exact Og hdt.1 hdt.2 q);refine aa Rg (by simp [uJ]) ?_;simp only [uJ,ag]
 iterate 3 first
  | refine cP ?_
  | (first|refine bY (by kernel_rfl) ?_|refine bj (by kernel_rfl) ?_|refine bm ?_|refine fy ?_|refine cT (fun _=>?_)|refine a8 ?_|refine b9 ?_)
    simp (config:={ maxSteps:=2000000 }) only [Kon,push_cast,reduceIte,Nat.reduceEqDiff,Nat.reduceAdd,Nat.reduceMul,Nat.reduceSub,Nat.reduceLT,Nat.reduceLeDiff,Int.reduceLT,Int.reduceLE,Int.reduceAdd,Int.reduceSub,Int.reduceNeg,Int.reduceToNat,Int.reduceEq,reduceCtorEq, *]
  | (first|refine bU (by kernel_rfl) ?_|refine bT ?_|refine bZ ?_|refine cY (a7 ?_))
    simp only [push_cast,reduceIte,Nat.reduceEqDiff,Nat.reduceAdd,Nat.reduceMul,Nat.reduceSub,Nat.reduceLT,Nat.reduceLeDiff,Int.reduceLT,Int.reduceLE,Int.reduceAdd,Int.reduceSub,Int.reduceNeg,Int.reduceToNat,Int.reduceEq,reduceCtorEq, *]
  | exact cU
  | first|apply cV|apply bV|apply cW|apply bW|apply cX|apply bX
  | refine br ?_
  | first|refine bp rfl ?_|refine bq rfl ?_|refine aW rfl ?_ ?_|refine bz rfl (fun _=>?_) (fun _=>?_)|refine bw rfl (fun _=>?_) (fun _=>?_)
  | ((first|refine aV (fun _=>?_) (fun _=>?_)|refine a6 (fun _=>?_) (fun _=>?_))<;>try simp (config:={ maxSteps:=2000000 }) only [Kon,push_cast,reduceIte,Nat.reduceEqDiff,Nat.reduceAdd,Nat.reduceMul,Nat.reduceSub,Nat.reduceLT,Nat.reduceLeDiff,Int.reduceLT,Int.reduceLE,Int.reduceAdd,Int.reduceSub,Int.reduceNeg,Int.reduceToNat,Int.reduceEq,reduceCtorEq, *])
  | refine And.intro trivial ?_
  | refine And.intro (by omega) ?_
  | refine bA rfl (fun _=>?_) (fun _=>?_)
  | refine And.intro ?_ ?_
 refine uq (fun T2 L2=>∃ tA,tA.frz=dnA t'/\T2=[(2,.ptr (L.length+1) 0),(1,.ptr L.length 0)]/\L2=L++[.cells [.int .i64 k,dnA d,tA,.sl (aU l) l.length none],.cells [.int .i64 0,.sl [] 0 (some 0),.sl [] 0 (some 0),.sl [] 0 (some 0)]]) ?_ ?_
 ·by_cases h4:k=4
  ·rw [if_pos h4] at ht';subst ht';clear hl' h kk1 kk2;refine wk ?_;exact gV _ _ (CutS (b:=by simp)) ⟨_,by simp only [AV.frz,aO],rfl,rfl⟩
  ·rw [if_neg h4] at ht';subst ht';clear hl' h kk1 kk2;refine wk ?_;exact gV _ _ (CutS (b:=by simp)) ⟨.sl [] 0 (some 0),rfl,rfl,rfl⟩
 rintro _ _ ⟨tA,htA,rfl,rfl⟩ -;refine uq (fun T2 L2=>∃ lA,lA.frz=.sl (aU l') l'.length none/\T2=[(2,.ptr (L.length+1) 0),(1,.ptr L.length 0)]/\L2=L++[.cells [.int .i64 k,dnA d,tA,lA],.cells [.int .i64 0,.sl [] 0 (some 0),.sl [] 0 (some 0),.sl [] 0 (some 0)]]) ?_ ?_
 ·by_cases h2:k=2
  ·rw [if_pos h2] at hl';subst hl';clear ht' h kk1 kk2 htA;refine wk ?_;exact gV _ _ (CutS (b:=by simp)) ⟨.sl [] 0 (some 0),rfl,rfl,rfl⟩
  ·rw [if_neg h2] at hl';subst hl';clear ht' h kk1 kk2 htA;refine wk ?_;exact gV _ _ (CutS (b:=by simp)) ⟨_,by simp only [AV.frz,dp],rfl,rfl⟩
 rintro _ _ ⟨lA,hlA,rfl,rfl⟩ -;refine afe L.length (c:=[.int .i64 k,dnA d,tA,lA]) (by simp) ?_;have eL:(L++[Blk.cells [.int .i64 k,dnA d,tA,lA],.cells [.int .i64 0,.sl [] 0 (some 0),.sl [] 0 (some 0),.sl [] 0 (some 0)]]).set L.length (.cells (AV.frzL [.int .i64 k,dnA d,tA,lA]))=L++[.cells [.int .i64 k,dnA d,dnA t',.sl (aU l') l'.length none],.cells [.int .i64 0,.sl [] 0 (some 0),.sl [] 0 (some 0),.sl [] 0 (some 0)]]:=by
  simp only [AV.frzL,htA,hlA,AV.frz,aO];simp
 rw [eL];clear eL htA hlA ht' hl';replace hvv:=hid hvv;refine wk ?_;refine ⟨⟨bf (kk2.out ⟨rfl,rfl⟩) rfl,bf (kk1.out ⟨rfl,rfl⟩) rfl⟩,?_⟩;clear kk1 kk2;refine wk ?_;refine lF (L.length+2) 3 2 (c:=[.int .i64 k,dnA d,dnA t',.sl [] 0 (some 0)]) (l:=[]) (n:=0) (by simp) rfl (ahQ 2).symm ?_;refine ah (fun m T' L'=>∃ (i:Nat) (D:List AV) (X:List Blk),m=l'.length - i/\i<=l'.length/\Hid (D=aU (l'.take i))/\T'=[(26,.int .i64 (i:Int)),(25,.int .i64 l'.length),(24,.sl (aU l') l'.length none),(3,.ptr (L.length+2) 0),(2,.ptr (L.length+1) 0),(1,.ptr L.length 0)]/\L'=L++(.cells [.int .i64 k,dnA d,dnA t',.sl (aU l') l'.length none] :: .cells [.int .i64 0,.sl [] 0 (some 0),.sl [] 0 (some 0),.sl [] 0 (some 0)] :: .cells [.int .i64 k,dnA d,dnA t',.gsl D i (L.length+3) 2] :: .spare i 2::X)) (CutS (b:=by simp)) ⟨0,[],[],rfl,ahp _,hid rfl,rfl,by simp⟩ ?_;rintro _ _ _ ⟨i,D,X,rfl,hi,hD,rfl,rfl⟩;by_cases hlt:i<l'.length
 ·have g3:(i:Int)<(l'.length:Int):=by omega
  have w2:=ace i (by omega);have e3:=ql hlt;have e4:i * 2+2<=(aU l').length:=by rw [rQ];omega
  obtain ⟨⟨n,vs⟩,ha⟩:∃ a,l'.getD i ([],[])=a:=⟨_,rfl⟩;have hvl:vs.length<=1100000:=hvv.out (n,vs) (by rw [<- ha];simp [hlt]);rw [ha] at e3;simp only [atA] at e3;have htk:aU (l'.take (i+1))=D++[.str n,.sl (vs.map AV.str) vs.length none]:=by
   rw [hD.out,ahK hlt,show l'[i]=(n,vs) by rw [<- ha];simp [hlt],KU];rfl
  have e0:=lq vs;replace htk:=hid htk;clear ha hD hvv;refine wk ?_;exact aq _ _ _ (by omega) (CutL (b:=by simp)) ⟨i+1,_,_,rfl,hlt,hid htk.out.symm,rfl,rfl⟩
 ·have hke:i=l'.length:=by omega
  subst hke;have g3:¬ (l'.length:Int)<(l'.length:Int):=by omega
  have hD2:=hD.out;rw [ahA] at hD2;have e0:=dp l';subst hD2;clear hD hvv;refine wk ?_;refine ay ?_;simp only [AV.frz,AV.frzL,aO,e0];exact ab (by simp only [AV.refs,AV.refsL,cQ,ko];rfl) h.out
end Go.Proofs.YtobihfefmlgaoaaGreat.Av
