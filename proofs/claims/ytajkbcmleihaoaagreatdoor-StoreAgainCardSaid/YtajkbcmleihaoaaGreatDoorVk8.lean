/- Joined texts of the walk, made small by a program. -/
import Derived.Test.YtajkbcmleihaoaaGreatDoorVk4
import Derived.Test.YtajkbcmleihaoaaGreatDoorRows
import Derived.KernelRfl
import Derived.Test.YtajkbcmleihaoaaGreatDoorVk7
import Derived.Laws.RangeAny
import Derived.Laws.RangeString
import Derived.Test.YtajkbcmleihaoaaGreatDoorVk5
import Derived.Shelf.Strings.Builder1
import Derived.Shelf.Strings.Builder2
import Derived.Shelf.Strings.OnBuilder
import Derived.Shelf.Small.Utf8
import Derived.Shelf.Small.Bits
import Derived.Shelf.Small.Strs
import Derived.Shelf.Strconv.Itoa0
import Derived.Shelf.Strings.Search1
import Derived.Shelf.Strings.Search2
import Derived.Shelf.Strings.Cut
import Derived.Shelf.LaysM
import Derived.Shelf.Strings.Shaped
import Derived.Shelf.Sort.Plain
import Derived.Shelf.Strings.Prefix
import Derived.Shelf.Strings.Runes
import Derived.Shelf.Strings.AsciiSet
import Derived.Shelf.Bits.Mul64
import Derived.Shelf.Unicode.DecodeSlow
import Derived.Shelf.Unicode.DecodeAny
import Derived.Shelf.Unicode.DecodeLast
import Derived.Shelf.Slices.Equal
import Derived.Shelf.Slices.In.SortNone
import Derived.Ground.SlsfProg
import Derived.Shelf.SlSortCmp.Insertion
import Derived.Shelf.SlSortCmp.SiftDown1
import Derived.Shelf.SlSortCmp.HeapSort1
import Derived.Shelf.SlSortCmp.Insertion1
import Derived.Shelf.SlSortCmp.Median1
import Derived.Shelf.SlSortCmp.Pivot1
import Derived.Shelf.SlSortCmp.ReverseRange1
import Derived.Shelf.SlSortCmp.PartialInsertion1
import Derived.Shelf.SlSortCmp.PartitionEqual1
import Derived.Shelf.SlSortCmp.Partition1
import Derived.Shelf.SlSortCmp.Pdq1
import Derived.Shelf.SlSortCmp.Whole1
import Derived.Test.YtajkbcmleihaoaaGreatDoorProg
import Derived.Sort.Walk0
set_option linter.unusedSimpArgs false
set_option linter.unusedVariables false
set_option maxRecDepth 100000
namespace Go.Proofs.YtajkbcmleihaoaaGreatDoor.Av
open Go
variable {s typ b:List UInt8}{ip:Nat}{cap:Option Nat}{bl:Bool}{d:UInt8}
def N6:LSO:=[Al 2]
def N5:LSO:=[Aa 5 0,B9 6 5,Aa 7 6,.grp none 7 false
 [Ah 8 7 0,Bw 9 7 8,AD 10 7 9 32]
 11 (tm 10),Aa 12 11,.grp none 12 false
 [Ah 13 12 0,BA 14 12 13 0,og 15 12 false (.conv .i32 (tm 14)),BB 16 12 143 15,Bx 17 12 16]
 18 (tm 17)]
def N4:LSO:=[Al 2]
def N3:LSO:=[Aa 19 0,o1 20 (.rangeS (tm 19))]
def N2:LSO:=[o1 21 (.nextS (tm 20)),Am 22 21]
def N1:LSO:=[AS 23 21,Aa 4 23]
def NZ:LSO:=[Aa 24 4,Ag 25 143 24,A6 26 25,Aa 27 26,.grp none 27 true
 [An 28 27 4,og 29 27 true (.bin .lss (tm 28) (.av (.int .i32 48))),An 30 27 29,.grp (some (27,true)) 30 false
 [Ah 31 30 4,og 32 30 false (.bin .gtr (tm 31) (.av (.int .i32 57)))]
 33 (tm 32)]
 34 (tm 33),Aa 35 34,.grp none 35 true
 [An 36 35 4,og 37 35 true (.bin .neq (tm 36) (.av (.int .i32 45)))]
 38 (tm 37)]
def NY:LSO:=[Al 2]
def NX:LSO:=[AC 2]
def Nh:aI:=⟨39,(ahW N6 [] (.seq (ahW N5 Ci (ahY 18 (.sreg N4 []))) (.seq (ahW N3 Cd (ahZ 0 (ahW N2 [] (.seq (ah0 22 0) (.block 1 (ahW N1 Cd (ahW NZ Ch (ahY 38 (.sreg NY []))))))))) (ahW NX [] .ret)))),[(.tmp 2)]⟩
attribute [push_cast] N6 N5 N4 N3 N2 N1 NZ NY NX
theorem ST:ah1 101=ah2 Nh:=ah5
def IK:LSO:=[Al 2]
def IJ:LSO:=[Aa 3 0,o1 4 (.bin .geq (tm 3) (.av (.int .i32 97))),Aa 5 4,.grp none 5 true
 [An 6 5 0,og 7 5 true (.bin .leq (tm 6) (.av (.int .i32 122)))]
 8 (tm 7),Aa 9 8,.grp none 9 false
 [Ah 10 9 0,og 11 9 false (.bin .geq (tm 10) (.av (.int .i32 65))),Ah 12 9 11,.grp (some (9,false)) 12 true
 [An 13 12 0,og 14 12 true (.bin .leq (tm 13) (.av (.int .i32 90)))]
 15 (tm 14)]
 16 (tm 15),Aa 2 16]
def GM:aI:=⟨17,(ahW IK [] (ahW IJ Ch .ret)),[(.tmp 2)]⟩
attribute [push_cast] IK IJ
theorem QL:ah1 143=ah2 GM:=ah5
def PI:LSO:=[A3 3 1,Al 4]
def PH:LSO:=[Aa 5 0,o1 6 (.mkfn 145 [(tm 3)]),Ax 7 144 5 6,Aa 4 7]
def QM:aI:=⟨8,(ahW PI [] (ahW PH Cf .ret)),[(.tmp 4)]⟩
attribute [push_cast] PI PH
theorem UB:ah1 102=ah2 QM:=ah5
def K1:LSO:=[A3 2 0,Al 3]
def K0:LSO:=[Ad 4 0 2,Ac 5 1 4,Ag 6 103 5,Ac 7 1 1,Ag 8 103 7,Be 9 6 8,Aa 3 9]
def JT:aI:=⟨10,(ahW K1 [] (.seq (.sdreg K0 [.pure,(.read 0 0),(.read 0 0),(.read 0 0)] Ch) .ret)),[(.tmp 3)]⟩
attribute [push_cast] K1 K0
theorem Rf:ah1 145=ah2 JT:=ah5
def KR:LSO:=[Aw 2,Aw 3,Al 4]
def KQ:LSO:=[Aq 5]
def KP:LSO:=[Al 6]
def KO:LSO:=[Ab 7 0]
def KN:LSO:=[Aa 11 7,Aa 12 0,A8 13 12,Ao 14 11 13,Aa 15 14,.grp none 15 true
 [An 16 15 0,An 17 15 7,og 18 15 true (.idxS (tm 16) (tm 17)),og 19 15 true (.bin .neq (tm 18) (.av (.int .u8 44)))]
 20 (tm 19),Aa 21 20,.grp none 21 true
 [An 22 21 0,An 23 21 7,og 24 21 true (.idxS (tm 22) (tm 23)),og 25 21 true (.bin .neq (tm 24) (.av (.int .u8 43)))]
 26 (tm 25)]
def KM:LSO:=[Aa 27 0,Aa 28 7,BC 29 27 28,Aa 8 29]
def KL:LSO:=[Aa 30 8,o1 31 (.bin .eql (tm 30) (.av (.int .u8 32))),Aa 6 31]
def KK:LSO:=[Aa 33 8,o1 34 (.bin .neq (tm 33) (.av (.int .u8 92))),Aa 32 34]
def KJ:LSO:=[Aa 35 8,BT 36 35,Aa 37 36,.grp none 37 false
 [Ah 38 37 8,og 39 37 false (.call 146 [(.av (.str [34,59,60,62])),(tm 38)]),BU 40 37 39 0]
 41 (tm 40),Aa 42 41,.grp none 42 false
 [Ah 43 42 5,AH 44 42 43,Bo 45 42 44 0,Ah 46 42 45,.grp (some (42,false)) 46 true
 [An 47 46 8,BD 48 46 47,An 49 46 48,.grp (some (46,true)) 49 false
 [Ah 50 49 8,og 51 49 false (.bin .eql (tm 50) (.av (.int .u8 35)))]
 52 (tm 51)]
 53 (tm 52)]
 54 (tm 53)]
def KI:LSO:=[Aw 2,Aw 3,Al 4]
def IG:LSO:=[Aa 56 7,Aj 57 56 1,Aa 58 0,A8 59 58,Ao 60 57 59,Aa 61 60,.grp none 61 true
 [An 62 61 0,An 63 61 7,og 64 61 true (.bin .add (tm 63) (iv 1)),og 65 61 true (.idxS (tm 62) (tm 64)),
 og 66 61 true (.call 146 [(.av (.str [34,43,44,59,60,62,92,32,35,61])),(tm 65)]),og 67 61 true (.bin .geq (tm 66) (iv 0))]
 68 (tm 67),Aa 55 68]
def IF:LSO:=[Aa 69 7,Aj 70 69 1,Aa 7 70]
def IE:LSO:=[Aa 71 0,Aa 72 7,BC 73 71 72,Aa 8 73]
def ID:LSO:=[Aa 75 7,Aj 76 75 2,Aa 77 0,A8 78 77,Ao 79 76 78,Aa 74 79]
def IC:LSO:=[Aa 81 0,Aa 82 7,Aj 83 82 1,Aa 84 7,Aj 85 84 3,o1 86 (.slS (tm 81) (some (tm 83)) (some (tm 85))),Ag 87 183 86,Aa 80 87,Am 88 80,Ap 89 80,Aa 9 88,Aa 10 89]
def IB:LSO:=[Aa 90 10,A6 91 90]
def IA:LSO:=[Aw 2,Aw 3,Al 4]
def Iz:LSO:=[Aa 92 9,Bf 93 92 0,Aa 8 93]
def Iy:LSO:=[Aa 94 7,Aj 95 94 2,Aa 7 95]
def Ix:LSO:=[Aw 2,Aw 3,Al 4]
def Iw:LSO:=[Aa 96 5,Aa 97 8,BE 98 97,Bp 99 96 98,Aa 5 99]
def Iv:LSO:=[Aa 100 7,Aj 101 100 1,Aa 7 101]
def Iu:LSO:=[Aa 102 5,Bg 103 102,Aa 104 0,Aa 105 7,BF 106 104 105,Aa 107 6,A6 108 107,Aa 2 103,Aa 3 106,Aa 4 108]
def JS:aI:=⟨109,(ahW KR [] (ahW KQ [] (ahW KP [] (ahW KO [] (.seq (ahZ 0 (.seq (ahW KN Ck (ah0 26 0)) (.block 1 (ahW KM Cf (ahW KL Ce (.seq (.block 2 (ahW KK Ce (ahX 32 (ahW KJ Ci (ahY 54 (.sreg KI []))) (ahW IG Ck (ahX 55 (ahW IF Ce (.sreg IE Cf)) (ahW ID Ci (ahX 74 (ahW IC C6 (.seq (ahW IB Cd (ahY 91 (.sreg IA []))) (ahW Iz Ce (.sreg Iy Ce)))) (ahW Ix [] .ret)))))))) (ahW Iw Cg (.sreg Iv Ce)))))))) (.seq (.sdreg Iu [.pure,(.read 0 0),.pure,.pure,(.read 0 0),.pure,.pure,.pure,.pure] [true,true,true,false,false,false,false,false,false,false]) .ret)))))),[(.tmp 2),(.tmp 3),(.tmp 4)]⟩
attribute [push_cast] KR KQ KP KO KN KM KL KK KJ KI IG IF IE ID IC IB IA Iz Iy Ix Iw Iv Iu
theorem Re:ah1 154=ah2 JS:=ah5
def LD:LSO:=[Aq 2,Ab 3 0]
def LC:LSO:=[Aa 10 0,A8 11 10,A9 12 11 4096]
def LB:LSO:=[Aq 2,Ab 3 5]
def LA:LSO:=[Aa 13 0,B9 14 13]
def Lz:LSO:=[Aq 2,Ab 3 0]
def Ly:LSO:=[Aq 4]
def Lx:LSO:=[Aq 5]
def Lw:LSO:=[Aa 15 4,Af 16 15,A0 17 16 32,Aa 18 17,.grp none 18 false
 [Ah 19 18 5,AH 20 18 19,Bo 21 18 20 8]
 22 (tm 21)]
def Lv:LSO:=[Aq 2,Ab 3 9]
def Lu:LSO:=[Aa 24 0,o1 25 (.call 153 [(tm 24),(.av (.str [61]))]),Aa 23 25,Am 26 23,Ap 27 23,AS 28 23,Aa 6 26,Aa 7 27,Aa 8 28]
def Ji:LSO:=[Aa 29 8,A6 30 29,Aa 31 30,.grp none 31 false
 [Ah 32 31 6,BB 33 31 101 32,Bx 34 31 33]
 35 (tm 34)]
def Jh:LSO:=[Aq 2,Ab 3 4]
def Jg:LSO:=[Aa 36 5,Aa 37 6,Ax 38 102 36 37]
def Jf:LSO:=[Aq 2,Ab 3 21]
def Je:LSO:=[Aa 40 7,Ag 41 154 40,Aa 39 41,Am 42 39,Ap 43 39,AS 44 39,Aa 9 42,Aa 7 43,Aa 8 44]
def Jd:LSO:=[Aa 45 8,A6 46 45]
def Jc:LSO:=[Aq 2,Ab 3 4]
def Jb:LSO:=[Aa 47 5,Aa 48 6,Aa 49 9,o1 50 (.build [(.str []),(.str [])] [(0,(1,(tm 48))),(1,(1,(tm 49)))]),
 o1 51 (.bslice false 2 1 [(.str []),(.str [])] [(0,(2,(tm 50)))]),o1 52 (.app 1 2 32 [(.str []),(.str [])] (tm 47) (tm 51)),Aa 5 52]
def Ja:LSO:=[Aa 53 7,B9 54 53]
def I9:LSO:=[Aa 55 4,Aa 56 5,Bc 57 56,By 58 55 57,Aa 2 58,Ab 3 0]
def I8:LSO:=[Aa 59 7,Bf 60 59 0,o1 61 (.bin .eql (tm 60) (.av (.int .u8 44)))]
def I7:LSO:=[Aa 62 4,Aa 63 5,Bc 64 63,By 65 62 64,Aa 4 65,Aq 5]
def I6:LSO:=[Aa 66 7,BV 67 66 1,Aa 0 67]
def JW:aI:=⟨68,(ahW LD [] (.seq (ahW LC Ce (ahY 12 (.sreg LB []))) (.seq (ahW LA Cd (ahY 14 (.sreg Lz []))) (ahW Ly [] (ahW Lx [] (ahZ 0 (.block 1 (.seq (ahW Lw Cg (ahY 22 (.sreg Lv []))) (ahW Lu Cs (.seq (ahW Ji Cf (ahY 35 (.sreg Jh []))) (.seq (ahW Jg Ce (ahY 38 (.sreg Jf []))) (ahW Je Cs (.seq (ahW Jd Cd (ahY 46 (.sreg Jc []))) (ahW Jb Ch (.seq (ahW Ja Cd (ahY 54 (.sreg I9 Cw))) (.seq (ahW I8 Ce (ahX 61 (.sreg I7 Cw) .skip)) (.sreg I6 Ce))))))))))))))))),[(.tmp 2),(.tmp 3)]⟩
attribute [push_cast] LD LC LB LA Lz Ly Lx Lw Lv Lu Ji Jh Jg Jf Je Jd Jc Jb Ja I9 I8 I7 I6
theorem Ri:ah1 118=ah2 JW:=ah5
def Gt:LSO:=[Aw 2]
def Gs:LSO:=[Aq 3]
def Gr:LSO:=[Aa 7 0,o1 8 (.s2b (tm 7)),Af 9 8,Ab 10 0]
def Gq:LSO:=[Ao 11 10 9]
def Gp:LSO:=[Aa 12 10,Ak 13 1 8 10,Ac 14 1 13,Aa 4 12,Aa 5 14]
def Gn:LSO:=[Aa 15 4,A0 16 15 0,Aa 17 16,.grp none 17 true
 [An 18 17 5,BD 19 17 18,An 20 17 19,.grp (some (17,true)) 20 false
 [Ah 21 20 5,og 22 20 false (.bin .eql (tm 21) (.av (.int .u8 35)))]
 23 (tm 22)]
 24 (tm 23),Aa 25 24,.grp none 25 false
 [Ah 26 25 4,Ah 27 25 0,Bw 28 25 27,og 29 25 false (.bin .sub (tm 28) (iv 1)),og 30 25 false (.bin .eql (tm 26) (tm 29)),Ah 31 25 30,.grp (some (25,false)) 31 true
 [An 32 31 5,BD 33 31 32]
 34 (tm 33)]
 35 (tm 34),Aa 6 35]
def Gm:LSO:=[Aa 37 5,BT 38 37,Aa 36 38]
def Gl:LSO:=[Aa 39 3,o1 40 (.app 1 1 1 [(.int .u8 0)] (tm 39) (.av (.str [92,48,48]))),Aa 3 40]
def Gk:LSO:=[Aa 42 6,Aa 43 42,.grp none 43 false
 [Ah 44 43 5,og 45 43 false (.call 146 [(.av (.str [34,43,44,59,60,62,92])),(tm 44)]),BU 46 43 45 0]
 47 (tm 46),Aa 41 47]
def Gj:LSO:=[Aa 48 3,o1 49 (.bslice false 1 1 [(.int .u8 0)] [(0,(1,(.av (.int .u8 92))))]),Bp 50 48 49,Aa 3 50]
def D7:LSO:=[Aa 51 3,Aa 52 5,BE 53 52,Bp 54 51 53,Aa 3 54]
def D6:LSO:=[Aj 55 10 1,Aa 10 55]
def D5:LSO:=[Aa 56 3,Bg 57 56,Aa 2 57]
def zu:aI:=⟨58,(ahW Gt [] (ahW Gs [] (.seq (ahW Gr Cp (ahZ 0 (ahW Gq [] (.seq (ah0 11 0) (.seq (.block 1 (ahW Gp Co (ahW Gn Ch (.seq (.block 2 (ahW Gm Ce (ahX 36 (ahW Gl Ce (.exit 1)) (ahW Gk Cf (ahX 41 (.sreg Gj Cf) .skip))))) (.sreg D7 Cg))))) (.sreg D6 Cd)))))) (ahW D5 Ce .ret)))),[(.tmp 2)]⟩
attribute [push_cast] Gt Gs Gr Gq Gp Gn Gm Gl Gk Gj D7 D6 D5
theorem O3:ah1 105=ah2 zu:=ah5
def Lc:LSO:=[Ab 2 0]
def Lb:LSO:=[Aa 7 0,Af 8 7,Ab 9 0]
def La:LSO:=[Ao 10 9 8]
def K9:LSO:=[Aa 11 9,Ak 12 1 7 9,Ac 13 1 12,Aa 3 11,Aa 4 13]
def K8:LSO:=[Aa 15 3,A0 16 15 32,Aa 14 16]
def K7:LSO:=[Ab 2 9]
def K6:LSO:=[Aa 18 4,Af 19 18,A0 20 19 0,Aa 17 20]
def K5:LSO:=[Ab 2 2]
def K4:LSO:=[Aa 21 4,Af 22 21,Ab 23 0]
def K3:LSO:=[Ao 24 23 22]
def IV:LSO:=[Aa 25 23,Ak 26 2 21 23,Az 27 2 26,BG 6,Aa 5 25,Ai 2 6 27]
def IU:LSO:=[Aa 29 5,A0 30 29 8,Aa 28 30]
def IT:LSO:=[Ab 2 9]
def IS:LSO:=[Ad 32 0 6,Ac 33 1 32,Ag 34 101 33,A6 35 34,Aa 31 35]
def IR:LSO:=[Ab 2 20]
def IQ:LSO:=[Aa 37 4,Aa 38 5,o1 39 (.slV 2 (tm 37) none (some (tm 38)) none),Ad 40 0 6,Ac 41 1 40,Ax 42 102 39 41,Aa 36 42]
def IP:LSO:=[Ab 2 21]
def IN:LSO:=[Aj 43 23 1,Aa 23 43]
def IM:LSO:=[Aj 44 9 1,Aa 9 44]
def IL:LSO:=[Ab 2 0]
def JU:aI:=⟨45,(ahW Lc [] (.seq (ahW Lb [] (ahZ 0 (ahW La [] (.seq (ah0 10 0) (.seq (.block 1 (ahW K9 Co (.seq (.block 2 (ahW K8 Ce (ahX 14 (ahW K7 [] .ret) (ahW K6 Cf (ahY 17 (.sreg K5 [])))))) (ahW K4 [] (ahZ 3 (ahW K3 [] (.seq (ah0 24 3) (.seq (.block 4 (ahW IV Co (.block 5 (ahW IU Ce (ahX 28 (ahW IT [] .ret) (ahW IS Cg (ahX 31 (ahW IR [] .ret) (.seq (.sdreg IQ [.pure,.pure,(.read 0 0),.pure,(.read 0 0)] Ch) (ahY 36 (.sreg IP [])))))))))) (.sreg IN Cd))))))))) (.sreg IM Cd)))))) (ahW IL [] .ret))),[(.tmp 2)]⟩
attribute [push_cast] Lc Lb La K9 K8 K7 K6 K5 K4 K3 IV IU IT IS IR IQ IP IN IM IL
theorem Rg:ah1 75=ah2 JU:=ah5
def Lt:LSO:=[Aw 2,Ab 3 0]
def Lr:LSO:=[Aa 11 0,Ag 12 75 11,Aa 4 12]
def Lq:LSO:=[Aa 13 4,Ay 14 13 0]
def Lp:LSO:=[Aa 15 4,Aw 2,Aa 3 15]
def Lo:LSO:=[Ab 5 0]
def Ln:LSO:=[Aa 16 0,Af 17 16,Ab 18 0]
def Lm:LSO:=[Ao 19 18 17]
def Ll:LSO:=[Ak 20 1 16 18,Ac 21 1 20,Aa 7 21]
def Lk:LSO:=[Aa 22 7,Af 23 22,Ab 24 0]
def Lj:LSO:=[Ao 25 24 23]
def I5:LSO:=[Ak 26 2 22 24,Az 27 2 26,BG 9,Ai 2 9 27]
def I4:LSO:=[Ad 28 1 9,Ac 29 1 28,A8 30 29,A9 31 30 4096]
def I3:LSO:=[Aw 2,Ab 3 5]
def I2:LSO:=[Aa 32 5,Aj 33 32 1,Aa 5 33]
def I1:LSO:=[Aj 34 24 1,Aa 24 34]
def I0:LSO:=[Aj 35 18 1,Aa 18 35]
def IZ:LSO:=[Aa 36 0,o1 37 (.call 76 [(tm 36),(.av (.bool false))]),Aa 10 37]
def IY:LSO:=[Aa 38 10,A8 39 38,A9 40 39 4096]
def IX:LSO:=[Aw 2,Ab 3 5]
def IW:LSO:=[Aa 41 10,Aa 2 41,Ab 3 0]
def JV:aI:=⟨42,(ahW Lt [] (.seq (ahW Lr Ce (ahW Lq Cd (ahY 14 (.sreg Lp Cj)))) (ahW Lo [] (.seq (ahW Ln [] (ahZ 0 (ahW Lm [] (.seq (ah0 19 0) (.seq (.block 1 (ahW Ll Ce (ahW Lk [] (ahZ 2 (ahW Lj [] (.seq (ah0 25 2) (.seq (.block 3 (ahW I5 Ce (.seq (ahW I4 Cf (ahY 31 (.sreg I3 []))) (.sreg I2 Ce)))) (.sreg I1 Cd)))))))) (.sreg I0 Cd)))))) (ahW IZ Ce (.seq (ahW IY Ce (ahY 40 (.sreg IX []))) (ahW IW Cj .ret))))))),[(.tmp 2),(.tmp 3)]⟩
attribute [push_cast] Lt Lr Lq Lp Lo Ln Lm Ll Lk Lj I5 I4 I3 I2 I1 I0 IZ IY IX IW
theorem Rh:ah1 35=ah2 JV:=ah5
def Ob:LSO:=[Aw 2,Ab 3 0]
def Oa:LSO:=[Aa 7 0,Ag 8 35 7,Aa 6 8,Am 9 6,Ap 10 6,Aa 4 9,Aa 5 10]
def N9:LSO:=[Aa 11 5,Ay 12 11 0]
def N8:LSO:=[Aa 13 5,Aw 2,Aa 3 13]
def N7:LSO:=[Aa 14 0,o1 15 (.call 76 [(tm 14),(.av (.bool true))]),Aa 2 15,Ab 3 0]
def Ni:aI:=⟨16,(ahW Ob [] (.seq (ahW Oa Ch (ahW N9 Cd (ahY 12 (.sreg N8 Cj)))) (ahW N7 Ct .ret))),[(.tmp 2),(.tmp 3)]⟩
attribute [push_cast] Ob Oa N9 N8 N7
theorem SU:ah1 61=ah2 Ni:=ah5
def cE:LSO:=[Al 4]
def cD:LSO:=[Aa 5 0,Aa 6 1,Ax 7 167 5 6,Bd 8 7 0,Aa 4 8]
def bB:aI:=⟨9,(ahW cE [] (ahW cD Cg .ret)),[(.tmp 4)]⟩
attribute [push_cast] cE cD
theorem gm:ah1 144=ah2 bB:=ah5
def cY:LSO:=[Ab 4 0]
def cX:LSO:=[Aa 6 0,Af 7 6,Ab 8 0]
def cW:LSO:=[Ao 9 8 7]
def cV:LSO:=[Aa 10 8,Aa 5 10]
def cU:LSO:=[Aa 11 1,Aa 12 0,Aa 13 5,Ak 14 2 12 13,Az 15 2 14,B8 16 11 15]
def cT:LSO:=[Aa 17 5,Aa 4 17]
def cS:LSO:=[Aj 18 8 1,Aa 8 18]
def cR:LSO:=[Ab 4 (-1)]
def bL:aI:=⟨19,(ahW cY [] (.seq (ahW cX Cj (ahZ 0 (ahW cW [] (.seq (ah0 9 0) (.seq (.block 1 (ahW cV Cd (ahW cU Ci (ahY 16 (.sreg cT Cd))))) (.sreg cS Cd)))))) (ahW cR [] .ret))),[(.tmp 4)]⟩
attribute [push_cast] cY cX cW cV cU cT cS cR
theorem iT:ah1 167=ah2 bL:=ah5
def zL:LSO:=[Aw 4,Aw 5,Al 6]
def zK:LSO:=[Aa 7 0,Aa 8 1,Ax 9 182 7 8,Am 10 9,Ap 11 9,AS 12 9,Aa 4 10,Aa 5 11,Aa 6 12]
def jG:aI:=⟨13,(ahW zL [] (ahW zK Cs .ret)),[(.tmp 4),(.tmp 5),(.tmp 6)]⟩
attribute [push_cast] zL zK
theorem yN:ah1 153=ah2 jG:=ah5
def fS:LSO:=[Aw 4,Aw 5,Al 6]
def fR:LSO:=[Aa 8 0,Aa 9 1,Ax 10 194 8 9,Aa 7 10]
def fQ:LSO:=[Aa 11 7,Bd 12 11 0]
def fP:LSO:=[Aa 13 0,Aa 14 7,o1 15 (.slS (tm 13) none (some (tm 14))),Aa 16 0,Aa 17 7,Aa 18 1,A8 19 18,AB 20 17 19,BF 21 16 20,Aa 4 15,Aa 5 21,AC 6]
def fO:LSO:=[Aa 22 0,Aa 4 22,Aw 5,Al 6]
def bz:aI:=⟨23,(ahW fS [] (.seq (ahW fR Cf (ahW fQ Cd (ahY 12 (.sdreg fP [.pure,.pure,(.read 0 0),.pure,.pure,.pure,(.read 0 0),.pure,(.read 0 0),.pure] [true,true,true,false,false,false,false,false,false,false,false,false])))) (ahW fO Cp .ret))),[(.tmp 4),(.tmp 5),(.tmp 6)]⟩
attribute [push_cast] fS fR fQ fP fO
theorem fE:ah1 182=ah2 bz:=ah5
attribute [push_cast] GM QM JS zu JU JV Ni bB bL jG
set_option maxHeartbeats 8000000
set_option maxRecDepth 100000
theorem UV{n:Int}(b : -2147483648<=n)(a:n<2147483648):IntKind.i32.wrap n=n:=by simp only[IntKind.wrap,IntKind.bits,IntKind.signed];simp;omega
theorem VV{p:Nat}(h:p<s.length)(a:(s.getD p 0).toNat<128):Qv s p=((s.getD p 0).toNat,1):=by
 have e:s.getD p 0=s[p]:=by simp[h]
 rw[e]at a⊢;exact decode_ascii ⟨⟨s⟩⟩ p h a
theorem Ye{p:Nat}(h:p<s.length)(a:128<=(s.getD p 0).toNat):128<=(Qv s p).1:=by
 have e:s.getD p 0=s[p]:=by simp[h]
 rw[e]at a;exact(decode_high ⟨⟨s⟩⟩ p h a).1
def sM(x:Int):Bool:=(decide (97<=x)&&decide (x<=122)) ||(decide (65<=x)&&decide (x<=90))
theorem nV{x:Int}{L:List Blk}{K:aeX}(h:K (.bool (sM x)) L):aeW 143 [.int .i32 x] L K:=by
 refine aeV QL ?_
 all_goals (first|refine af rfl (Kto h ?_)|refine ag (Kto h ?_)|refine af (by simp only[AV.refs,AV.refsL, *];rfl) (Kto h ?_)|refine aB (af rfl (Kto h ?_))|(trace_state;fail))
 all_goals (first|(simp[sM, *];done)|(simp[sM, *];omega)|(simp[sM, *];intros;omega)|(simp_all[Hid,sM];done)|(simp_all[Hid,sM];omega))
def ON(x:Int):Bool:=sM x ||(decide (48<=x)&&decide (x<=57)) ||decide (x=45)
def wu(s:List UInt8):Bool:=decide (1<=s.length)&&decide (s.length<=32)&&sM ((s.getD 0 0).toNat:Int)&&s.all λc=>ON (c.toNat:Int)
theorem Rq{x:Int}(h:128<=x):ON x=false:=by simp only[ON,sM,ag3,Bool.and_eq_false_iff,decide_eq_false_iff_not];omega
theorem UZ{s:List UInt8}{L:List Blk}{K:aeX}(h:K (.bool (wu s)) L):aeW 101 [.str s] L K:=by
 have no:wu s=false->K (.bool false) L:=λe=>by rw[<- e];exact h
 replace no:=hid no;replace h:=hid h;refine aa ST (by simp[Nh]) ?_;simp only[Nh,am];by_cases y:s=[];subst y;refine wk ?_;exact ag (no.o rfl);have w:0<s.length:=afP.2 y;by_cases B:(32:Int)<(s.length:Int);refine wk ?_;exact ag (no.o (by simp[wu];omega));obtain⟨t,k⟩:=aeS (s.getD 0 0);have hr:=t.toNat_lt;have w0:IntKind.i32.wrap (t.toNat:Int)=(t.toNat:Int):=UV ah3 ah3;cases hl0:sM (t.toNat:Int)with
 | false =>
   have kk1:=@hid _ @nV;refine wk ?_;refine ag (no.o ?_);simp only[wu,k,hl0,ahz,agH]
 | true =>
   have kk1:=@hid _ @nV;refine wk ?_;refine ao (λn T' L'=>∃p,n=s.length-p/\p<=s.length/\Hid (∀c∈s.take p,ON (c.toNat:Int)=true)/\T'=[(20,.ptr L.length 0)]/\L'=L++[.siter s p]) ah7 ⟨0,rfl,ae5 _,hid ah4,rfl,rfl⟩ ?_;rintro _ _ _ ⟨p,rfl,F,g,rfl,rfl⟩;by_cases a:p<s.length
   .obtain⟨c,hc⟩:=aeS (s.getD p 0);have f:c∈s:=(by rw[<- hc];simp[a]);have j:s.take (p+1)=s.take p++[c]:=(by rw[afs a,<- hc];simp[a]);replace j:=hid j;have bad:ON (c.toNat:Int)=false->K (.bool false) L:=λe=>no.o (by have:(s.all λc=>ON (c.toNat:Int))=false:=List.all_eq_false.2 ⟨c,f,by rw[e];simp⟩;simp only[wu,this,ahz])
    replace bad:=hid bad;by_cases z:c.toNat<128
    .have hd:=VV a (by rw[hc];exact z);rw[hc]at hd;obtain⟨x,v⟩:∃x:Nat,c.toNat=x:=⟨_,rfl⟩;rw[v]at hd bad;have l:=hid v;clear v hc f z hr w0;cases i:sM (x:Int)with
     | true =>
       have kk1:=@hid _ @nV;refine wk ?_;refine ah8 ah3 ah7 ⟨p+1,rfl,a,hid λd b=>?_,rfl,rfl⟩;rw[j.o]at b;rcases ae2.1 b with h|h
       .exact g.o d h
       .rw[afl.1 h,l.o,ON,i];rfl
     | false =>
       repeat' first
        |refine lF ?_
        | (first|refine jO ah5 ?_|refine fW ah5 ?_|refine fZ ?_|refine Eb ?_|refine oA (fun _=>?_)|refine ed ?_|refine jQ ?_|refine nV ?_|refine dD (nV ⟨rfl,rfl⟩) (nV ⟨rfl,rfl⟩) ?_|refine bu (nV ⟨rfl,rfl⟩) ?_)
          refine sm ?_
        | (first|refine jK ah5 ?_|refine iX ?_|refine fY ?_|refine jP ?_|refine oF (d9 ?_))
          refine sl ?_
        |exact oB
        |first|apply oC|apply jL|apply oD|apply jM|apply oE|apply jN
        |refine gg ?_
        |refine fX ?_
        |first|refine gc rfl ?_|refine gf rfl ?_|refine cO rfl ?_ ?_|refine iM rfl (λ_=>?_) (λ_=>?_)|refine iL rfl (λ_=>?_) (λ_=>?_)
        |((first|refine cN (λ_=>?_) (λ_=>?_)|refine dZ (λ_=>?_) (λ_=>?_))<;>try refine sm ?_)
        |refine And.intro trivial ?_
        |refine And.intro ah3 ?_
        |refine eZ rfl (λ_=>?_) (λ_=>?_)
        |refine And.intro ?_ ?_
       .rename_i hb;refine af rfl (bad.o ?_);simp only[ON,i,ag0,ag3,Bool.and_eq_false_iff,decide_eq_false_iff_not];omega
       .rename_i hb;refine ah8 ah3 ah7 ⟨p+1,rfl,a,hid λd b=>?_,rfl,rfl⟩;rw[j.o]at b;rcases ae2.1 b with h|h
        .exact g.o d h
        .rw[afl.1 h,l.o];simp only[ON,i,ag0,afM,ae7,decide_eq_true_eq];omega
    .have hh:=Ye a (by rw[hc];omega);obtain⟨⟨x,C⟩,hd⟩:∃q,Qv s p=q:=⟨_,rfl⟩;rw[hd]at hh;simp only at hh;have m:=hid (bad.o (Rq (show(128:Int)<=(c.toNat:Int)by omega)));have i:sM (x:Int)=false:=by have:=Rq (show(128:Int)<=(x:Int)by omega);simp only[ON,ag3]at this;exact this.1.1
     have G:¬(x:Int)<48:=ah3;have D:(57:Int)<(x:Int):=ah3;have E:¬(x:Int)=45:=ah3;clear hc f hr w0;have kk1:=@hid _ @nV;refine wk ?_;exact af rfl m.o
   .have hke:p=s.length:=ah3;subst hke;have r:=h.o;have e:wu s=true:=by
     have A:(s.all λc=>ON (c.toNat:Int))=true:=afd.2 λc u=>g.o c (by rw[afo];exact u)
     simp only[wu,A,k,hl0,agL];simp;omega
    rw[e]at r;replace r:=hid r;clear e;refine wk ?_;exact af rfl r.o
variable {L:List Blk}{K:aeX}
abbrev Ava:=List UInt8×List UInt8
variable {r:List Ava}
def GR(a:Ava):List AV:=[.str a.1,.str a.2]
def bQ(r:List Ava):List AV:=r.flatMap GR
abbrev Zg(r:List Ava)(cap:Option Nat):AV:=.sl (bQ r) r.length cap
def Ed(r:List Ava)(typ:List UInt8):Bool:=r.any λa=>decide (aE a.1=aE typ)
theorem adA{a:Ava}(e:(a.1.length:Int)<=100000)(d:(typ.length:Int)<=100000)(c:L[ip]?=some (.cells [.str typ]))(h:K (.bool (decide (aE a.1=aE typ))) L):
  aeW 145 [.agg (GR a),.ptr ip 0] L K:=by
 obtain⟨t,v⟩:=a;replace h:=hid h;have b:ip<L.length:=(aeY.1 c).1;have g1:(L++[Blk.cells [.str t,.str v]])[ip]?=some (.cells [.str typ]):=by rw[ae3 b];exact c
 simp only[GR];refine aa Rf (by simp[JT]) ?_;simp only[JT,am];have kk1:=@aia _ _ _ _ (Gz e);have kk2:=@aia _ _ _ _ (Gz d);refine wk ?_;exact af rfl h.o
theorem iW(r:List Ava):(bQ r).length=r.length*2:=by
 induction r with
 |nil=>rfl
 |cons a r ih=>simp only[bQ,afT,afc,GR,afg,afF]at ih⊢;omega
theorem oc:∀{r:List Ava}{k:Nat},k<r.length->((bQ r).drop (k*2)).take 2=GR (r.getD k ([],[]))
 |a::r,0,_=>rfl
 |a::r,k+1,h=>by have b:=@oc r k (by simpa using h);rw[show(k+1)*2=k*2+1+1 by omega];simpa[bQ,GR]using b
theorem ZO(A:r.length<=100000)(p:∀a∈r,(a.1.length:Int)<=100000)(x:(typ.length:Int)<=100000)(v:L[ip]?=some (.cells [.str typ]))(h:Ed r typ=false->K (.int .i64 (-1)) L)(d:∀k:Nat,Ed r typ=true->K (.int .i64 k) L):aeW 167 [Zg r cap,.func 145 [.ptr ip 0]] L K:=by
 replace h:=hid h;replace d:=hid d;replace p:=hid p;refine aeV iT ?_;refine ao (λn T' L'=>∃(k:Nat),n=r.length-k/\k<=r.length/\Hid (Ed (r.take k) typ=false)/\T'=[(8,.int .i64 (k:Int)),(7,.int .i64 r.length),(0,Zg r cap),(1,.func 145 [.ptr ip 0])]/\L=L') (CutS (b:=ae0 _)) ⟨0,rfl,ae5 _,hid rfl,rfl,rfl⟩ ?_;rintro _ _ _ ⟨k,rfl,y,u,rfl,rfl⟩;by_cases f:k<r.length;have g1:(k:Int)<(r.length:Int):=ah3;have z:=aeU k ah3;have w:=oc f;have B:k*2+2<=(bQ r).length:=by rw[iW];omega
 obtain⟨a,l⟩:=aeS (r.getD k ([],[]));have j:a∈r:=by rw[<- l];simp[f]
 have g:r.take (k+1)=r.take k++[a]:=by rw[afs f,<- l];simp[f]
 rw[l]at w;have m:Ed (r.take (k+1)) typ=decide (aE a.1=aE typ):=by have:=u.o;simp only[Ed]at this⊢;rw[g,List.any_append,this];simp
 have c:decide (aE a.1=aE typ)=true->Ed r typ=true:=λe=>agp.2 ⟨a,j,e⟩
 replace c:=hid c;replace m:=hid m;replace g:=hid g;have s:=hid (p.o a j);clear l j;refine wk ?_;refine adA s.o x v ?_;refine sk ?_;cases hd:decide (aE a.1=aE typ)with
 | true =>
   have q:=hid (d.o k (c.o hd));replace hd:=hid hd;refine wk ?_;exact ag q.o
 | false =>
   replace hd:=hid hd;refine wk ?_;exact ah8 ah3 (CutS (b:=ae0 _)) ⟨k+1,rfl,f,hid (by rw[m.o,hd.o]),rfl,rfl⟩
 have t:k=r.length:=ah3;subst t;have g1:¬(r.length:Int)<(r.length:Int):=ah3;have i:=u.o;rw[afo]at i;have q:=hid (h.o i);clear i;refine wk ?_;exact ag q.o
theorem Uw(i:r.length<=100000)(f:∀a∈r,(a.1.length:Int)<=100000)(d:(typ.length:Int)<=100000)(c:L[ip]?=some (.cells [.str typ]))(h:K (.bool (Ed r typ)) L):
  aeW 144 [Zg r cap,.func 145 [.ptr ip 0]] L K:=by
 replace h:=hid h;refine aeV gm ?_;refine ZO i f d c (λe=>?_) (λk e=>?_);have b:=h.o;rw[e]at b;replace b:=hid b;refine aib ?_;exact ag b.o;have b:=h.o;rw[e]at b;replace b:=hid b;have g:(0:Int)<=(k:Int):=ah3;refine aib ?_;exact ag b.o
theorem acO(b:r.length<=100000)(c:∀a∈r,(a.1.length:Int)<=100000)(d:(typ.length:Int)<=100000)(h:K (.bool (Ed r typ)) L):
  aeW 102 [Zg r cap,.str typ] L K:=by
 replace h:=hid h;refine aeV UB ?_;refine Uw b c d ah4 ?_;refine aib ?_;exact af rfl h.o
theorem fV{a:List UInt8}{c:UInt8}{L:List Blk}{K:aeX}(h:K (.int .i64 (Lib.indexByte a c)) L):aeW 146 [.str a,.int .u8 c.toNat] L K :=
 iN Tryz.func146 rfl ah5 (λw0 S0 E w vs g b=>by simp only[VRL,VR]at b;obtain⟨_,_,rfl,rfl,_,_,rfl,rfl,rfl⟩:=b;exact(Tryz.strings_IndexByte ⟨⟨a⟩⟩ c.toNat w).mono λe w' ⟨f,d⟩=>⟨_,f,by simp[VR],by subst d;exact QZ.refl _⟩) h
theorem qT(a:List UInt8)(c:UInt8):(0<=Lib.indexByte a c)↔c∈a:=by
 induction a with
 |nil=>simp[Lib.indexByte]
 | cons b l ih =>
   have e:=Lib.indexByte_ge l c;unfold Lib.indexByte;by_cases d:b=c
   .simp[d]
   .have e1:(b == c)=false:=(by simpa using d);rw[e1];simp only[afm,if_false];have f:c∈b::l↔c∈l:=(by simp[Ne.symm d]);rw[f,<- ih];split
    .rename_i h;simp at h;omega
    .rename_i h;simp at h;omega
theorem dW(c d:UInt8):(c.toNat:Int)=(d.toNat:Int)↔c=d:=by constructor;intro h;exact ag4.1 ah3;rintro rfl;rfl
def wrB(i n:Nat)(c:UInt8):List UInt8 :=
 if c=0 then[92,48,48]else if(i=0/\(c=32\/c=35))\/(i+1=n/\c=32)\/c∈[34,43,44,59,60,62,92]then[92,c]else[c]
def wrL(n:Nat):Nat->List UInt8->List UInt8
 |_,[]=>[]
 |i,c::s=>wrB i n c++wrL n (i+1) s
def kN(s:List UInt8):List UInt8:=wrL s.length 0 s
theorem aa1(i n:Nat)(c:UInt8):(wrB i n c).length<=3:=by unfold wrB;split;simp;split<;>simp
theorem gh(y:s.length<=100000)(h:K (.str (kN s)) L):aeW 105 [.str s] L K:=by
 replace h:=hid h;have B:IntKind.i64.wrap ((s.length:Int)-1)=(s.length:Int)-1:=ae ah3 ah3;refine aeV O3 ?_;refine cG (l:=[]) (n:=0) 3 1 rfl (afD 1).symm ?_;refine ao (λn T' L'=>∃(i m:Nat) (b:List UInt8),n=s.length-i/\i<=s.length/\m<=3*i/\Hid (m=b.length/\b++wrL s.length i (s.drop i)=kN s)/\T'=[(10,.int .i64 (i:Int)),(9,.int .i64 s.length),(8,.sl (u8s s) s.length none),(3,.gsl (u8s b) m L.length 1),(0,.str s)]/\L'=L++[.spare m 1]) ah7 ⟨0,0,[],rfl,ae5 _,ah3,hid ⟨rfl,rfl⟩,rfl,rfl⟩ ?_;rintro _ _ _ ⟨i,m,b,rfl,x,A,j,rfl,rfl⟩;by_cases d:i<s.length
 .have g1:(i:Int)<(s.length:Int):=ah3;have z:=aeU i ah3;obtain⟨c,v⟩:=aeS (s.getD i 0);have g3:(u8s s).getD i .undef=.int .u8 c.toNat:=(by rw[<- v];simp[u8s,d]);have p:s.drop i=c::s.drop (i+1):=(by rw[afL d,<- v];simp[d]);have a:=j.o.2;rw[p]at a;simp only[wrL]at a;have g4:=G1;have C:(u8s s).length=s.length:=(by simp[u8s]);clear v p;replace a:=hid a
  repeat' first
   |refine lF ?_
   | (first|refine jO ah5 ?_|refine fW ah5 ?_|refine fZ ?_|refine Eb ?_|refine oA (fun _=>?_)|refine ed ?_|refine jQ ?_|refine fV ?_|refine dD (fV ⟨rfl,rfl⟩) (fV ⟨rfl,rfl⟩) ?_|refine bu (fV ⟨rfl,rfl⟩) ?_)
     refine sm ?_
   | (first|refine jK ah5 ?_|refine iX ?_|refine fY ?_|refine jP ?_|refine oF (d9 ?_))
     refine sl ?_
   |exact oB
   |first|apply oC|apply jL|apply oD|apply jM|apply oE|apply jN
   |refine gg ?_
   |refine fX ?_
   |first|refine gc rfl ?_|refine gf rfl ?_|refine cO rfl ?_ ?_|refine iM rfl (λ_=>?_) (λ_=>?_)|refine iL rfl (λ_=>?_) (λ_=>?_)
   |((first|refine cN (λ_=>?_) (λ_=>?_)|refine dZ (λ_=>?_) (λ_=>?_))<;>try refine sm ?_)
   |refine And.intro trivial ?_
   |refine And.intro ah3 ?_
   |refine eZ rfl (λ_=>?_) (λ_=>?_)
   |refine And.intro ?_ ?_
  rfl;omega;rename_i q;have f:=(dW c 0).1 q;rw[show u8s b++AV.frzL (u8s [92,48,48])=u8s (b++[92,48,48])by simp[u8s,AV.frzL,AV.frz]];refine ah8 ah3 ah6 ⟨i+1,m+3,b++[92,48,48],rfl,d,ah3,hid ⟨by simp[j.o.1],?_⟩,rfl,rfl⟩;rw[<- a.o,wrB,if_pos f,afa];rename_i q u;have f:¬c=0:=λe=>q ((dW c 0).2 e)
  have k:(i=0/\(c=32\/c=35))\/(i+1=s.length/\c=32)\/c∈[34,43,44,59,60,62,92]:=by rcases u with(⟨r,g⟩|⟨r,g⟩)|e;exact .inl ⟨ah3,g.imp (dW c 32).1 (dW c 35).1⟩;exact .inr (.inl ⟨ah3,(dW c 32).1 g⟩);exact .inr (.inr ((qT _ _).1 e))
  rw[show u8s b++[AV.int IntKind.u8 92,AV.int IntKind.u8 (c.toNat:Int)]=u8s (b++[92,c])by simp[u8s]];refine ah8 ah3 ah6 ⟨i+1,m+1+1,b++[92,c],rfl,d,ah3,hid ⟨by simp[j.o.1],?_⟩,rfl,rfl⟩;rw[<- a.o,wrB,if_neg f,if_pos k,afa];rename_i q u;have f:¬c=0:=λe=>q ((dW c 0).2 e)
  have k:¬((i=0/\(c=32\/c=35))\/(i+1=s.length/\c=32)\/c∈[34,43,44,59,60,62,92]):=λk=>u (by rcases k with⟨r,g⟩|⟨r,g⟩|e;exact .inl (.inl ⟨ah3,g.imp (dW c 32).2 (dW c 35).2⟩);exact .inl (.inr ⟨ah3,(dW c 32).2 g⟩);exact .inr ((qT _ _).2 e))
  rw[show u8s b++[AV.int IntKind.u8 (c.toNat:Int)]=u8s (b++[c])by simp[u8s]];refine ah8 ah3 ah6 ⟨i+1,m+1,b++[c],rfl,d,ah3,hid ⟨by simp[j.o.1],?_⟩,rfl,rfl⟩;rw[<- a.o,wrB,if_neg f,if_neg k,afa]
 have w:i=s.length:=ah3;subst w;have g1:¬(s.length:Int)<(s.length:Int):=ah3;have r:=G1 b;have g:=El b;have e:=j.o.2;rw[agy,wrL,afq]at e;have t:=h.o;rw[<- e]at t;replace t:=hid t;clear e;refine wk ?_;exact af rfl t.o
abbrev Kb:List UInt8:=[34,43,44,59,60,62,92,32,35,61]
def kG:List UInt8->Bool->List UInt8->Option (List UInt8×List UInt8×Bool)
 |b,bl,[]=>some (b,[], !bl)
 | b,bl,c::s=>if c=44\/c=43 then some (b,c::s, !bl)
   else if c≠92 then(if c=0\/c∈([34,59,60,62]:List UInt8)\/(b=[]/\(c=32\/c=35))then none else kG (b++[c]) (decide (c=32)) s)
   else match s with
    |[]=>none
    | d::s1=>if d∈Kb then kG (b++[d]) false s1 else match s1 with
      |[]=>none
      | e::s2=>match Vx d e with
        |none=>none
        |some x=>kG (b++[x]) false s2
def Xb(o:Option (List UInt8×List UInt8×Bool)):AV:=match o with
 |none=>.tup [.str [],.str [],.bool false]
 |some (v,r,f)=>.tup [.str v,.str r,.bool f]
theorem Ps  :kG b bl []=some (b,[], !bl):=by rw[kG.eq_def]
theorem Mz{c:UInt8}(h:c=44\/c=43):kG b bl (c::s)=some (b,c::s, !bl):=by rw[kG.eq_def];simp only[if_pos h]
theorem Jo{c:UInt8}(h:¬(c=44\/c=43))(a:c≠92):kG b bl (c::s)=if c=0\/c∈([34,59,60,62]:List UInt8)\/(b=[]/\(c=32\/c=35))then none else kG (b++[c]) (decide (c=32)) s:=by rw[kG.eq_def];simp only[if_neg h,if_pos a]
theorem Rp  :kG b bl [92]=none:=by rw[kG.eq_def];rfl
theorem MA(h:d∈Kb):kG b bl (92::d::s)=kG (b++[d]) false s:=by rw[kG.eq_def];simp only[show ¬((92:UInt8)=44\/(92:UInt8)=43)by decide,if_false,ne_eq,not_true_eq_false,if_pos h]
theorem Ro(h:¬d∈Kb):kG b bl [92,d]=none:=by rw[kG.eq_def];simp only[show ¬((92:UInt8)=44\/(92:UInt8)=43)by decide,if_false,ne_eq,not_true_eq_false,if_neg h]
theorem Tk{e:UInt8}(h:¬d∈Kb):kG b bl (92::d::e::s)=match Vx d e with|none=>none|some x=>kG (b++[x]) false s:=by rw[kG.eq_def];simp only[show ¬((92:UInt8)=44\/(92:UInt8)=43)by decide,if_false,ne_eq,not_true_eq_false,if_neg h]
theorem aaa{i:Nat}(h:i<s.length):s.drop i=s.getD i 0::s.drop (i+1):=by rw[afL h];simp[h]
theorem aa6(V:s.length<=100000)(h:K (Xb (kG [] false s)) L):aeW 154 [.str s] L K:=by
 replace h:=hid h;refine aeV Re ?_;refine cG (l:=[]) (n:=0) 5 1 rfl (afD 1).symm ?_;refine ao (λn T' L'=>∃(i m:Nat) (b:List UInt8) (bl:Bool),n=s.length-i/\i<=s.length/\m<=i/\Hid (m=b.length/\kG b bl (s.drop i)=kG [] false s)/\T'=[(7,.int .i64 (i:Int)),(6,.bool bl),(5,.gsl (u8s b) m L.length 1),(0,.str s)]/\L'=L++[.spare m 1]) ah7 ⟨0,0,[],false,rfl,ae5 _,ah3,hid ⟨rfl,rfl⟩,rfl,rfl⟩ ?_;rintro _ _ _ ⟨i,m,b,bl,rfl,R,hm,w,rfl,rfl⟩;have e1:=G1 b;have e2:=El b;by_cases A:i<s.length
 .have g1:(i:Int)<(s.length:Int):=ah3;have W:=aeU i ah3;obtain⟨c,M⟩:=aeS (s.getD i 0);have j:=aaa A;rw[M]at j;have a:=w.o.2;rw[j]at a;have C:(s.drop i).take (s.length-i)=s.drop i:=afu ah4;have P:(i:Int)<=(s.length:Int):=ah3;by_cases p:c=44\/c=43;rw[Mz p]at a;have f:=h.o;rw[<- a]at f;simp only[Xb]at f;rw[<- j]at f;replace f:=hid f;have B:((c.toNat:Int)=44)\/((c.toNat:Int)=43):=p.imp (dW c 44).2 (dW c 43).2;clear a p j;rcases B with B|B;refine wk ?_;exact af rfl f.o;refine wk ?_;exact af rfl f.o
  .have B:¬(c.toNat:Int)=44:=λe=>p (.inl ((dW c 44).1 e))
   have S:¬(c.toNat:Int)=43:=λe=>p (.inr ((dW c 43).1 e))
   by_cases y:c=92;subst y;have g3:IntKind.i64.wrap ((i:Int)+2)=(i:Int)+2:=ae ah3 ah3;have g4:IntKind.i64.wrap ((i:Int)+3)=(i:Int)+3:=ae ah3 ah3;have Z:IntKind.i64.wrap ((i:Int)+1+1)=(i:Int)+1+1:=ae ah3 ah3;have Q:IntKind.i64.wrap ((i:Int)+2+1)=(i:Int)+2+1:=ae ah3 ah3;have T:((i:Int)+1).toNat=i+1:=ah3;have t3:((i:Int)+3).toNat=i+3:=ah3;by_cases F:i+1<s.length;have O:(i:Int)+1<(s.length:Int):=ah3;obtain⟨d,hd⟩:=aeS (s.getD (i+1) 0);have g:=aaa F;rw[hd]at g;rw[g]at a;by_cases q:d∈Kb;rw[MA q]at a;have N:=(qT Kb d).2 q;clear j g;replace a:=hid a;have kk1:=@hid _ @fV;refine wk ?_;rw[show u8s b++[AV.int IntKind.u8 (d.toNat:Int)]=u8s (b++[d])by simp[u8s],show decide (((UInt8.toNat 92:Nat):Int)=32)=false from rfl];refine ah8 ah3 ah6 ⟨i+1+1,m+1,b++[d],false,rfl,F,ah3,hid ⟨by simp[w.o.1],a.o⟩,rfl,rfl⟩;have N:¬0<=Lib.indexByte Kb d:=λe=>q ((qT Kb d).1 e)
   by_cases H:i+2<s.length;have G:(i:Int)+2<(s.length:Int):=ah3;have f4:(i:Int)+1<=(i:Int)+3:=ah3;have Y:(i:Int)+3<=(s.length:Int):=ah3;have f6:(0:Int)<=(i:Int)+1:=ah3;obtain⟨e,J⟩:=aeS (s.getD (i+2) 0);have k:=aaa H;rw[J]at k;rw[k,Tk q]at a;have I:(s.drop (i+1)).take (i+3-(i+1))=[d,e]:=by rw[g,k,show i+3-(i+1)=2 by omega];rfl
   clear j g k;replace a:=hid a;have kk1:=@hid _ @fV;refine wk ?_;refine YK ?_;rcases v:Vx d e with _|x;rw[show Ub d e=.tup [.str [],.bool false]by simp only[Ub,v]];have f:=h.o;rw[<- a.o,v]at f;simp only[Xb]at f;replace f:=hid f;clear v;refine aib ?_;exact af rfl f.o;rw[show Ub d e=.tup [.str [x],.bool true]by simp only[Ub,v]];have u:=a.o;rw[v]at u;simp only at u;replace u:=hid u;have X:[x].getD 0 0=x:=rfl;clear v a;refine aib ?_;rw[show u8s b++[AV.int IntKind.u8 (x.toNat:Int)]=u8s (b++[x])by simp[u8s],show decide (((UInt8.toNat 92:Nat):Int)=32)=false from rfl];refine ah8 ah3 ah6 ⟨i+2+1,m+1,b++[x],false,rfl,H,ah3,hid ⟨by simp[w.o.1],u.o⟩,rfl,rfl⟩;have G:¬(i:Int)+2<(s.length:Int):=ah3;have r:s.drop (i+1+1)=[]:=ahk ah3;rw[r,Ro q]at a;have f:=h.o;rw[<- a]at f;replace f:=hid f;clear j g a;have kk1:=@hid _ @fV;refine wk ?_;exact af rfl f.o;have O:¬(i:Int)+1<(s.length:Int):=ah3;have G:¬(i:Int)+2<(s.length:Int):=ah3;have r:s.drop (i+1)=[]:=ahk ah3;rw[r,Rp]at a;have f:=h.o;rw[<- a]at f;replace f:=hid f;clear j a;have kk1:=@hid _ @fV;refine wk ?_;exact af rfl f.o
   .rw[Jo p y]at a;have U:¬(c.toNat:Int)=92:=λe=>y ((dW c 92).1 e)
    clear j;replace a:=hid a
    repeat' first
     |refine lF ?_
     | (first|refine jO ah5 ?_|refine fW ah5 ?_|refine fZ ?_|refine Eb ?_|refine oA (fun _=>?_)|refine ed ?_|refine jQ ?_|refine fV ?_|refine dD (fV ⟨rfl,rfl⟩) (fV ⟨rfl,rfl⟩) ?_|refine bu (fV ⟨rfl,rfl⟩) ?_)
       refine sm ?_
     | (first|refine jK ah5 ?_|refine iX ?_|refine fY ?_|refine jP ?_|refine oF (d9 ?_))
       refine sl ?_
     |exact oB
     |first|apply oC|apply jL|apply oD|apply jM|apply oE|apply jN
     |refine gg ?_
     |refine fX ?_
     |first|refine gc rfl ?_|refine gf rfl ?_|refine cO rfl ?_ ?_|refine iM rfl (λ_=>?_) (λ_=>?_)|refine iL rfl (λ_=>?_) (λ_=>?_)
     |((first|refine cN (λ_=>?_) (λ_=>?_)|refine dZ (λ_=>?_) (λ_=>?_))<;>try refine sm ?_)
     |refine And.intro trivial ?_
     |refine And.intro ah3 ?_
     |refine eZ rfl (λ_=>?_) (λ_=>?_)
     |refine And.intro ?_ ?_
    rename_i v;have t:c=0\/c∈([34,59,60,62]:List UInt8)\/(b=[]/\(c=32\/c=35)):=by rcases v with(e|e)|⟨e,D⟩;exact .inl ((dW c 0).1 e);exact .inr (.inl ((qT _ _).1 e));refine .inr (.inr ⟨afK.1 ?_,D.imp (dW c 32).1 (dW c 35).1⟩);have:=w.o.1;omega
    have f:=h.o;rw[<- a.o,if_pos t]at f;exact af rfl f;rename_i v;have t:¬(c=0\/c∈([34,59,60,62]:List UInt8)\/(b=[]/\(c=32\/c=35))):=λe=>v (by rcases e with e|e|⟨e,D⟩;exact .inl (.inl ((dW c 0).2 e));exact .inl (.inr ((qT _ _).2 e));refine .inr ⟨?_,D.imp (dW c 32).2 (dW c 35).2⟩;have:=w.o.1;rw[e]at this;simp at this;omega)
    have z:decide ((c.toNat:Int)=32)=decide (c=32):=by have:=dW c 32;simp only[decide_eq_decide];exact this
    rw[show u8s b++[AV.int IntKind.u8 (c.toNat:Int)]=u8s (b++[c])by simp[u8s],z];refine ah8 ah3 ah6 ⟨i+1,m+1,b++[c],decide (c=32),rfl,A,ah3,hid ⟨by simp[w.o.1],?_⟩,rfl,rfl⟩;rw[<- a.o,if_neg t]
 have E:i=s.length:=ah3;subst E;have g1:¬(s.length:Int)<(s.length:Int):=ah3;have f:=h.o;rw[<- w.o.2,agy,Ps]at f;simp only[Xb]at f;replace f:=hid f;have C:(s.drop s.length).take (s.length-s.length)=[]:=ah4;refine wk ?_;exact af rfl f.o
def JI:List UInt8->Option (List UInt8×List UInt8)
 |[]=>none
 | c::s=>if c=61 then some ([],s) else match JI s with
   |none=>none
   |some (a,b)=>some (c::a,b)
theorem Qx:∀s:List UInt8,(Lib.indexByte s 61=-1/\JI s=none)\/∃n:Nat,n<s.length/\Lib.indexByte s 61=(n:Int)/\JI s=some (s.take n,s.drop (n+1))
 |[]=>.inl ⟨rfl,rfl⟩
 | c::s=>by
   by_cases a:c=61
   .subst a;exact .inr ⟨0,ah4,by simp[Lib.indexByte],by simp[JI]⟩
   .have e1:(c == 61)=false:=(by simpa using a);unfold Lib.indexByte;rw[e1];simp only[afm,if_false,JI,if_neg a];rcases Qx s with⟨b,d⟩|⟨n,e,b,d⟩
    .exact .inl ⟨by rw[b];rfl,by rw[d]⟩
    .refine .inr ⟨n+1,by simp;omega,?_,by rw[d];simp⟩;rw[b];have:((n:Int) == -1)=false:=ah4;rw[this];simp
def Qw(s:List UInt8):AV:=match JI s with
 |some (a,b)=>.tup [.str a,.str b,.bool true]
 |none=>.tup [.str s,.str [],.bool false]
theorem Ua{a:List UInt8}{c:UInt8}{L:List Blk}{K:aeX}(h:K (.int .i64 (Lib.indexByte a c)) L):aeW 194 [.str a,.str [c]] L K :=
 iN Tryz.func194 rfl ah5 (λw0 S0 E w vs g b=>by simp only[VRL,VR]at b;obtain⟨_,_,rfl,rfl,_,_,rfl,rfl,rfl⟩:=b;exact(Tryz.stringslite_Index_one ⟨⟨a⟩⟩ c w).mono λe w' ⟨f,d⟩=>⟨_,f,by simp[VR],by subst d;exact QZ.refl _⟩) h
theorem aag(d:s.length<=100000)(h:K (Qw s) L):aeW 182 [.str s,.str [61]] L K:=by have f:[(61:UInt8)].length=1:=rfl;rcases Qx s with⟨b,a⟩|⟨n,e,b,a⟩;simp only[Qw,a]at h;replace h:=hid h;clear a;refine aa fE (by simp[bz]) ?_;simp only[bz,am];have kk1:=@hid _ @Ua;refine wk ?_;exact ag h.o;simp only[Qw,a]at h;replace h:=hid h;have g1:(0:Int)<=(n:Int):=ah3;have g:=aeU n ah3;have g3:(n:Int)<=(s.length:Int):=ah3;have g4:(n:Int)+1<=(s.length:Int):=ah3;have j:(0:Int)<=(n:Int)+1:=ah3;have c:((n:Int)+1).toNat=n+1:=ah3;have i:(s.drop (n+1)).take (s.length-(n+1))=s.drop (n+1):=afu ah4;clear a;refine aa fE (by simp[bz]) ?_;simp only[bz,am];have kk1:=@hid _ @Ua;refine wk ?_;exact ag h.o
theorem aer(c:s.length<=100000)(h:K (Qw s) L):aeW 153 [.str s,.str [61]] L K:=by
 rcases hc:JI s with _|⟨a,b⟩
 all_goals
  simp only[Qw,hc]at h;replace h:=hid h
 refine aeV yN ?_;refine aag c ?_;simp only[Qw,hc];refine aib ?_;exact ag h.o;refine aeV yN ?_;refine aag c ?_;simp only[Qw,hc];refine aib ?_;exact ag h.o
abbrev Rdn:=List Ava
abbrev aH(r:Rdn):AV:=Zg r none
def OQ:Nat->List Rdn->Rdn->List UInt8->List Rdn×Int
 |0,_,_,_=>([],4)
 | f+1,out,now,s=>if out.length=32\/now.length=8 then ([],9) else match JI s with
   |none=>([],4)
   | some (typ,rest)=>if wu typ=false then ([],4) else if Ed now typ=true then ([],21) else match kG [] false rest with
     |none=>([],4)
     | some (v,r2,ok)=>if ok=false then ([],4) else match r2 with
       |[]=>(out++[now++[(typ,v)]],0)
       |c::s'=>if c=44 then OQ f (out++[now++[(typ,v)]]) [] s' else OQ f out (now++[(typ,v)]) s'
def lh(s:List UInt8):List Rdn×Int:=if 4096<s.length then([],5)else if s=[]then([],0)else OQ (s.length+1) [] [] s
def ado(p:List Rdn×Int):AV:=.tup [.sl (p.1.map aH) p.1.length none,.int .i64 p.2]
theorem Up:∀{s a b:List UInt8},JI s=some (a,b)->b.length<s.length/\a.length<=s.length
 |[],a,b,h=>by simp[JI]at h
 | c::s,a,b,h=>by
   simp only[JI]at h;split at h
   .simp only[aeZ,afb]at h;obtain⟨rfl,rfl⟩:=h;simp
   .split at h
    .cases h
    .rename_i a' b' hc;simp only[aeZ,afb]at h;obtain⟨rfl,rfl⟩:=h;have:=Up hc;simp;omega
theorem YJ:∀(n:Nat){s b:List UInt8}{bl:Bool}{v r:List UInt8}{ok:Bool},s.length<=n->kG b bl s=some (v,r,ok)->r.length<=s.length:=by
 intro n;induction n with
 | zero =>
   intro s b bl v r ok a h;obtain rfl:=afK.1 (Nat.le_zero.1 a);rw[Ps]at h;cases h;simp
 | succ n ih =>
   intro s b bl v r ok a h;cases s with
   |nil=>rw[Ps]at h;cases h;simp
   | cons c s =>
     simp only[afg]at a;by_cases g:c=44\/c=43
     .rw[Mz g]at h;cases h;simp
     by_cases f:c=92
     .subst f;cases s with
      |nil=>rw[Rp]at h;cases h
      | cons d s =>
        by_cases hd:d∈Kb
        .rw[MA hd]at h;have:=ih (by simp at a;omega) h;simp;omega
        .cases s with
         |nil=>rw[Ro hd]at h;cases h
         | cons e s =>
           rw[Tk hd]at h;split at h
           .cases h
           .have:=ih (by simp at a;omega) h;simp;omega
     .rw[Jo g f]at h;split at h
      .cases h
      .have:=ih ah3 h;simp;omega
section
variable {P:Program}{N:Nat}{own:Nat->Nat->Nat}{Q:Exit->Tm->List Blk->Prop}{T:Tm}{L:List Blk}
theorem acB{lc:aT}(t sz B:Nat){l:List AV}{n:Nat}{v:AV}(c:ar T t=some v)(g:B<L.length)(j:(v=.sl [] 0 (some 0)/\l=[]/\n=0)\/∃i,B<i/\v=.gsl l n i sz/\L[i]?=some (.spare n sz))(h:∀i X,B<i->(L++X)[i]?=some (.spare n sz)->AW P N own lc Q ((t,.gsl l n i sz)::T) (L++X)):AW P N own lc Q T L:=by
 rcases j with⟨rfl,rfl,rfl⟩|⟨i,a,rfl,d⟩;exact cG t sz c ah4 (h L.length [.spare 0 sz] g ah4);have b:=h i [] a (by simpa using d);rw[afq]at b;refine b.weakT λt' k e=>?_
 simp only[ar]at e;split at e;rename_i f;subst f;cases e;exact c;exact e
end
variable {L:List Blk}{K:aeX}
set_option maxHeartbeats 8000000
set_option maxRecDepth 100000
def aeQ(B:Nat)(r:Rdn)(v:AV)(L:List Blk):Prop:=(v=.sl [] 0 (some 0)/\bQ r=[]/\r.length=0)\/∃i,B<i/\v=.gsl (bQ r) r.length i 2/\L[i]?=some (.spare r.length 2)
theorem Yn(r:Rdn)(t v:List UInt8):bQ (r++[(t,v)])=bQ r++[.str t,.str v]:=by simp[bQ,GR]
theorem yQ(r:Rdn):AV.frzL (bQ r)=bQ r:=by
 induction r with
 |nil=>rfl
 |cons a r ih=>simpa[bQ,GR,AV.frzL,AV.frz]using ih
theorem zh{L0 X:List Blk}{e:Int}{K:aeX}(h:K (ado ([],e)) L0):Fin L0 (.tup [.sl [] 0 (some 0),.int .i64 e]) (L0++X) K:=aB (af rfl h)
theorem ce(d:List Rdn):AV.frzL (d.map aH)=d.map aH:=by
 rw[AV.frzL_eq,afj];refine afN λr _=>?_
 simp only[Function.comp,AV.frz,yQ]
theorem Ym(q:Nat->Bool)(r:Rdn):AV.refsL q (bQ r)=true:=by
 induction r with
 |nil=>rfl
 |cons a r ih=>simpa[bQ,GR,AV.refsL,AV.refs]using ih
theorem fb(q:Nat->Bool):∀d:List Rdn,AV.refsL q (d.map aH)=true
 |[]=>rfl
 |r::d=>by simp only[afe,AV.refsL,AV.refs,Ym,fb q d,Bool.and_self]
theorem Pu(h:wu s=true):s.length<=32:=by simp only[wu,ae7,decide_eq_true_eq]at h;exact h.1.1.2
theorem adz{r:Rdn}{i n:Nat}(hr:r.length=n)(d:n<=8)(c:∀a∈r,a.1.length<=32)(e:typ.length<=4096)(h:K (.bool (Ed r typ)) L):
  aeW 102 [.gsl (bQ r) n i 2,.str typ] L K:=by
 subst hr;exact cL (by simpa only[AV.frzL,AV.frz,yQ]using acO (cap:=none) ah3 (λa b=>by have:=c a b;omega) ah3 h)
theorem Wx(h:K (ado (lh s)) L):aeW 118 [.str s] L K:=by
 refine aa Ri (by simp[JW]) ?_;simp only[JW,am];by_cases O:4096<s.length;have f1:(4096:Int)<(s.length:Int):=ah3;rw[lh,if_pos O]at h;replace h:=hid h;clear O;refine wk ?_;exact aB (ag h.o);have f1:¬(4096:Int)<(s.length:Int):=ah3;rw[lh,if_neg O]at h;by_cases h2:s=[];rw[if_pos h2]at h;replace h:=hid h;refine wk ?_;exact aB (ag h.o);rw[if_neg h2]at h;replace h:=hid h;have hs:=hid (show s.length<=4096 by omega);clear O;obtain⟨R,hR⟩:=aeS (OQ (s.length+1) [] [] s);rw[hR]at h;refine wk ?_;refine cG (l:=[]) (n:=0) 4 1 rfl (afD 1).symm ?_;refine ao (λn T' L'=>∃(f m:Nat) (p:List Rdn) (j:Rdn) (u:List UInt8) (v:AV) (X:List Blk),f=n/\u.length<=4096/\m=p.length/\m<=32/\j.length<=8/\Hid (u.length<f/\OQ f p j u=R/\(∀a∈j,a.1.length<=32)/\aeQ L.length j v L')/\L'[L.length]?=some (.spare m 1)/\T'=[(5,v),(4,.gsl (p.map aH) m L.length 1),(0,.str u)]/\L'=L++X) ah7 ⟨s.length+1,0,[],[],s,_,[.spare 0 1],rfl,hs.o,rfl,ah3,ah4,hid ⟨ah3,hR,ah4,.inl ⟨rfl,rfl,rfl⟩⟩,ah4,rfl,rfl⟩ ?_;clear h2;clear hs;rintro _ _ _ ⟨f,m,p,j,u,v,X,rfl,hu,H,G,E,hI,ho,rfl,rfl⟩;obtain⟨hf,C,J,hv⟩:=hI.o;clear hI;clear hR;obtain⟨f,rfl⟩:∃g,f=g+1:=⟨f-1,ah3⟩;have V:L.length<(L++X).length:=(aeY.1 ho).1;refine acB 5 2 L.length rfl V hv λi Y T N=>?_
 rw[afa]at N⊢;have D:(L++(X++Y))[L.length]?=some (.spare m 1):=by rw[<- afa,ae3 V];exact ho
 generalize X++Y=Z at N D⊢;clear ho V hv;have s5:∀A,(L++Z).set i A=L++Z.set (i-L.length) A:=λA=>afG _ _ ah3
 have s4:∀(W:List Blk) A,(L++W).set L.length A=L++W.set 0 A:=λW A=>by rw[afG _ _ (ae0 _),agG]
 have hz:i-L.length≠0:=ah3;have U:∀A,(L++Z.set (i-L.length) A)[L.length]?=some (.spare m 1):=λA=>by rw[<- s5,ae4 ah3];exact D
 have ad:∀A,(L++Z.set (i-L.length) A)[i]?=some A:=λA=>by rw[<- s5,afC,if_pos rfl,if_pos (aeY.1 N).1]
 have an:=hu;obtain⟨c,I⟩:∃c:Nat,j.length=c:=⟨_,rfl⟩;rw[OQ]at C;rw[I]at C N E⊢;by_cases y:p.length=32\/c=8;rw[if_pos y]at C;have d:=h.o;rw[<- C]at d;replace d:=hid d;have k:(m:Int)=32\/(m:Int)≠32/\(c:Int)=8:=ah3;clear C y;clear H;rcases k with k|⟨k,k'⟩;refine wk ?_;exact zh d.o;refine wk ?_;exact zh d.o;rw[if_neg y]at C;have k1:¬(m:Int)=32:=ah3;have k2:¬(c:Int)=8:=ah3;replace H:=hid H;clear y;replace C:=hid C;replace J:=hid J;refine wk ?_;refine aer ah3 ?_;rcases hcut:JI u with _|⟨typ,rest⟩;rw[show Qw u=.tup [.str u,.str [],.bool false]by simp only[Qw,hcut]];have d:=h.o;rw[<- C.o,hcut]at d;simp only at d;replace d:=hid d;refine aib ?_;exact zh d.o;rw[show Qw u=.tup [.str typ,.str rest,.bool true]by simp only[Qw,hcut]];have r:=C.o;rw[hcut]at r;simp only at r;have al:=Up hcut;replace r:=hid r;clear hcut C;refine sk ?_;cases hty:wu typ with
 | false =>
   have d:=h.o;rw[<- r.o,if_pos hty]at d;replace d:=hid d;have kk1:=@hid _ @UZ;refine wk ?_;exact zh d.o
 | true =>
   have B:=r.o;rw[if_neg (by rw[hty];simp)]at B;replace B:=hid B;clear r;have kk1:=@hid _ @UZ;refine wk ?_;refine adz I E J.o ah3 ?_;cases hha:Ed j typ with
   | true =>
     have d:=h.o;rw[<- B.o,if_pos hha]at d;replace d:=hid d;refine aib ?_;exact zh d.o
   | false =>
     have z:=B.o;rw[if_neg (by rw[hha];simp)]at z;replace z:=hid z;clear B;refine aib ?_;refine aa6 ah3 ?_;rcases hvl:kG [] false rest with _|⟨w,r2,ab⟩
     .have d:=h.o;rw[<- z.o,hvl]at d;simp only at d;replace d:=hid d;simp only[Xb];refine aib ?_;exact zh d.o
     .have q:=z.o;rw[hvl]at q;simp only at q;have ai:=YJ _ (ae0 _) hvl;replace q:=hid q;clear z hvl;simp only[Xb];refine sk ?_;cases ab with
      | false =>
        have d:=h.o;rw[<- q.o,if_pos rfl]at d;replace d:=hid d;refine wk ?_;exact zh d.o
      | true =>
        have t:=q.o;rw[if_neg ah4]at t;replace t:=hid t;clear q;have q1:(c+1)*32<=140737488355328:=ah3;have q2:c+1<=140737488355328:=ah3;have q3:(m+1)*24<=140737488355328:=ah3;have q4:m+1<=140737488355328:=ah3;have S:bQ j++[AV.str typ,AV.str w]=bQ (j++[(typ,w)]):=(Yn _ _ _).symm;have M:p.map aH++[AV.sl (AV.frzL (bQ j++[AV.str typ,AV.str w])) (c+1) none]=(p++[j++[(typ,w)]]).map aH:=by rw[S,yQ,afk];simp[I]
        have Q:(p++[j++[(typ,w)]]).length=m+1:=(by simp[H.o]);have F:(j++[(typ,w)]).length=c+1:=(by simp[I]);have e5:∀a∈j++[(typ,w)],a.1.length<=32:=λa ha=>by
         rcases ae2.1 ha with h|h
         .exact J.o a h
         .rw[afl.1 h];exact Pu hty
        replace S:=hid S;replace M:=hid M;replace Q:=hid Q;replace F:=hid F;replace e5:=hid e5;cases r2 with
        | nil =>
          have d:=h.o;rw[<- t.o]at d;simp only at d;replace d:=hid d;refine wk ?_;rw[M.o];refine aB (af ?_ ?_)
          .simp only[AV.frz,AV.frzL,ce,AV.refs,AV.refsL,fb,Bool.and_self]
          .simp only[AV.frz,AV.frzL,ce];have:=d.o;simp only[ado,Q.o]at this;exact this
        | cons x s' =>
          simp only at t;have q5:¬(x::s'=[]):=ah4;have q7:((s'.length:Int)+1).toNat-1=s'.length:=ah3;have P:s'.take (((s'.length:Int)+1).toNat-1)=s':=(by rw[q7,afo]);simp only[afg]at ai;clear q7;replace P:=hid P;by_cases hx:x=44
          .subst hx;refine wk ?_;rw[P.o,M.o];refine ah8 ?_ (CutS (b:=?_)) ⟨f,m+1,p++[j++[(typ,w)]],[],s',.sl [] 0 (some 0),_,rfl,ah3,Q.o.symm,ah3,ah4,hid ⟨ah3,?_,ah4,.inl ⟨rfl,rfl,rfl⟩⟩,?_,rfl,rfl⟩
           .omega
           .have:=(aeY.1 D).1;simp at this⊢;omega
           .rw[<- t.o,if_pos rfl]
           .have:=(aeY.1 D).1;rw[<- s4,afC,if_pos rfl,if_pos (by simp at this⊢;omega)]
          .have q6:¬(x.toNat:Int)=44:=λe=>hx ((dW x 44).1 e)
           refine wk ?_;rw[P.o,S.o];refine ah8 ?_ (CutS (b:=?_)) ⟨f,m,p,j++[(typ,w)],s',.gsl (bQ (j++[(typ,w)])) (c+1) i 2,_,rfl,ah3,H.o,G,by rw[F.o];omega,hid ⟨ah3,?_,e5.o,.inr ⟨i,T,by rw[F.o],by rw[F.o];exact ad _⟩⟩,U _,rfl,rfl⟩
           .omega
           .have:=(aeY.1 D).1;simp at this⊢;omega
           .rw[<- t.o,if_neg hx]
def eH:Rdn->Rdn->Int
 |_,[]=>0
 |done,a::t=>if done.length=8 then 9 else if wu a.1=false then 20 else if Ed done a.1=true then 21 else eH (done++[a]) t
def oo:Nat->List Rdn->Int
 |_,[]=>0
 |i,r::t=>if i=32 then 9 else if r=[]then 2 else if eH [] r≠0 then eH [] r else oo (i+1) t
theorem yW{d:List Rdn}{k:Nat}(h:k<d.length):(d.map aH).getD k .undef=aH (d.getD k []):=by simp[h]
theorem Yl{r:Rdn}{k:Nat}:(bQ r).take (k*2)=bQ (r.take k):=by
 induction r generalizing k with
 |nil=>simp[bQ]
 | cons a r ih =>
   cases k with
   |zero=>simp[bQ]
   | succ k =>
     have:=@ih k;simp only[bQ]at this;rw[show(k+1)*2=k*2+1+1 by omega];simp[bQ,GR,this]
theorem ady{r:Rdn}{n:Nat}(hr:r.length=n)(d:n<=8)(c:∀a∈r,a.1.length<=32)(e:typ.length<=32)(h:K (.bool (Ed r typ)) L):
  aeW 102 [.sl (bQ r) n cap,.str typ] L K:=by
 subst hr;exact acO ah3 (λa b=>by have:=c a b;omega) ah3 h
theorem ab9{d:List Rdn}(hn:d.length<=1100000)(hr:∀r∈d,r.length<=1100000)(h:K (.int .i64 (oo 0 d)) L):aeW 75 [.sl (d.map aH) d.length cap] L K:=by
 replace h:=hid h;have G:=hid (λk=>@yW d k);replace hr:=hid hr;refine aeV Rg ?_;refine ao (λn T' L'=>∃(i:Nat) (X:List Blk),n=d.length-i/\i<=d.length/\i<=32/\Hid (oo i (d.drop i)=oo 0 d)/\T'=[(9,.int .i64 (i:Int)),(8,.int .i64 d.length),(7,.sl (d.map aH) d.length cap)]/\L'=L++X) ah7 ⟨0,[],rfl,ae5 _,ah3,hid rfl,rfl,ah4⟩ ?_;rintro _ _ _ ⟨i,X,rfl,V,N,I,rfl,rfl⟩;by_cases s:i<d.length
 .have g1:(i:Int)<(d.length:Int):=ah3;have g2:=aeU i ah3;have T:=G.o i s;have E:=hr.o (d.getD i []) (by rw[afh,afn s];exact age _);obtain⟨r,y⟩:=aeS (d.getD i []);have C:d.drop i=r::d.drop (i+1):=(by rw[afL s,<- y];simp[s]);rw[y]at T E;have b:=I.o;rw[C,oo]at b;clear C y;by_cases p:i=32;rw[if_pos p]at b;have c:=h.o;rw[<- b]at c;replace c:=hid c;have R:(i:Int)=32:=ah3;have Q:(32:Int)<(d.length:Int):=ah3;clear p b;refine wk ?_;exact af rfl c.o;rw[if_neg p]at b;have R:¬(i:Int)=32:=ah3;by_cases w:r=[];rw[if_pos w]at b;subst w;have c:=h.o;rw[<- b]at c;replace c:=hid c;clear p b;refine wk ?_;exact af rfl c.o;rw[if_neg w]at b;have Z:¬(r.length:Int)=0:=(by have:=afP.2 w;omega);have g:∀e:Int,eH [] r=e->e≠0->K (.int .i64 e) L:=λe J U=>by rw[if_pos (by rw[J];exact U),J]at b;rw[b];exact h.o
  replace g:=hid g;replace b:=hid b;clear p;refine wk ?_;refine ao (λn T' L'=>∃(k:Nat) (Y:List Blk),n=r.length-k/\k<=r.length/\k<=8/\Hid (eH (r.take k) (r.drop k)=eH [] r/\∀a∈r.take k,a.1.length<=32)/\T'=[(23,.int .i64 (k:Int)),(22,.int .i64 r.length),(21,aH r),(4,aH r),(9,.int .i64 (i:Int)),(8,.int .i64 d.length),(7,.sl (d.map aH) d.length cap)]/\L'=L++(X++Y)) ah7 ⟨0,[],rfl,ae5 _,ah3,hid ⟨rfl,ah4⟩,rfl,ah4⟩ ?_;rintro _ _ _ ⟨k,Y,rfl,W,P,q,rfl,rfl⟩;by_cases l:k<r.length
  .have g3:(k:Int)<(r.length:Int):=ah3;have g4:=aeU k ah3;have M:=oc l;have e4:k*2+2<=(bQ r).length:=(by rw[iW];omega);obtain⟨⟨ty,H⟩,z⟩:∃a,r.getD k ([],[])=a:=⟨_,rfl⟩;have B:r.drop k=(ty,H)::r.drop (k+1):=(by rw[afL l,<- z];simp[l]);have t:r.take (k+1)=r.take k++[(ty,H)]:=(by rw[afs l,<- z];simp[l]);rw[z]at M;simp only[GR]at M;obtain⟨j,v⟩:=q.o;rw[B,eH]at j;have x:(r.take k).length=k:=(by simp;omega);rw[x]at j;clear B z q;have e5:(bQ r).take (k*2)=bQ (r.take k):=Yl;have g5:(k:Int)<=(r.length:Int):=ah3;replace j:=hid j;replace v:=hid v;replace t:=hid t;have O:=hid x;clear x
   repeat' first
    |refine lF ?_
    | (first|refine jO ah5 ?_|refine fW ah5 ?_|refine fZ ?_|refine Eb ?_|refine oA (fun _=>?_)|refine ed ?_|refine jQ ?_)
      refine sm ?_
    | (first|refine jK ah5 ?_|refine iX ?_|refine fY ?_|refine jP ?_|refine oF (d9 ?_))
      refine sl ?_
    |exact oB
    |first|apply oC|apply jL|apply oD|apply jM|apply oE|apply jN
    |refine gg ?_
    |refine fX ?_
    |first|refine gc rfl ?_|refine gf rfl ?_|refine cO rfl ?_ ?_|refine iM rfl (λ_=>?_) (λ_=>?_)|refine iL rfl (λ_=>?_) (λ_=>?_)
    |((first|refine cN (λ_=>?_) (λ_=>?_)|refine dZ (λ_=>?_) (λ_=>?_))<;>try refine sm ?_)
    |refine And.intro trivial ?_
    |refine And.intro ah3 ?_
    |refine eZ rfl (λ_=>?_) (λ_=>?_)
    |refine And.intro ?_ ?_
   rename_i S;have c:=g.o 9 (by rw[<- j.o,if_pos ah3]) (by decide);exact af rfl c;rename_i S;have f:=j.o;rw[if_neg ah3]at f;refine UZ ?_;cases hty:wu ty with
   | false =>
     have c:=hid (g.o 20 (by rw[<- f,if_pos hty]) (by decide));clear f;refine aib ?_;exact af rfl c.o
   | true =>
     rw[if_neg (by rw[hty];simp)]at f;replace f:=hid f;have D:=Pu hty;refine aib ?_;refine bu (ady O.o ah3 v.o D ⟨rfl,rfl⟩) ?_;cases hha:Ed (r.take k) ty with
     | true =>
       have c:=hid (g.o 21 (by rw[<- f.o,if_pos hha]) (by decide));refine aib ?_;exact af rfl c.o
     | false =>
       have u:=f.o;rw[if_neg (by rw[hha];simp),<- t.o]at u;replace u:=hid u;clear f;refine aib ?_;refine ah8 ah3 ah7 ⟨k+1,Y++[.cells [.str ty,.str H]],rfl,l,ah3,hid ⟨u.o,λa z=>?_⟩,rfl,ah4⟩;rw[t.o]at z;rcases ae2.1 z with h|h
       .exact v.o a h
       .rw[afl.1 h];exact D
  have A:k=r.length:=ah3;subst A;have g3:¬(r.length:Int)<(r.length:Int):=ah3;have F:=q.o.1;rw[agy,eH]at F;have m:=b.o;rw[<- F]at m;simp only[ne_eq,not_true_eq_false,if_false]at m;replace m:=hid m;clear F;refine wk ?_;exact ah8 ah3 ah7 ⟨i+1,X++Y,rfl,s,ah3,hid m.o,rfl,rfl⟩
 have A:i=d.length:=ah3;subst A;have g1:¬(d.length:Int)<(d.length:Int):=ah3;have c:=h.o;rw[<- I.o,agy,oo]at c;replace c:=hid c;refine wk ?_;exact af rfl c.o
end Go.Proofs.YtajkbcmleihaoaaGreatDoor.Av
namespace Go.Proofs
open Go.Shelf
def Tryz.lays190_ren:Go.Shelf.Ren:=⟨λ|190=>106|125=>99|258=>147|128=>140|129=>141|302=>169|303=>170|304=>171|305=>172|306=>173|307=>174|308=>175|309=>176|310=>177|333=>188|329=>163|330=>164|334=>189|335=>190|336=>142|344=>196|n=>n,λ|31=>56|9=>9|3=>3|46=>162|0=>0|51=>160|53=>58|4=>4|183=>211|182=>210|131=>215|5=>5|218=>239|222=>243|228=>257|229=>258|n=>n,λ|n=>n⟩
theorem Tryz.lays190:Go.Proofs.Lays.n190 Tryz.prog Tryz.lays190_ren:={
 mixed:=by kernel_rfl
 f125:=Tryz.func99.trans (congrArg some (by kernel_rfl))
 f128:=Tryz.func140.trans (congrArg some (by kernel_rfl))
 f129:=Tryz.func141.trans (congrArg some (by kernel_rfl))
 f190:=Tryz.func106.trans (congrArg some (by kernel_rfl))
 f258:=Tryz.func147.trans (congrArg some (by kernel_rfl))
 f302:=Tryz.func169.trans (congrArg some (by kernel_rfl))
 f303:=Tryz.func170.trans (congrArg some (by kernel_rfl))
 f304:=Tryz.func171.trans (congrArg some (by kernel_rfl))
 f305:=Tryz.func172.trans (congrArg some (by kernel_rfl))
 f306:=Tryz.func173.trans (congrArg some (by kernel_rfl))
 f307:=Tryz.func174.trans (congrArg some (by kernel_rfl))
 f308:=Tryz.func175.trans (congrArg some (by kernel_rfl))
 f309:=Tryz.func176.trans (congrArg some (by kernel_rfl))
 f310:=Tryz.func177.trans (congrArg some (by kernel_rfl))
 f329:=Tryz.func163.trans (congrArg some (by kernel_rfl))
 f330:=Tryz.func164.trans (congrArg some (by kernel_rfl))
 f333:=Tryz.func188.trans (congrArg some (by kernel_rfl))
 f334:=Tryz.func189.trans (congrArg some (by kernel_rfl))
 f335:=Tryz.func190.trans (congrArg some (by kernel_rfl))
 f336:=Tryz.func142.trans (congrArg some (by kernel_rfl))
 f344:=Tryz.func196.trans (congrArg some (by kernel_rfl))
 t0:=Tryz.underlying0
 a0:=Tryz.isAgg0
 z0:=Tryz.sizeOf0
 v0:=Tryz.zeroValue0
 t3:=Tryz.underlying3
 a3:=Tryz.isAgg3
 z3:=Tryz.sizeOf3
 v3:=Tryz.zeroValue3
 t4:=Tryz.underlying4
 a4:=Tryz.isAgg4
 z4:=Tryz.sizeOf4
 v4:=Tryz.zeroValue4
 t5:=Tryz.underlying5
 a5:=Tryz.isAgg5
 z5:=Tryz.sizeOf5
 v5:=Tryz.zeroValue5
 t9:=Tryz.underlying9
 a9:=Tryz.isAgg9
 z9:=Tryz.sizeOf9
 v9:=Tryz.zeroValue9
 t31:=Tryz.underlying56
 a31:=Tryz.isAgg56
 z31:=Tryz.sizeOf56
 v31:=Tryz.zeroValue56
 t46:=Tryz.underlying162
 a46:=Tryz.isAgg162
 z46:=Tryz.sizeOf162
 v46:=Tryz.zeroValue162
 t51:=Tryz.underlying160
 a51:=Tryz.isAgg160
 z51:=Tryz.sizeOf160
 v51:=Tryz.zeroValue160
 t53:=Tryz.underlying58
 a53:=Tryz.isAgg58
 z53:=Tryz.sizeOf58
 v53:=Tryz.zeroValue58
 t131:=Tryz.underlying215
 a131:=Tryz.isAgg215
 z131:=Tryz.sizeOf215
 v131:=Tryz.zeroValue215
 t182:=Tryz.underlying210
 a182:=Tryz.isAgg210
 z182:=Tryz.sizeOf210
 v182:=Tryz.zeroValue210
 t183:=Tryz.underlying211
 a183:=Tryz.isAgg211
 z183:=Tryz.sizeOf211
 v183:=Tryz.zeroValue211
 t218:=Tryz.underlying239
 a218:=Tryz.isAgg239
 z218:=Tryz.sizeOf239
 v218:=Tryz.zeroValue239
 t222:=Tryz.underlying243
 a222:=Tryz.isAgg243
 z222:=Tryz.sizeOf243
 v222:=Tryz.zeroValue243
 t228:=Tryz.underlying257
 a228:=Tryz.isAgg257
 z228:=Tryz.sizeOf257
 v228:=Tryz.zeroValue257
 t229:=Tryz.underlying258
 a229:=Tryz.isAgg258
 z229:=Tryz.sizeOf258
 v229:=Tryz.zeroValue258}
open Go.Sort Go.RowKit in
theorem Tryz.slices_Sort_string(blk off cap:Nat)(ss:List (List UInt8))(w:World)(c:Holds encStr w blk off ss.toArray)(a:blk<w.heap.size)(b:ss.length<4611686018427387904):
 Calls Tryz.prog 106 #[.slice (some ⟨blk,off,none⟩) ss.length cap] w λe w' =>
  e=.returned (.tuple #[])/\∃n os,w'=grow (putRow encStr (Sort.ahead w n) blk off (ss.mergeSort λx y=>decide (x<=y)).toArray) os:=Any.slices_Sort_string Tryz.lays190 blk off cap ss w c a b
open Go.RowKit Go.Sort in
theorem Tryz.slices_Sort_string_none(p:Option Addr)(cap:Nat)(w:World):
 Calls Tryz.prog 106 #[.slice p 0 cap] w λe w'=>e=.returned (.tuple #[])/\w'=w:=Any.slices_Sort_string_none Tryz.lays190 p cap w
end Go.Proofs
namespace Go.Proofs.YtajkbcmleihaoaaGreatDoor.Av
open Go Go.Sort
variable {L:List Blk}{K:aeX}
abbrev ay(xs:List (List UInt8)):List AV:=xs.map AV.str
theorem L9{xs:List (List UInt8)}{sep:List UInt8}{cap:Option Nat}(G:xs.length<=1100000)(D:(Lib.join xs sep).length<=140737488355328)(h:K (.str (Lib.join xs sep)) L):
  aeW 95 [.sl (ay xs) xs.length cap,.str sep] L K :=
 iN Tryz.func95 rfl ah5 (λw0 S0 E w vs F A=>by
  obtain⟨_,_,rfl,⟨p,c,rfl,q,_,B⟩,_,_,rfl,rfl,rfl⟩:=A;by_cases u:xs=[];subst u;exact(Tryz.strings_Join_none p c ⟨⟨sep⟩⟩ w).mono λe w' ⟨n,z⟩=>⟨_,n,by simp[VR,Lib.join],by subst z;exact QZ.refl _⟩
  rcases B with⟨H,_⟩|⟨b,o,rfl,f⟩;simp_all;have k:∀(j:Nat) x,(xs.map λs=>(⟨⟨s⟩⟩:ByteArray))[j]?=some x->w.cell? ⟨b,o+j,none⟩=some (.string x):=λj x m=>by rw[afS]at m;rcases hxs:xs[j]? with _|s;simp_all;rw[hxs]at m;simp only[afi,aeZ]at m;subst m;obtain⟨v,g1,y⟩:=f.get (i:=j) (a:=.str s) (by rw[afS,hxs];rfl);subst y;exact F.mem _ _ _ g1
  have r:b<w.heap.size:=by have t:0<xs.length:=afP.2 u;have C:=k 0 ⟨⟨xs[0]⟩⟩ (by rw[afS,afn t];rfl);rcases aft b w.heap.size with g|g;omega;simp[World.cell?,Array.getElem?_eq_none g]at C
  have l:(xs.map λs=>(⟨⟨s⟩⟩:ByteArray)).map (·.data.toList)=xs:=(by rw[afj];exact List.map_id'' (λ_=>rfl) xs);have key:=Tryz.strings_Join b o c (xs.map λs=>(⟨⟨s⟩⟩:ByteArray)) ⟨⟨sep⟩⟩ w k r (by rw[ae6];omega) (by rw[ae6];exact q) (by rw[l];exact D);rw[l]at key;simp only[ae6]at key;exact key.mono λe w' ⟨n,d⟩=>⟨_,n,by simp[VR],⟨λb r=>d.block b r,d.size,d.os,d.tape,d.output⟩⟩) h
theorem Rel.putStrs{w0:World}{S0:SB}{E:Env}{L:List Blk}{w:World}(h:Rel w0 S0 E L w){i:Nat}{xs d:List (List UInt8)}{rest:List AV}{c:Loc}(l:L[i]?=some (.cells (ay xs++rest)))(f:E.loc i=some c)(hd:d.length=xs.length)(q:Nat):
  Rel w0 S0 E (L.set i (.cells (ay d++rest))) (putRow encStr (Sort.ahead w q) c.blk c.off d.toArray):=by
 obtain⟨c',cs,ty,fr,m,u,v,h4,y,x⟩:=h.blk i _ l;rw[f]at m;cases m;have t:(putRow encStr (Sort.ahead w q) c.blk c.off d.toArray).heap[c.blk]?=some (.cells (putCells encStr c.off d.toArray cs) ty fr):=by simp[putRow,mapBlock,Sort.ahead,agK,u,onCells]
 have n:(ay xs++rest).length=xs.length+rest.length:=ah4;refine h.turn (k':=.cells (ay d++rest)) l rfl f ah4 (λb p=>?_) rfl rfl rfl ⟨c,_,ty,fr,f,t,by simp[putCells,v],?_,λj a z=>?_,x⟩ (λ_ _ e=>by cases e);have:c.blk≠b:=λe=>p e.symm
 simp[putRow,mapBlock,Sort.ahead,agK,this];simp_all;have A:j<d.length+rest.length:=by grind
 have k:c.off+j<cs.size:=ah3;have s:(putCells encStr c.off d.toArray cs)[c.off+j]?=some (if c.off<=c.off+j/\c.off+j<c.off+d.length then encStr (d.toArray[c.off+j-c.off]!)else cs[c.off+j]):=by simp[putCells,k]
 by_cases g:j<d.length;have r:a=.str d[j]:=by grind
 subst r;refine⟨_,s,?_⟩;simp[VR,encStr,g];have o:(ay xs++rest)[j]?=some a:=by simp_all
 grind
theorem PC{w0:World}{S0:SB}{E:Env}{L:List Blk}{w:World}(h:Rel w0 S0 E L w){i:Nat}{xs:List (List UInt8)}{rest:List AV}{c:Loc}(e:L[i]?=some (.cells (ay xs++rest)))(k:E.loc i=some c):
  Holds encStr w c.blk c.off xs.toArray/\c.blk<w.heap.size:=by
 obtain⟨c',cs,ty,fr,d,b,o,h4,f,m⟩:=h.blk i _ e;rw[k]at d;cases d;refine⟨λj l=>?_,(afJ.1 b).1⟩;have a:j<xs.length:=by simpa using l
 obtain⟨v,g1,g⟩:=f j (.str xs[j]) (by rw[ae3 (by simpa using a)];simp[a]);subst g;refine⟨by simp[World.cell?,encStr,b,g1,a],?_⟩;have n:=m (c.off+j) ah3 (by simp only[afc,ae6]at h4;omega);simp only[World.frozen?,b];simp_all
theorem jJ{P:Program}{f:FuncId}{fn:Func}(a:P.funcs[f]?=some fn)(b:fn.body.isSome=true)(d:(fn.name == "runtime.NumGoroutine")=false)(args:Array Value)(w:World):(callFunc f args).run P w=.ok (.enter f args) w:=by
 simp only[callFunc,ae8,run_program,ae9,a,d];cases h:fn.body with
 |none=>simp[h]at b
 |some c=>simp
def ee(xs:List (List UInt8)):List (List UInt8):=xs.mergeSort λx y=>decide (x<=y)
theorem abf{xs:List (List UInt8)}{i:Nat}{cp:Option Nat}{rest:List AV}(p:xs≠[])(u:xs.length<=1100000)(g:L[i]?=some (.cells (ay xs++rest)))(h:K (.tup []) (L.set i (.cells (ay (ee xs)++rest)))):
  aeW 106 [.lsl i 0 xs.length cp 1] L K:=λw0 S0 E w vs l t=>by
 obtain⟨_,_,rfl,⟨c,n,d,k,rfl,hd,r,_,_⟩,rfl⟩:=t;have j:0<xs.length:=afP.2 p;have f:d=c.off:=by have:=hd ah3;omega
 subst f;obtain⟨o,a⟩:=PC l g k;refine .inl ⟨jJ Tryz.func106 rfl ah5 _ _,(Tryz.slices_Sort_string c.blk c.off n xs w o a ah3).mono ?_⟩;rintro e w' ⟨rfl,q,os,rfl⟩;have s:=l.putStrs g k (d:=ee xs) (by simp[ee]) q;refine⟨E,_,_,_,rfl,.refl E,h,by simp[VR,VRL],s.grown ?_⟩;exact⟨λb m=>ahw m,by simp[grow],rfl,rfl,rfl⟩
theorem YV{cap:Option Nat}(h:K (.tup []) L):aeW 106 [.sl [] 0 cap] L K :=
 iN Tryz.func106 rfl ah5 (λw0 S0 E w vs f d=>by obtain⟨_,_,rfl,⟨p,c,rfl,_⟩,rfl⟩:=d;exact(Tryz.slices_Sort_string_none p c w).mono λe w' ⟨b,a⟩=>⟨_,b,by simp[VR,VRL],by subst a;exact QZ.refl _⟩) h
theorem abR{xs:List (List UInt8)}{sep:List UInt8}{i:Nat}{cp:Option Nat}(A:xs≠[])(C:xs.length<=1100000)(v:(Lib.join xs sep).length<=140737488355328)(q:L[i]?=some (.cells (ay xs)))(h:K (.str (Lib.join xs sep)) L):
  aeW 95 [.lsl i 0 xs.length cp 1,.str sep] L K:=λw0 S0 E w vs o t=>by
 obtain⟨_,_,rfl,⟨c,y,d,r,rfl,hd,k,_,_⟩,_,_,rfl,rfl,rfl⟩:=t;have p:0<xs.length:=afP.2 A;have m:d=c.off:=by have:=hd ah3;omega
 subst m;obtain⟨z,n⟩:=PC (rest:=[]) o (by simpa using q) r;have g:∀(j:Nat) x,(xs.map λs=>(⟨⟨s⟩⟩:ByteArray))[j]?=some x->w.cell? ⟨c.blk,c.off+j,none⟩=some (.string x):=λj x B=>by have l:j<xs.length:=(by have:=(aeY.1 B).1;simpa using this);have e:=(z j (by simpa using l)).1;simp_all
 have f:(xs.map λs=>(⟨⟨s⟩⟩:ByteArray)).map (·.data.toList)=xs:=by rw[afj];exact List.map_id'' (λ_=>rfl) xs
 have key:=Tryz.strings_Join c.blk c.off y (xs.map λs=>(⟨⟨s⟩⟩:ByteArray)) ⟨⟨sep⟩⟩ w g n (by rw[ae6];omega) (by rw[ae6];exact k) (by rw[f];exact v);rw[f]at key;simp only[ae6]at key;refine .inl ⟨jJ Tryz.func95 rfl ah5 _ _,key.mono ?_⟩;rintro e w' ⟨rfl,a⟩;exact⟨E,_,_,_,rfl,.refl E,h,by simp[VR],o.grown ⟨λb u=>a.block b u,a.size,a.os,a.tape,a.output⟩⟩
end Go.Proofs.YtajkbcmleihaoaaGreatDoor.Av
set_option maxRecDepth 100000
namespace Go.Proofs.YtajkbcmleihaoaaGreatDoor.Av
open Go
def NW:LSO:=[Aw 4]
def NV:LSO:=[Aq 5]
def NU:LSO:=[Aa 11 0,Af 12 11,Ab 13 0]
def NT:LSO:=[Ao 14 13 12]
def NS:LSO:=[Ak 15 1 11 13,Ac 16 1 15,Aa 7 16]
def NR:LSO:=[Aq 8]
def NQ:LSO:=[Aa 17 7,Af 18 17,Ab 19 0]
def NP:LSO:=[Ao 20 19 18]
def NO:LSO:=[Ak 21 2 17 19,Az 22 2 21,BG 10,Ai 2 10 22]
def NN:LSO:=[Aa 23 1]
def KZ:List (aj×Kd):=
 [As 24 0 10,Au 25 1 24 0 0,AM 26 103 25 0 0,As 27 1 10,Au 28 1 27 0 0]
def II:List aj :=
 [⟨(some 29),(.call 104 [(tm 28)]),none⟩,⟨(some 30),(.build [(.str []),(.str [])] [(0,(1,(tm 26))),(1,(1,(tm 29)))]),none⟩,⟨none,(.store 2 (tm 10) (tm 30)),none⟩]
def KY:List (aj×Kd):=
 [Ar 31 8,As 32 0 10,Au 33 1 32 0 0,od 34 (.bin .add (tm 33) (.av (.str [61]))) .pure,As 35 1 10,Au 36 1 35 0 0,AM 37 105 36 0 0,Bh 38 34 37,
 od 39 (.bslice false 1 1 [(.str [])] [(0,(1,(tm 38)))]) (.read 0 0)]
def IH:List aj :=
 [⟨(some 40),(.app 2 1 16 [(.str [])] (tm 31) (tm 39)),none⟩,⟨(some 8),(.mv (tm 40)),none⟩]
def KX:LSO:=[Aj 41 19 1,Aa 19 41]
def KW:LSO:=[Aa 42 1]
def KV:LSO:=[Aa 43 8,Ag 44 106 43]
def KU:LSO:=[Aa 45 5,Aa 46 8,o1 47 (.call 95 [(tm 46),(.av (.str [43]))]),AN 48 47,Bi 49 45 48,Aa 5 49]
def KT:LSO:=[Aj 50 13 1,Aa 13 50]
def KS:LSO:=[Aa 51 5,o1 52 (.call 95 [(tm 51),(.av (.str [44]))]),Aa 4 52]
def yO:aI:=⟨53,(ahW NW [] (ahW NV [] (.seq (ahW NU [] (ahZ 0 (ahW NT [] (.seq (ah0 14 0) (.seq (.block 1 (ahW NS Ce (ahW NR [] (.seq (ahW NQ [] (ahZ 2 (ahW NP [] (.seq (ah0 20 2) (.seq (.block 3 (ahW NO Ce (.seq (ahW NN [] (ahX 23 (.dregM KZ II Cz) .skip)) (.dregM KY IH Cv)))) (.sreg KX Cd)))))) (.seq (ahW KW [] (ahX 42 (.sreg KV C0) .skip)) (.sreg KU Ci)))))) (.sreg KT Cd)))))) (ahW KS Ce .ret)))),[(.tmp 4)]⟩
attribute [push_cast] NW NV NU NT NS NR NQ NP NO NN KZ II KY IH KX KW KV KU KT KS
theorem Mm:aK Tryz.prog (λr i=>if r=11/\i=9 then 2 else 1) 76=some yO.raw:=ah5
attribute [push_cast] yO
variable {L:List Blk}{K:aeX}
set_option maxHeartbeats 8000000
set_option maxRecDepth 100000
def avT(key:Bool)(a:Ava):List UInt8:=if key=true then aE a.1++[61]++kN (bE a.2)else a.1++[61]++kN a.2
def cM(key:Bool)(r:Rdn):List UInt8:=Lib.join (if key=true then ee (r.map (avT key))else r.map (avT key)) [43]
def aP(key:Bool)(d:List Rdn):List UInt8:=Lib.join (d.map (cM key)) [44]
theorem O6(n:Nat):∀(s:List UInt8) (i:Nat),(wrL n i s).length<=3*s.length
 |[],_=>by simp[wrL]
 |c::s,i=>by have b:=O6 n s (i+1);have a:=aa1 i n c;simp only[wrL,afc,afg];omega
theorem Xg(l:List (List UInt8)):AV.frzL (ay l)=ay l:=by rw[AV.frzL_eq,afj];rfl
theorem WM{xs:List (List UInt8)}{sep:List UInt8}{i n:Nat}(a:n=xs.length)(c:xs.length<=1100000)(b:(Lib.join xs sep).length<=140737488355328)(h:K (.str (Lib.join xs sep)) L):
  aeW 95 [.gsl (ay xs) n i 1,.str sep] L K:=by
 subst a;exact cL (by simpa only[AV.frzL,AV.frz,Xg]using L9 (cap:=none) c b h)
theorem T8{xs:List (List UInt8)}{sep:List UInt8}{i n:Nat}{cp:Option Nat}(d:n=xs.length)(b:xs≠[])(c:xs.length<=1100000)(e:(Lib.join xs sep).length<=140737488355328)(a:L[i]?=some (.cells (ay xs)))(h:K (.str (Lib.join xs sep)) L):
  aeW 95 [.lsl i 0 n cp 1,.str sep] L K:=by
 subst d;exact abR b c e a h
theorem abc{d:List Rdn}{cap:Option Nat}(hn:d.length<=1000)(hr:∀r∈d,r.length<=1000/\∀a∈r,a.1.length<=10000/\a.2.length<=10000)(E:∀r∈d,(cM false r).length<=140737488355328)(Q:(aP false d).length<=140737488355328)(h:K (.str (aP false d)) L):
  aeW 76 [.sl (d.map aH) d.length cap,.bool false] L K:=by
 replace h:=hid h;have ab:=hid (λk=>@yW d k);replace hr:=hid hr;replace E:=hid E;have S:∀(W:List Blk) (j:Nat) (A:Blk),L.length<=j->(L++W).set j A=L++W.set (j-L.length) A:=λW j A D=>afG _ _ D
 replace S:=hid S;refine aeV Mm ?_;refine cG (l:=[]) (n:=0) 5 1 rfl (afD 1).symm ?_;refine ao (λn T' L'=>∃(i:Nat) (all:List (List UInt8)) (Z:List Blk),n=d.length-i/\i<=d.length/\Hid (all=(d.take i).map (cM false))/\L'[L.length]?=some (.spare i 1)/\T'=[(13,.int .i64 (i:Int)),(12,.int .i64 d.length),(11,.sl (d.map aH) d.length cap),(5,.gsl (ay all) i L.length 1),(1,.bool false)]/\L'=L++Z) ah7 ⟨0,[],[.spare 0 1],rfl,ae5 _,hid rfl,ah4,rfl,rfl⟩ ?_;rintro _ _ _ ⟨i,all,X,rfl,hi,y,ho,rfl,rfl⟩;by_cases t:i<d.length
 .have g1:(i:Int)<(d.length:Int):=ah3;have g2:=aeU i ah3;have e2:=ab.o i t;have F:d.getD i []∈d:=(by rw[afh,afn t];exact age _);have N:=hr.o _ F;have G:=E.o _ F;obtain⟨r,J⟩:=aeS (d.getD i []);have H:d.take (i+1)=d.take i++[r]:=(by rw[afs t,<- J];simp[t]);rw[J]at e2 N G;clear J F;obtain⟨an,x⟩:=N;replace x:=hid x;replace H:=hid H;have V:=(aeY.1 ho).1;rw[afc]at V;replace V:=hid V;refine wk ?_;refine ao (λn T' L'=>∃(k:Nat) (v:AV) (Z:List Blk),n=r.length-k/\k<=r.length/\X.length<=Z.length/\L'[L.length]?=some (.spare i 1)/\Hid ((v=.sl [] 0 (some 0)/\k=0)\/∃j,(0<k/\L.length<j)/\v=.lsl j 0 k none 1/\L'[j]?=some (.cells (ay ((r.take k).map (avT false)))))/\T'=[(19,.int .i64 (k:Int)),(18,.int .i64 r.length),(17,aH r),(8,v),(13,.int .i64 (i:Int)),(12,.int .i64 d.length),(11,.sl (d.map aH) d.length cap),(5,.gsl (ay all) i L.length 1),(1,.bool false)]/\L'=L++Z) ah7 ⟨0,_,X,rfl,ae5 _,ae0 _,ho,hid (.inl ⟨rfl,rfl⟩),rfl,rfl⟩ ?_;rintro _ _ _ ⟨k,v,Z,rfl,hk,u,m,hv,rfl,rfl⟩;replace u:=hid u;by_cases w:k<r.length
  .have g3:(k:Int)<(r.length:Int):=ah3;have g4:=aeU k ah3;have e3:=oc w;have e4:k*2+2<=(bQ r).length:=(by rw[iW];omega);obtain⟨⟨ty,B⟩,U⟩:∃a,r.getD k ([],[])=a:=⟨_,rfl⟩;have P:(ty,B)∈r:=(by rw[<- U];simp[w]);have q:(r.take (k+1)).map (avT false)=(r.take k).map (avT false)++[ty++61::kN B]:=by rw[afs w];have:r[k]=(ty,B):=(by rw[<- U];simp[w]);rw[this];simp[avT]
   rw[U]at e3;simp only[GR]at e3;have R:=x.o _ P;simp only at R;have c:B.length<=100000:=ah3;have Y:=O6 B.length B 0;have b1:(ty.length:Int)+1<=9223372036854775807:=ah3;have b2:(ty.length:Int)+1+((kN B).length:Int)<=9223372036854775807:=(by unfold kN;omega);clear Y U P R;replace q:=hid q;have q1:(k+1)*16<=140737488355328:=ah3;have q2:k+1<=140737488355328:=ah3;have q3:k<=140737488355327:=ah3;rcases hv.o with⟨rfl,g⟩|⟨j,⟨M,ai⟩,rfl,D⟩;replace g:=hid g;have kk1:=@aia _ _ _ _ (gh c);refine wk ?_;refine ah8 ah3 (CutL (b:=?_)) ⟨k+1,.lsl (L.length+(Z.length+1)) 0 1 none 1,_,rfl,w,?_,?_,hid (.inr ⟨L.length+(Z.length+1),⟨ah3,ah3⟩,by rw[g.o],?_⟩),rfl,rfl⟩;have:=u.o;simp;omega;have:=u.o;simp;omega;rw[<- afa,ae3 (aeY.1 m).1];exact m;rw[zg,zg,q.o,g.o];rfl
   .obtain⟨cur,f⟩:=aeS ((r.take k).map (avT false));have z:cur.length=k:=(by rw[<- f];simp;omega);rw[f]at D;have O:(L++(Z++[Blk.cells [.str ty,.str B]]))[j]?=some (.cells (ay cur)):=by rw[<- afa,ae3 (aeY.1 D).1];exact D
    have f2:(L++(Z++[Blk.cells [.str ty,.str B]])).set j .dead=L++(Z++[Blk.cells [.str ty,.str B]]).set (j-L.length) .dead:=S.o _ _ _ ah3;have f3:k<=(ay cur).length:=(by simp[z]);have f4:(ay cur).take k=ay cur:=afu (by simp[z]);replace f:=hid f;replace z:=hid z;have ad:=hid (show j≠L.length by omega);have al:=hid f2
    repeat' first
     |refine lF ?_
     | (first|refine jO ah5 ?_|refine fW ah5 ?_|refine fZ ?_|refine Eb ?_|refine oA (fun _=>?_)|refine ed ?_|refine jQ ?_|refine gh c ?_|refine dD (gh c ⟨rfl,rfl⟩) (gh c ⟨rfl,rfl⟩) ?_|refine bu (gh c ⟨rfl,rfl⟩) ?_)
       refine sm ?_
     | (first|refine jK ah5 ?_|refine iX ?_|refine fY ?_|refine jP ?_|refine oF (d9 ?_))
       refine sl ?_
     |exact oB
     |first|apply oC|apply jL|apply oD|apply jM|apply oE|apply jN
     |refine gg ?_
     |refine fX ?_
     |first|refine gc rfl ?_|refine gf rfl ?_|refine cO rfl ?_ ?_|refine iM rfl (λ_=>?_) (λ_=>?_)|refine iL rfl (λ_=>?_) (λ_=>?_)
     |((first|refine cN (λ_=>?_) (λ_=>?_)|refine dZ (λ_=>?_) (λ_=>?_))<;>try refine sm ?_)
     |refine And.intro trivial ?_
     |refine And.intro ah3 ?_
     |refine eZ rfl (λ_=>?_) (λ_=>?_)
     |refine And.intro ?_ ?_
    rw[z.o];exact ae0 _;have hA:((Z++[Blk.cells [.str ty,.str B]]).set (j-L.length) .dead).length=Z.length+1:=ah4;refine ah8 ah3 (CutL (b:=?_)) ⟨k+1,.lsl (L.length+(Z.length+1)) 0 (k+1) none 1,_,rfl,w,?_,?_,hid (.inr ⟨L.length+(Z.length+1),⟨ah3,ah3⟩,rfl,?_⟩),rfl,rfl⟩;have:=u.o;simp;omega;have:=u.o;simp;omega;rw[<- afa,<- al.o,ae3 ah4,ae4 ad.o,<- afa,ae3 (aeY.1 m).1];exact m;rw[zg,<- hA,SC,q.o,f.o];simp
  have I:k=r.length:=ah3;subst I;have g3:¬(r.length:Int)<(r.length:Int):=ah3;have q4:(i+1)*16<=140737488355328:=ah3;have q5:i+1<=140737488355328:=ah3;have s:cM false r=Lib.join (r.map (avT false)) [43]:=(by simp[cM]);rw[s]at G;have p:(d.take (i+1)).map (cM false)=all++[Lib.join (r.map (avT false)) [43]]:=by rw[H.o,afk,<- y.o,<- s];rfl
  have f0:(L++Z).set L.length (.spare (i+1) 1)=L++Z.set 0 (.spare (i+1) 1):=(by rw[S.o _ _ _ (ae0 _),agG]);have O:(L++Z.set 0 (.spare (i+1) 1))[L.length]?=some (.spare (i+1) 1):=by rw[<- f0,afC,if_pos rfl,if_pos (aeY.1 m).1]
  replace s:=hid s;replace p:=hid p;replace O:=hid O;rcases hv.o with⟨rfl,g⟩|⟨j,⟨M,ai⟩,rfl,D⟩;have C:r=[]:=afK.1 g;replace g:=hid g;refine wk ?_;refine L9 (xs:=[]) ah4 (by simp[Lib.join]) ?_;refine aib ?_;rw[show ay all++[AV.str (Lib.join [] [43])]=ay (all++[Lib.join [] [43]])by simp];exact ah8 ah3 (CutL (b:=by have:=V.o;have h0:=(aeY.1 m).1;simp at h0⊢;omega)) ⟨i+1,all++[Lib.join [] [43]],_,rfl,t,hid (by rw[p.o,C];rfl),O.o,rfl,rfl⟩;rw[afo]at D;by_cases C:r=[];rw[C]at M;cases M;refine wk ?_;refine T8 (xs:=r.map (avT false)) ah4 (by simpa using C) (by simp;omega) G (by simpa using D) ?_;refine aib ?_;rw[show ay all++[AV.str (Lib.join (r.map (avT false)) [43])]=ay (all++[Lib.join (r.map (avT false)) [43]])by simp];exact ah8 ah3 (CutL (b:=by have h0:=(aeY.1 m).1;simp at h0⊢;omega)) ⟨i+1,all++[Lib.join (r.map (avT false)) [43]],_,rfl,t,hid p.o.symm,O.o,rfl,rfl⟩
 have I:i=d.length:=ah3;subst I;have g1:¬(d.length:Int)<(d.length:Int):=ah3;have e:=y.o;rw[afo]at e;have T:=h.o;simp only[aP]at T Q;replace T:=hid T;clear y;subst e;refine wk ?_;refine WM ah4 (by simp;omega) Q ?_;refine aib ?_;exact af rfl T.o
theorem Vd(s:List UInt8):(bO s).length<=s.length:=by have:=yC s s.length;rwa[afo]at this
theorem RE(s:List UInt8):(bE s).length<=s.length:=by
 have a:=Vd (aE s);have b:(aE s).length=s.length:=by simp[aE]
 unfold bE eJ;split;simp only[List.length_dropLast];omega;omega
theorem YU{xs:List (List UInt8)}{i n:Nat}{cp:Option Nat}(d:n=xs.length)(b:xs≠[])(c:xs.length<=1100000)(a:L[i]?=some (.cells (ay xs)))(h:K (.tup []) (L.set i (.cells (ay (ee xs))))):
  aeW 106 [.lsl i 0 n cp 1] L K:=by
 subst d;exact abf (rest:=[]) b c (by simpa using a) (by simpa using h)
theorem Rt(xs:List (List UInt8)):(ee xs).length=xs.length:=by simp[ee]
theorem Wk{d:List Rdn}{cap:Option Nat}(hn:d.length<=1000)(hr:∀r∈d,r.length<=1000/\∀a∈r,a.1.length<=10000/\a.2.length<=10000)(O:∀r∈d,(cM true r).length<=140737488355328)(ai:(aP true d).length<=140737488355328)(h:K (.str (aP true d)) L):
  aeW 76 [.sl (d.map aH) d.length cap,.bool true] L K:=by
 replace h:=hid h;have a0:=hid (λk=>@yW d k);replace hr:=hid hr;replace O:=hid O;have Y:∀(W:List Blk) (j:Nat) (A:Blk),L.length<=j->(L++W).set j A=L++W.set (j-L.length) A:=λW j A D=>afG _ _ D
 replace Y:=hid Y;refine aeV Mm ?_;refine cG (l:=[]) (n:=0) 5 1 rfl (afD 1).symm ?_;refine ao (λn T' L'=>∃(i:Nat) (all:List (List UInt8)) (Z:List Blk),n=d.length-i/\i<=d.length/\Hid (all=(d.take i).map (cM true))/\L'[L.length]?=some (.spare i 1)/\T'=[(13,.int .i64 (i:Int)),(12,.int .i64 d.length),(11,.sl (d.map aH) d.length cap),(5,.gsl (ay all) i L.length 1),(1,.bool true)]/\L'=L++Z) ah7 ⟨0,[],[.spare 0 1],rfl,ae5 _,hid rfl,ah4,rfl,rfl⟩ ?_;rintro _ _ _ ⟨i,all,X,rfl,hi,G,ho,rfl,rfl⟩;by_cases y:i<d.length
 .have g1:(i:Int)<(d.length:Int):=ah3;have g2:=aeU i ah3;have e2:=a0.o i y;have P:d.getD i []∈d:=(by rw[afh,afn y];exact age _);have ab:=hr.o _ P;have I:=O.o _ P;obtain⟨r,S⟩:=aeS (d.getD i []);have Q:d.take (i+1)=d.take i++[r]:=(by rw[afs y,<- S];simp[y]);rw[S]at e2 ab I;clear S P;obtain⟨a4,F⟩:=ab;replace F:=hid F;replace Q:=hid Q;have hX:=(aeY.1 ho).1;rw[afc]at hX;replace hX:=hid hX;refine wk ?_;refine ao (λn T' L'=>∃(k:Nat) (v:AV) (Z:List Blk),n=r.length-k/\k<=r.length/\X.length<=Z.length/\L'[L.length]?=some (.spare i 1)/\Hid ((v=.sl [] 0 (some 0)/\k=0)\/∃j,(0<k/\L.length<j)/\v=.lsl j 0 k none 1/\L'[j]?=some (.cells (ay ((r.take k).map (avT true)))))/\T'=[(19,.int .i64 (k:Int)),(18,.int .i64 r.length),(17,aH r),(8,v),(13,.int .i64 (i:Int)),(12,.int .i64 d.length),(11,.sl (d.map aH) d.length cap),(5,.gsl (ay all) i L.length 1),(1,.bool true)]/\L'=L++Z) ah7 ⟨0,_,X,rfl,ae5 _,ae0 _,ho,hid (.inl ⟨rfl,rfl⟩),rfl,rfl⟩ ?_;rintro _ _ _ ⟨k,v,Z,rfl,hk,z,p,hv,rfl,rfl⟩;replace z:=hid z;by_cases B:k<r.length
  .have g3:(k:Int)<(r.length:Int):=ah3;have g4:=aeU k ah3;have e3:=oc B;have e4:k*2+2<=(bQ r).length:=(by rw[iW];omega);obtain⟨⟨ty,C⟩,ha⟩:∃a,r.getD k ([],[])=a:=⟨_,rfl⟩;have ad:(ty,C)∈r:=(by rw[<- ha];simp[B]);have w:(r.take (k+1)).map (avT true)=(r.take k).map (avT true)++[aE ty++61::kN (bE C)]:=by rw[afs B];have:r[k]=(ty,C):=(by rw[<- ha];simp[B]);rw[this];simp[avT]
   rw[ha]at e3;simp only[GR]at e3;have al:=F.o _ ad;simp only at al;have an:=RE C;have m:(bE C).length<=100000:=ah3;have g:(C.length:Int)<=100000:=ah3;have c:(ty.length:Int)<=100000:=ah3;have ap:=O6 (bE C).length (bE C) 0;have av:(aE ty).length=ty.length:=(by simp[aE]);have b1:((aE ty).length:Int)+1<=9223372036854775807:=ah3;have b2:((aE ty).length:Int)+1+((kN (bE C)).length:Int)<=9223372036854775807:=(by unfold kN;omega);clear ap ha ad al av an;replace w:=hid w;have q1:(k+1)*16<=140737488355328:=ah3;have q2:k+1<=140737488355328:=ah3;have q3:k<=140737488355327:=ah3;rcases hv.o with⟨rfl,s⟩|⟨j,⟨T,a2⟩,rfl,D⟩;replace s:=hid s;have kk1:=@aia _ _ _ _ (Gz c);have kk2:=@aia _ _ _ _ (PK g);have kk3:=@aia _ _ _ _ (gh m);refine wk ?_;refine ah8 ah3 (CutL (b:=?_)) ⟨k+1,.lsl (L.length+(Z.length+1)) 0 1 none 1,_,rfl,B,?_,?_,hid (.inr ⟨L.length+(Z.length+1),⟨ah3,ah3⟩,by rw[s.o],?_⟩),rfl,rfl⟩;have:=z.o;simp;omega;have:=z.o;simp;omega;rw[<- afa,ae3 (aeY.1 p).1];exact p;rw[zg,zg,w.o,s.o];rfl
   .obtain⟨cur,q⟩:=aeS ((r.take k).map (avT true));have H:cur.length=k:=(by rw[<- q];simp;omega);rw[q]at D;have N:(L++(Z++[Blk.cells [.str (aE ty),.str (bE C)]]))[j]?=some (.cells (ay cur)):=by rw[<- afa,ae3 (aeY.1 D).1];exact D
    have M:(L++(Z++[Blk.cells [.str (aE ty),.str (bE C)]])).set j .dead=L++(Z++[Blk.cells [.str (aE ty),.str (bE C)]]).set (j-L.length) .dead:=Y.o _ _ _ ah3;have f3:k<=(ay cur).length:=(by simp[H]);have f4:(ay cur).take k=ay cur:=afu (by simp[H]);replace q:=hid q;replace H:=hid H;have a1:=hid (show j≠L.length by omega);have a3:=hid M
    repeat' first
     |refine lF ?_
     | (first|refine jO ah5 ?_|refine fW ah5 ?_|refine fZ ?_|refine Eb ?_|refine oA (fun _=>?_)|refine ed ?_|refine jQ ?_|refine Gz c ?_|refine PK g ?_|refine gh m ?_|refine dD (Gz c ⟨rfl,rfl⟩) (Gz c ⟨rfl,rfl⟩) ?_|refine dD (PK g ⟨rfl,rfl⟩) (PK g ⟨rfl,rfl⟩) ?_|refine dD (gh m ⟨rfl,rfl⟩) (gh m ⟨rfl,rfl⟩) ?_|refine bu (Gz c ⟨rfl,rfl⟩) ?_|refine bu (PK g ⟨rfl,rfl⟩) ?_|refine bu (gh m ⟨rfl,rfl⟩) ?_)
       refine sm ?_
     | (first|refine jK ah5 ?_|refine iX ?_|refine fY ?_|refine jP ?_|refine oF (d9 ?_))
       refine sl ?_
     |exact oB
     |first|apply oC|apply jL|apply oD|apply jM|apply oE|apply jN
     |refine gg ?_
     |refine fX ?_
     |first|refine gc rfl ?_|refine gf rfl ?_|refine cO rfl ?_ ?_|refine iM rfl (λ_=>?_) (λ_=>?_)|refine iL rfl (λ_=>?_) (λ_=>?_)
     |((first|refine cN (λ_=>?_) (λ_=>?_)|refine dZ (λ_=>?_) (λ_=>?_))<;>try refine sm ?_)
     |refine And.intro trivial ?_
     |refine And.intro ah3 ?_
     |refine eZ rfl (λ_=>?_) (λ_=>?_)
     |refine And.intro ?_ ?_
    rw[H.o];exact ae0 _;have hA:((Z++[Blk.cells [.str (aE ty),.str (bE C)]]).set (j-L.length) .dead).length=Z.length+1:=ah4;refine ah8 ah3 (CutL (b:=?_)) ⟨k+1,.lsl (L.length+(Z.length+1)) 0 (k+1) none 1,_,rfl,B,?_,?_,hid (.inr ⟨L.length+(Z.length+1),⟨ah3,ah3⟩,rfl,?_⟩),rfl,rfl⟩;have:=z.o;simp;omega;have:=z.o;simp;omega;rw[<- afa,<- a3.o,ae3 ah4,ae4 a1.o,<- afa,ae3 (aeY.1 p).1];exact p;rw[zg,<- hA,SC,w.o,q.o];simp
  have R:k=r.length:=ah3;subst R;have g3:¬(r.length:Int)<(r.length:Int):=ah3;have q4:(i+1)*16<=140737488355328:=ah3;have q5:i+1<=140737488355328:=ah3;have x:cM true r=Lib.join (ee (r.map (avT true))) [43]:=(by simp[cM]);rw[x]at I;have f:(d.take (i+1)).map (cM true)=all++[Lib.join (ee (r.map (avT true))) [43]]:=by rw[Q.o,afk,<- G.o,<- x];rfl
  replace x:=hid x;replace f:=hid f;rcases hv.o with⟨rfl,s⟩|⟨j,⟨T,a2⟩,rfl,D⟩;have V:r=[]:=afK.1 s;have f0:(L++Z).set L.length (.spare (i+1) 1)=L++Z.set 0 (.spare (i+1) 1):=(by rw[Y.o _ _ _ (ae0 _),agG]);have N:(L++Z.set 0 (.spare (i+1) 1))[L.length]?=some (.spare (i+1) 1):=by rw[<- f0,afC,if_pos rfl,if_pos (aeY.1 p).1]
  replace N:=hid N;replace s:=hid s;refine wk ?_;refine YV ?_;refine aib ?_;refine L9 (xs:=[]) ah4 (by simp[Lib.join]) ?_;refine aib ?_;rw[show ay all++[AV.str (Lib.join [] [43])]=ay (all++[Lib.join [] [43]])by simp];exact ah8 ah3 (CutL (b:=by have:=hX.o;have h0:=(aeY.1 p).1;simp at h0⊢;omega)) ⟨i+1,all++[Lib.join [] [43]],_,rfl,y,hid (by rw[f.o,V];simp[ee]),N.o,rfl,rfl⟩;rw[afo]at D;have V:r≠[]:=λe=>by rw[e]at T;cases T
  obtain⟨xs,J⟩:=aeS (r.map (avT true));have t:r.length=xs.length:=(by rw[<- J];simp);have u:xs≠[]:=λe=>V (by have:=t;rw[e]at this;exact afK.1 this)
  rw[J]at D I f;have E:=Rt xs;have a5:L.length+(j-L.length)=j:=ah3;have M:(L++Z).set j (.cells (ay (ee xs)))=L++Z.set (j-L.length) (.cells (ay (ee xs))):=Y.o _ _ _ ah3;have f3:(L++Z.set (j-L.length) (.cells (ay (ee xs))))[j]?=some (.cells (ay (ee xs))):=by rw[<- M,afC,if_pos rfl,if_pos (aeY.1 D).1]
  have U:(L++Z.set (j-L.length) (.cells (ay (ee xs))))[L.length]?=some (.spare i 1):=by rw[<- M,ae4 ah3];exact p
  clear p;replace D:=hid D;generalize hZ1:Z.set (j-L.length) (.cells (ay (ee xs)))=Z1 at M f3 U;have f0:(L++Z1).set L.length (.spare (i+1) 1)=L++Z1.set 0 (.spare (i+1) 1):=(by rw[Y.o _ _ _ (ae0 _),agG]);have N:(L++Z1.set 0 (.spare (i+1) 1))[L.length]?=some (.spare (i+1) 1):=by rw[<- f0,afC,if_pos rfl,if_pos (aeY.1 U).1]
  replace N:=hid N;replace M:=hid M;replace f3:=hid f3;replace J:=hid J;replace t:=hid t;replace E:=hid E;clear hZ1;replace u:=hid u;refine wk ?_;refine YU t.o u.o (by have:=t.o;omega) D.o ?_;rw[M.o];refine aib ?_;refine T8 (xs:=ee xs) (by rw[E.o];exact t.o) (λe=>u.o (by have:=E.o;rw[e]at this;exact afK.1 this.symm)) (by have:=t.o;rw[E.o];omega) I f3.o ?_;refine aib ?_;rw[show ay all++[AV.str (Lib.join (ee xs) [43])]=ay (all++[Lib.join (ee xs) [43]])by simp];exact ah8 ah3 (CutL (b:=by have h0:=(aeY.1 U).1;simp at h0⊢;omega)) ⟨i+1,all++[Lib.join (ee xs) [43]],_,rfl,y,hid f.o.symm,N.o,rfl,rfl⟩
 have R:i=d.length:=ah3;subst R;have g1:¬(d.length:Int)<(d.length:Int):=ah3;have e:=G.o;rw[afo]at e;have h':=h.o;simp only[aP]at h' ai;replace h':=hid h';clear G;subst e;refine wk ?_;refine WM ah4 (by simp;omega) ai ?_;refine aib ?_;exact af rfl h'.o
def Jj(r:Rdn):Bool:=r.any λa=>decide (4096<a.2.length)
def LZ(d:List Rdn):Bool:=d.any Jj
theorem R1:∀(t done:Rdn),eH done t=0->done.length<=8->(done++t).length<=8/\∀a∈t,a.1.length<=32
 |[],done,_,h=>by simp;exact h
 | a::t,done,h,hd=>by
   simp only[eH]at h;split at h
   .cases h
   .split at h
    .cases h
    .split at h
     .cases h
     .rename_i h1 h2 h3;have:=R1 t (done++[a]) h (by simp;omega);refine⟨by simpa using this.1,λb c=>?_⟩;rcases afp.1 c with rfl|c
      .exact Pu (by simpa using h2)
      .exact this.2 b c
theorem SO:∀(d:List Rdn) (i:Nat),oo i d=0->i<=32->i+d.length<=32/\∀r∈d,r.length<=8/\∀a∈r,a.1.length<=32
 |[],i,_,h=>by simp;exact h
 | r::d,i,h,hi=>by
   simp only[oo]at h;split at h
   .cases h
   .split at h
    .cases h
    .split at h
     .rename_i h3;exact absurd h h3
     .rename_i h1 h2 h3;have b:eH [] r=0:=(by simpa using h3);have e:=R1 r [] b ah4;have f:=SO d (i+1) h ah3;refine⟨by simp;omega,λq c=>?_⟩;rcases afp.1 c with rfl|c
      .exact⟨by simpa using e.1,e.2⟩
      .exact f.2 q c
theorem Rn(s:List UInt8):(kN s).length<=3*s.length:=O6 _ _ _
theorem acm{key:Bool}{a:Ava}(g:a.1.length<=32)(c:a.2.length<=4096):(avT key a).length<=20000:=by
 have b:=Rn a.2;have f:=Rn (bE a.2);have e:=RE a.2;have d:(aE a.1).length=a.1.length:=by simp[aE]
 unfold avT;split;simp;omega;simp;omega
theorem P9{B:Nat}{sep:List UInt8}:∀xs:List (List UInt8),(∀x∈xs,x.length<=B)->(Lib.join xs sep).length<=xs.length*(B+sep.length)
 |[],_=>by simp[Lib.join]
 |[x],h=>by have:=h x ah4;simp[Lib.join,List.intercalate];omega
 | x::y::l,h=>by
   have b:=P9 (sep:=sep) (y::l) λz a=>h z (agB _ a)
   have c:=h x ah4;have e:Lib.join (x::y::l) sep=x++(sep++Lib.join (y::l) sep):=(by simp[Lib.join,List.intercalate]);rw[e];simp only[afc,afg,Nat.succ_mul]at b⊢;omega
theorem Kf{key:Bool}{r:Rdn}(h:r.length<=8)(k:∀a∈r,a.1.length<=32)(j:∀a∈r,a.2.length<=4096):(cM key r).length<=200000:=by
 have e:∀xs:List (List UInt8),xs.length<=8->(∀x∈xs,x.length<=20000)->(Lib.join xs [43]).length<=200000:=λxs a b=>by have c:=P9 (sep:=[43]) xs b;have d:xs.length*(20000+[(43:UInt8)].length)<=8*(20000+1):=agi _ a;omega
 have i:∀x∈r.map (avT key),x.length<=20000:=λx f=>by obtain⟨a,g,rfl⟩:=ae1.1 f;exact acm (k a g) (j a g)
 unfold cM;split;refine e _ (by rw[Rt];simpa using h) λx f=>i x ?_
 exact(aga (r.map (avT key)) _).mem_iff.1 f;exact e _ (by simpa using h) i
theorem J8{key:Bool}{d:List Rdn}(b:d.length<=32)(f:∀r∈d,(cM key r).length<=200000):(aP key d).length<=10000000:=by
 have c:=P9 (sep:=[44]) (B:=200000) (d.map (cM key)) λx a=>by obtain⟨r,hr,rfl⟩:=ae1.1 a;exact f r hr
 have e:(d.map (cM key)).length*(200000+[(44:UInt8)].length)<=32*(200000+1):=agi _ (by simpa using b);unfold aP;omega
def prS(d:List Rdn):List UInt8×Int:=if oo 0 d≠0 then([],oo 0 d)else if LZ d=true then([],5)else if 4096<(aP false d).length then([],5)else(aP false d,0)
def U3(p:List UInt8×Int):AV:=.tup [.str p.1,.int .i64 p.2]
def Sq(d:List Rdn):List UInt8×Int:=if(prS d).2≠0 then([],(prS d).2)else(aP true d,0)
theorem yX{d:List Rdn}{cap:Option Nat}(P:d.length<=1100000)(hr:∀r∈d,r.length<=1100000)(h:K (U3 (prS d)) L):
  aeW 35 [.sl (d.map aH) d.length cap] L K:=by
 have I:=hid (λk=>@yW d k);unfold prS U3 at h;refine aeV Rh ?_;refine ab9 P hr ?_;by_cases D:oo 0 d=0;rotate_left;rw[if_pos D]at h;replace h:=hid h;refine aib ?_;exact ag h.o;rw[if_neg (by simpa using D)]at h;obtain⟨O,f⟩:=SO d 0 D ah3;rw[D];replace f:=hid f;replace h:=hid h;clear hr P D;refine aib ?_;refine ao (λn T' L'=>∃(i:Nat) (c:Int) (Z:List Blk),n=d.length-i/\i<=d.length/\Hid (LZ (d.take i)=false/\0<=c/\c<=8*i)/\T'=[(18,.int .i64 (i:Int)),(17,.int .i64 d.length),(16,.sl (d.map aH) d.length cap),(5,.int .i64 c),(0,.sl (d.map aH) d.length cap)]/\L'=L++Z) ah7 ⟨0,0,[],rfl,ae5 _,hid ⟨rfl,ah3,ah3⟩,rfl,ah4⟩ ?_;rintro _ _ _ ⟨i,c,X,rfl,W,C,rfl,rfl⟩;by_cases m:i<d.length;have g1:(i:Int)<(d.length:Int):=ah3;have g2:=aeU i ah3;have U:=I.o i m;have w:d.getD i []∈d:=by rw[afh,afn m];exact age _
 obtain⟨r,y⟩:=aeS (d.getD i []);have z:d.take (i+1)=d.take i++[r]:=by rw[afs m,<- y];simp[m]
 rw[y]at U w;have R:=(f.o r w).1;have bad:Jj r=true->K (.tup [.str [],.int .i64 5]) L:=λe=>by have p:=h.o;rw[if_pos (show LZ d=true from agp.2 ⟨r,w,e⟩)]at p;exact p
 replace bad:=hid bad;replace z:=hid z;clear y w;refine wk ?_;refine ao (λn T' L'=>∃(k:Nat) (c':Int) (Z:List Blk),n=r.length-k/\k<=r.length/\X.length<=Z.length/\Hid (Jj (r.take k)=false/\c'=c+k)/\T'=[(24,.int .i64 (k:Int)),(23,.int .i64 r.length),(22,aH r),(18,.int .i64 (i:Int)),(17,.int .i64 d.length),(16,.sl (d.map aH) d.length cap),(5,.int .i64 c'),(0,.sl (d.map aH) d.length cap)]/\L'=L++Z) ah7 ⟨0,c,X,rfl,ae5 _,ae0 _,hid ⟨rfl,ah3⟩,rfl,rfl⟩ ?_;rintro _ _ _ ⟨k,c',Z,rfl,Y,t,B,rfl,rfl⟩;replace t:=hid t;by_cases l:k<r.length;have g3:(k:Int)<(r.length:Int):=ah3;have g4:=aeU k ah3;have g5:IntKind.i64.wrap (c'+1)=c'+1:=by obtain⟨_,M,J⟩:=C.o;have:=B.o.2;exact ae ah3 ah3
 have N:=oc l;have e4:k*2+2<=(bQ r).length:=by rw[iW];omega
 obtain⟨⟨ty,H⟩,u⟩:∃a,r.getD k ([],[])=a:=⟨_,rfl⟩;have F:(ty,H)∈r:=by rw[<- u];simp[l]
 have g:r.take (k+1)=r.take k++[(ty,H)]:=by rw[afs l,<- u];simp[l]
 rw[u]at N;simp only[GR]at N;have Yj:4096<H.length->Jj r=true:=λe=>agp.2 ⟨_,F,by simpa using e⟩
 replace Yj:=hid Yj;replace g:=hid g;clear u F;by_cases S:(4096:Int)<(H.length:Int);have p:=hid (bad.o (Yj.o ah3));refine wk ?_;exact af rfl p.o;refine wk ?_;refine ah8 ah3 (CutL (b:=?_)) ⟨k+1,c'+1,_,rfl,l,?_,hid ⟨?_,by have:=B.o.2;omega⟩,rfl,rfl⟩;have:=t.o;simp;omega;have:=t.o;simp;omega;rw[g.o,Jj,List.any_append,show(r.take k).any _=Jj (r.take k)from rfl,B.o.1];simp;omega;have A:k=r.length:=ah3;subst A;have g3:¬(r.length:Int)<(r.length:Int):=ah3;have x:=B.o.1;rw[afo]at x;replace x:=hid x;refine wk ?_;refine ah8 ah3 ah6 ⟨i+1,c',_,rfl,m,hid ⟨?_,?_,?_⟩,rfl,rfl⟩;rw[z.o,LZ,List.any_append,show(d.take i).any _=LZ (d.take i)from rfl,C.o.1];simp[x.o];obtain⟨_,M,J⟩:=C.o;have:=B.o.2;omega;obtain⟨_,M,J⟩:=C.o;have:=B.o.2;omega;have A:i=d.length:=ah3;subst A;have g1:¬(d.length:Int)<(d.length:Int):=ah3;have v:=C.o.1;rw[afo]at v;have p:=h.o;rw[if_neg (by rw[v];simp)]at p;have G:∀r∈d,∀a∈r,a.2.length<=4096:=λr hr a u=>by have Q:=agI.1 v r hr;have E:Jj r=false:=(by simpa using Q);unfold Jj at E;have j:=agI.1 E a u;simpa using j
 have q:∀r∈d,(cM false r).length<=200000:=λr hr=>Kf (f.o r hr).1 (f.o r hr).2 (G r hr)
 have V:=J8 ah3 q;replace p:=hid p;clear v;replace G:=hid G;replace q:=hid q;refine wk ?_;refine abc ah3 (λr hr=>⟨by have:=(f.o r hr).1;omega,λa u=>⟨by have:=(f.o r hr).2 a u;omega,by have:=G.o r hr a u;omega⟩⟩) (λr hr=>by have:=q.o r hr;omega) ah3 ?_;by_cases s:4096<(aP false d).length;have T:(4096:Int)<((aP false d).length:Int):=ah3;have j:=p.o;rw[if_pos s]at j;replace j:=hid j;clear s;refine aib ?_;exact af rfl j.o;have T:¬(4096:Int)<((aP false d).length:Int):=ah3;have j:=p.o;rw[if_neg s]at j;replace j:=hid j;clear s;refine aib ?_;exact af rfl j.o
theorem Sj{d:List Rdn}(h:(prS d).2=0):d.length<=32/\∀r∈d,r.length<=8/\∀a∈r,a.1.length<=32/\a.2.length<=4096:=by
 unfold prS at h;split at h;rename_i c;exact absurd h c;rename_i c;split at h;cases h;rename_i k;have j:oo 0 d=0:=by simpa using c
 obtain⟨m,f⟩:=SO d 0 j ah3;have e:LZ d=false:=by simpa using k
 refine⟨ah3,λr hr=>⟨(f r hr).1,λa g=>⟨(f r hr).2 a g,?_⟩⟩⟩;have i:=agI.1 e r hr;have b:Jj r=false:=by simpa using i
 unfold Jj at b;have l:=agI.1 b a g;simpa using l
theorem MI{d:List Rdn}{cap:Option Nat}(i:d.length<=1100000)(hr:∀r∈d,r.length<=1100000)(h:K (U3 (Sq d)) L):
  aeW 61 [.sl (d.map aH) d.length cap] L K:=by
 unfold Sq U3 at h;refine aeV SU ?_;refine yX i hr ?_;unfold U3;obtain⟨⟨ps,j⟩,f⟩:∃p,prS d=p:=⟨_,rfl⟩;rw[f]at h⊢;simp only at h⊢;by_cases g:j=0;subst g;obtain⟨l,c⟩:=Sj (by rw[f]);rw[if_neg ah4]at h;have b:∀r∈d,(cM true r).length<=200000:=λr hr=>Kf (c r hr).1 (λa e=>((c r hr).2 a e).1) (λa e=>((c r hr).2 a e).2)
 have k:=J8 ah3 b;replace h:=hid h;replace c:=hid c;replace b:=hid b;clear f hr;refine aib ?_;refine Wk ah3 (λr hr=>⟨by have:=(c.o r hr).1;omega,λa e=>⟨by have:=((c.o r hr).2 a e).1;omega,by have:=((c.o r hr).2 a e).2;omega⟩⟩) (λr hr=>by have:=b.o r hr;omega) ah3 ?_;refine aib ?_;exact ag h.o;rw[if_pos g]at h;replace h:=hid h;clear f hr;refine aib ?_;exact ag h.o
theorem Sm:∀(f:Nat) (a:List Rdn) (b:Rdn) (s:List UInt8),a.length<=32->b.length<=8->(∀r∈a,r.length<=8)->(OQ f a b s).1.length<=33/\∀r∈(OQ f a b s).1,r.length<=8
 |0,_,_,_,_,_,_=>by simp[OQ]
 | f+1,a,b,s,h1,h2,h3=>by
   rw[OQ];split
   .simp
   rename_i e;have d:∀t v:List UInt8,(b++[(t,v)]).length<=8:=λt v=>by simp;omega
   have c:∀t v:List UInt8,∀r∈a++[b++[(t,v)]],r.length<=8:=λt v r hr=>by
    rcases ae2.1 hr with h|h
    .exact h3 r h
    .rw[afl.1 h];exact d t v
   split
   .simp
   split
   .simp
   split
   .simp
   split
   .simp
   split
   .simp
   split
   .exact⟨by simp;omega,c _ _⟩
   split
   .exact Sm f _ _ _ (by simp;omega) ah4 (c _ _)
   .exact Sm f _ _ _ h1 (d _ _) h3
theorem Wz(s:List UInt8):(lh s).1.length<=33/\∀r∈(lh s).1,r.length<=8:=by unfold lh;split;simp;split;simp;exact Sm _ _ _ _ ah4 ah4 ah4
theorem qR(b:List UInt8)(c:UInt8):eJ (b++[c])=if c=32 then b else b++[c]:=by simp[eJ]
def Hf(a:Ava):Ava:=(aE a.1,bE a.2)
abbrev JD(a:Ava):List UInt8:=avT false a
def PO(l:Rdn)(x:Ava):Nat->Nat
 |0=>0
 |n+1=>if JD x<JD (l.getD n ([],[]))then PO l x n else n+1
def Qc(l:Rdn)(x:Ava):Rdn:=l.take (PO l x l.length)++[x]++l.drop (PO l x l.length)
def sI(r:Rdn):Rdn:=r.foldl (λl a=>Qc l (Hf a)) []
def yY(d:List Rdn):List Rdn:=d.map sI
theorem Wu(l:Rdn)(x:Ava):∀n,PO l x n<=n
 |0=>ae0 _
 |n+1=>by have:=Wu l x n;unfold PO;split<;>omega
theorem ZM(l:Rdn)(x:Ava):(Qc l x).length=l.length+1:=by simp[Qc];omega
theorem Qi(r:Rdn):∀l:Rdn,(r.foldl (λl a=>Qc l (Hf a)) l).length=l.length+r.length:=by
 induction r with
 |nil=>simp
 |cons a r ih=>intro l;rw[afO,ih,ZM];simp;omega
theorem PR(r:Rdn):(sI r).length=r.length:=by simp[sI,Qi]
theorem Wv(l:Rdn)(x:Ava):∀(n j:Nat),PO l x n<=j->j<n->JD x<JD (l.getD j ([],[]))
 |0,_,_,h=>ah3
 | n+1,j,h1,h2=>by
   unfold PO at h1;split at h1
   .rename_i hk;rcases aft j n with e|e
    .exact Wv l x n j h1 e
    grind
   omega
theorem Ww(l:Rdn)(x:Ava):∀n,PO l x n=0\/¬JD x<JD (l.getD (PO l x n-1) ([],[]))
 |0=>.inl rfl
 | n+1=>by
   unfold PO;split
   .exact Ww l x n
   simp_all
def R6(l:Rdn):Prop:=l.Pairwise λa b=>JD a<=JD b
theorem Vw{l:Rdn}{x:Ava}(s:R6 l):R6 (Qc l x):=by
 have g:=Wv l x l.length;have d:=Ww l x l.length;have n:=Wu l x l.length;unfold Qc;obtain⟨p,u⟩:=aeS (PO l x l.length);rw[u]at g d n⊢;have m:R6 (l.take p++l.drop p):=by rw[ago];exact s
 obtain⟨v,t,w⟩:=ahM.1 m;have k:∀a∈l.take p,JD a<=JD x:=λa k=>by
  rcases d with e|e;simp_all;have h:p-1<l.length:=by grind
  refine List.le_trans ?_ (List.not_lt.1 e);obtain⟨i,r,rfl⟩:=agZ.1 k;rw[List.getElem_take];have o:l.getD (p-1) ([],[])=l[p-1]:=(by simp[h]);rw[o];rcases aft i (p-1)with q|q;exact(List.pairwise_iff_getElem.1 s) i (p-1) ah3 h q
  grind
 have j:∀b∈l.drop p,JD x<=JD b:=λb j=>by obtain⟨i,r,rfl⟩:=agZ.1 j;simp only[agb]at r;rw[List.getElem_drop];have:=g (p+i) ah3 ah3;have o:l.getD (p+i) ([],[])=l[p+i]:=(by simp[show p+i<l.length by omega]);rw[o]at this;exact List.le_of_lt this
 unfold R6;rw[afa,ahM];refine⟨v,?_,?_⟩;simp only[ahg,List.pairwise_cons];exact⟨j,t⟩;intro a f b c;simp only[ahg,afp]at c;rcases c with rfl|c;exact k a f;exact w a f b c
theorem ZL(l:Rdn)(x:Ava):(Qc l x).Perm (x::l):=by unfold Qc;rw[afa];refine(List.perm_middle (l₁:=l.take _) (l₂:=l.drop _)).trans ?_;simp
theorem Qj:∀(r l:Rdn),R6 l->R6 (r.foldl (λl a=>Qc l (Hf a)) l)/\(r.foldl (λl a=>Qc l (Hf a)) l).Perm (l++r.map Hf)
 |[],l,h=>by simpa using h
 | a::r,l,h=>by
   obtain⟨b,c⟩:=Qj r (Qc l (Hf a)) (Vw h);refine⟨b,c.trans ?_⟩;refine((ZL l (Hf a)).append_right _).trans ?_
   grind
theorem acn(a:Ava):avT true a=JD (Hf a):=by simp[avT,Hf]
theorem Ve(r:Rdn):(sI r).map JD=ee (r.map (avT true)):=by
 obtain⟨e,d⟩:=Qj r [] List.Pairwise.nil;refine ahN (le:=λx y=>x<=y) (λa b _ _=>List.le_antisymm) ?_ ?_ ?_;rw[List.pairwise_map];exact e;have:=ag5 (le:=λx y:List UInt8=>decide (x<=y)) (λa b c e d=>by
  simp only[decide_eq_true_eq]at *;exact List.le_trans e d) (λa b=>by
  simp only[afM,decide_eq_true_eq];exact List.le_total a b) (r.map (avT true))
 exact this.imp λh=>by simpa using h
 refine(d.map JD).trans ?_;refine List.Perm.trans ?_ (aga _ _).symm;rw[afH,afj];rfl
theorem XD(r:Rdn):cM false (sI r)=cM true r:=by have:=Ve r;simp only[cM,afm,if_false,if_true];simp[*]
theorem PP(d:List Rdn):aP false (yY d)=aP true d:=by unfold aP yY;rw[afj];rw[show(cM false∘sI)=cM true from funext XD]
theorem Wf(v:List UInt8)(rest:List UInt8)(hr:rest=[]\/∃c t,rest=c::t/\(c=44\/c=43)):∀(s b:List UInt8) (bl:Bool),b++s=v->(s=[]->bl=false)->kG b bl (wrL v.length b.length s++rest)=some (v,rest,true)
 | [],b,bl,e,h=>by
   rw[afq]at e;subst e;rw[h rfl];rcases hr with rfl|⟨c,t,rfl,d⟩
   .rfl
   .exact Mz d
 | c::s,b,bl,e,h=>by
   have j:=λa (k:s=[]->a=false)=>Wf v rest hr s (b++[c]) a (by rw[<- e];simp) k
   have i:(b++[c]).length=b.length+1:=ah4;rw[i]at j;rw[wrL,afa];unfold wrB;split
   .rename_i d;subst d;exact j false (λ_=>rfl)
   .rename_i d;split
    .rename_i g;show kG b bl (92::c::(wrL v.length (b.length+1) s++rest))=_;rw[MA]
     .simp_all
     .rcases g with⟨_,rfl|rfl⟩|⟨_,rfl⟩|g
      .simp
      .simp
      .simp
      grind
    .rename_i g;show kG b bl (c::(wrL v.length (b.length+1) s++rest))=_;have f:¬c∈([34,43,44,59,60,62,92]:List UInt8):=λq=>g (.inr (.inr q))
     simp only[afp,af6,or_false,not_or]at f;rw[Jo (λq=>q.elim (λq=>f.2.2.1 q) (λq=>f.2.1 q)) (λq=>f.2.2.2.2.2.2 q)]
     grind
theorem Jn(v:List UInt8){rest:List UInt8}(hr:rest=[]\/∃c t,rest=c::t/\(c=44\/c=43)):kG [] false (kN v++rest)=some (v,rest,true):=
 Wf v rest hr v [] false rfl (λ_=>rfl)
theorem Uq:∀(t r:List UInt8),(∀c∈t,c≠61)->JI (t++61::r)=some (t,r)
 |[],r,_=>by simp[JI]
 |c::t,r,h=>by rw[afI,JI,if_neg (h c ah4),Uq t r (λx a=>h x (by simp[a]))]
theorem YQ{t:List UInt8}(h:wu t=true):∀c∈t,c≠61:=by intro c a e;simp only[wu,ae7,afd]at h;have:=h.2 c a;rw[e]at this;exact absurd this (by decide)
theorem P8(x sep:List UInt8)(xs:List (List UInt8)):Lib.join (x::xs) sep=x++xs.flatMap (λy=>sep++y):=by
 induction xs generalizing x with
 |nil=>simp[Lib.join,List.intercalate]
 | cons y l ih =>
   have e:Lib.join (x::y::l) sep=x++(sep++Lib.join (y::l) sep):=(by simp[Lib.join,List.intercalate]);simp[*]
def mL(t:Rdn):List UInt8:=t.flatMap λa=>43::avT false a
def mw(d:List Rdn):List UInt8:=d.flatMap λr=>44::cM false r
theorem Rv(a:Ava)(t:Rdn):cM false (a::t)=avT false a++mL t:=by simp only[cM,afm,if_false,afe,P8,mL];simp[List.flatMap_map]
theorem Xf(r:Rdn)(d:List Rdn):aP false (r::d)=cM false r++mw d:=by simp only[aP,afe,P8,mw];simp[List.flatMap_map]
theorem PT:∀(f:Nat) (b:List Rdn) (c:Rdn) (a:Ava) (t:Rdn) (d:List Rdn),(avT false a++(mL t++mw d)).length<f->b.length<32->eH c (a::t)=0->oo (b.length+1) d=0 ->
  OQ f b c (avT false a++(mL t++mw d))=(b++[c++a::t]++d,0)
 |0,_,_,_,_,_,h,_,_,_=>ah3
 | f+1,b,c,(ty,v),t,d,hf,ho,hc,hd=>by
   unfold eH at hc;split at hc
   .omega
   rename_i m;split at hc
   .omega
   rename_i e;split at hc
   .omega
   rename_i i;simp only[Bool.not_eq_false]at e;have n:avT false (ty,v)++(mL t++mw d)=ty++61::(kN v++(mL t++mw d)):=(by simp[avT]);rw[n]at hf⊢;rw[OQ,if_neg ah3,Uq _ _ (YQ e)];simp only;rw[if_neg (by simp[e]),if_neg i];rcases t with _|⟨g,t⟩
   .rcases d with _|⟨r,d⟩
    .rw[show mL []++mw []=([]:List UInt8)from rfl];rw[Jn v (.inl rfl)];simp
    .rw[show mL []++mw (r::d)=44::(cM false r++mw d)by simp[mL,mw]]at hf⊢;rw[Jn v (.inr ⟨44,_,rfl,.inl rfl⟩)];unfold oo at hd;split at hd
     .omega
     rename_i j;split at hd
     .omega
     rename_i l;split at hd
     .omega
     rename_i o;rcases r with _|⟨g,t⟩
     .simp_all
     have k:=PT f (b++[c++[(ty,v)]]) [] g t d;rw[Rv,afa]at hf⊢
     grind
   .rw[show mL (g::t)++mw d=43::(avT false g++(mL t++mw d))by simp[mL]]at hf⊢;rw[Jn v (.inr ⟨43,_,rfl,.inr rfl⟩)];have k:=PT f b (c++[(ty,v)]) g t d
    grind
theorem TH{d:List Rdn}(h:oo 0 d=0)(e:(aP false d).length<=4096):lh (aP false d)=(d,0):=by unfold lh;rw[if_neg ah3];rcases d with _|⟨r,d⟩;rfl;unfold oo at h;split at h;omega;split at h;omega;rename_i c;split at h;omega;rename_i b;simp only[ne_eq,ag6]at b;rcases r with _|⟨a,t⟩;simp_all;rw[Xf,Rv,afa];rw[if_neg (by simp[avT])];have:=PT ((avT false a++(mL t++mw d)).length+1) [] [] a t d ah3 ah4 b h;simp_all
end Go.Proofs.YtajkbcmleihaoaaGreatDoor.Av
