/- Joined texts of the walk, made small by a program. -/
import Derived.Test.YtajkbcmleihaoaaGreatDoorWk4
import Derived.Test.YtajkbcmleihaoaaGreatDoorRows
import Derived.KernelRfl
import Derived.Test.YtajkbcmleihaoaaGreatDoorWk7
import Derived.Laws.RangeAny
import Derived.Laws.RangeString
import Derived.Test.YtajkbcmleihaoaaGreatDoorWk5
import Derived.Shelf.Strings.Builder1
import Derived.Shelf.Strings.Builder2
import Derived.Shelf.Strings.OnBuilder
import Derived.Shelf.Small.Utf8
import Derived.Shelf.Small.Bits
import Derived.Shelf.Small.Strs
import Derived.Shelf.Strconv.Itoa0
import Derived.Shelf.Strings.Search1
import Derived.Shelf.Strings.Search2
import Derived.Shelf.Strings.Cut
import Derived.Shelf.LaysM
import Derived.Shelf.Strings.Shaped
import Derived.Shelf.Sort.Plain
import Derived.Shelf.Strings.Prefix
import Derived.Shelf.Strings.Runes
import Derived.Shelf.Strings.AsciiSet
import Derived.Shelf.Bits.Mul64
import Derived.Shelf.Unicode.DecodeSlow
import Derived.Shelf.Unicode.DecodeAny
import Derived.Shelf.Unicode.DecodeLast
import Derived.Shelf.Slices.Equal
import Derived.Shelf.Slices.In.SortNone
import Derived.Ground.SlsfProg
import Derived.Shelf.SlSortCmp.Insertion
import Derived.Shelf.SlSortCmp.SiftDown1
import Derived.Shelf.SlSortCmp.HeapSort1
import Derived.Shelf.SlSortCmp.Insertion1
import Derived.Shelf.SlSortCmp.Median1
import Derived.Shelf.SlSortCmp.Pivot1
import Derived.Shelf.SlSortCmp.ReverseRange1
import Derived.Shelf.SlSortCmp.PartialInsertion1
import Derived.Shelf.SlSortCmp.PartitionEqual1
import Derived.Shelf.SlSortCmp.Partition1
import Derived.Shelf.SlSortCmp.Pdq1
import Derived.Shelf.SlSortCmp.Whole1
import Derived.Test.YtajkbcmleihaoaaGreatDoorProg
import Derived.Sort.Walk0
set_option linter.unusedSimpArgs false
set_option linter.unusedVariables false
set_option maxRecDepth 100000
namespace Go.Proofs.YtajkbcmleihaoaaGreatDoor.Av
open Go
variable {s typ b:List UInt8}{ip:Nat}{cap:Option Nat}{bl:Bool}{d:UInt8}
def Nw:LSO:=[Al 2]
def Nv:LSO:=[Aa 5 0,BE 6 5,Aa 7 6,.grp none 7 false
 [Ah 8 7 0,By 9 7 8,AD 10 7 9 32]
 11 (tm 10),Aa 12 11,.grp none 12 false
 [Ah 13 12 0,B6 14 12 13 0,og 15 12 false (.conv .i32 (tm 14)),Bw 16 12 143 15,Bo 17 12 16]
 18 (tm 17)]
def Nu:LSO:=[Al 2]
def Nt:LSO:=[Aa 19 0,o1 20 (.rangeS (tm 19))]
def Nr:LSO:=[o1 21 (.nextS (tm 20)),Am 22 21]
def Nq:LSO:=[AO 23 21,Aa 4 23]
def Np:LSO:=[Aa 24 4,Ag 25 143 24,A6 26 25,Aa 27 26,.grp none 27 true
 [Ao 28 27 4,og 29 27 true (.bin .lss (tm 28) (.av (.int .i32 48))),Ao 30 27 29,.grp (some (27,true)) 30 false
 [Ah 31 30 4,og 32 30 false (.bin .gtr (tm 31) (.av (.int .i32 57)))]
 33 (tm 32)]
 34 (tm 33),Aa 35 34,.grp none 35 true
 [Ao 36 35 4,og 37 35 true (.bin .neq (tm 36) (.av (.int .i32 45)))]
 38 (tm 37)]
def No:LSO:=[Al 2]
def Nn:LSO:=[AA 2]
def MD:aI:=⟨39,(ag6 Nw [] (.seq (ag6 Nv Ch (ag8 18 (.sreg Nu []))) (.seq (ag6 Nt Cc (ag9 0 (ag6 Nr [] (.seq (aha 22 0) (.block 1 (ag6 Nq Cc (ag6 Np Cg (ag8 38 (.sreg No []))))))))) (ag6 Nn [] .ret)))),[(.tmp 2)]⟩
attribute [push_cast] Nw Nv Nu Nt Nr Nq Np No Nn
theorem Si:ahb 101=ahc MD:=ahf
def It:LSO:=[Al 2]
def Is:LSO:=[Aa 3 0,o1 4 (.bin .geq (tm 3) (.av (.int .i32 97))),Aa 5 4,.grp none 5 true
 [Ao 6 5 0,og 7 5 true (.bin .leq (tm 6) (.av (.int .i32 122)))]
 8 (tm 7),Aa 9 8,.grp none 9 false
 [Ah 10 9 0,og 11 9 false (.bin .geq (tm 10) (.av (.int .i32 65))),Ah 12 9 11,.grp (some (9,false)) 12 true
 [Ao 13 12 0,og 14 12 true (.bin .leq (tm 13) (.av (.int .i32 90)))]
 15 (tm 14)]
 16 (tm 15),Aa 2 16]
def Gt:aI:=⟨17,(ag6 It [] (ag6 Is Cg .ret)),[(.tmp 2)]⟩
attribute [push_cast] It Is
theorem Qj:ahb 143=ahc Gt:=ahf
def Ph:LSO:=[A1 3 1,Al 4]
def Pg:LSO:=[Aa 5 0,o1 6 (.mkfn 145 [(tm 3)]),Ax 7 144 5 6,Aa 4 7]
def Qk:aI:=⟨8,(ag6 Ph [] (ag6 Pg Ce .ret)),[(.tmp 4)]⟩
attribute [push_cast] Ph Pg
theorem T5:ahb 102=ahc Qk:=ahf
def KF:LSO:=[A1 2 0,Al 3]
def KE:LSO:=[Ad 4 0 2,Ac 5 1 4,Ag 6 103 5,Ac 7 1 1,Ag 8 103 7,Bb 9 6 8,Aa 3 9]
def Jw:aI:=⟨10,(ag6 KF [] (.seq (.sdreg KE [.pure,(.read 0 0),(.read 0 0),(.read 0 0)] Cg) .ret)),[(.tmp 3)]⟩
attribute [push_cast] KF KE
theorem QN:ahb 145=ahc Jw:=ahf
def Kv:LSO:=[As 2,As 3,Al 4]
def Ku:LSO:=[Aq 5]
def Kt:LSO:=[Al 6]
def Ks:LSO:=[Ab 7 0]
def Kr:LSO:=[Aa 11 7,Aa 12 0,A5 13 12,Ap 14 11 13,Aa 15 14,.grp none 15 true
 [Ao 16 15 0,Ao 17 15 7,og 18 15 true (.idxS (tm 16) (tm 17)),og 19 15 true (.bin .neq (tm 18) (.av (.int .u8 44)))]
 20 (tm 19),Aa 21 20,.grp none 21 true
 [Ao 22 21 0,Ao 23 21 7,og 24 21 true (.idxS (tm 22) (tm 23)),og 25 21 true (.bin .neq (tm 24) (.av (.int .u8 43)))]
 26 (tm 25)]
def Kq:LSO:=[Aa 27 0,Aa 28 7,BD 29 27 28,Aa 8 29]
def Kp:LSO:=[Aa 30 8,o1 31 (.bin .eql (tm 30) (.av (.int .u8 32))),Aa 6 31]
def Ko:LSO:=[Aa 33 8,o1 34 (.bin .neq (tm 33) (.av (.int .u8 92))),Aa 32 34]
def Kn:LSO:=[Aa 35 8,BV 36 35,Aa 37 36,.grp none 37 false
 [Ah 38 37 8,og 39 37 false (.call 146 [(.av (.str [34,59,60,62])),(tm 38)]),BR 40 37 39 0]
 41 (tm 40),Aa 42 41,.grp none 42 false
 [Ah 43 42 5,AI 44 42 43,AY 45 42 44 0,Ah 46 42 45,.grp (some (42,false)) 46 true
 [Ao 47 46 8,BC 48 46 47,Ao 49 46 48,.grp (some (46,true)) 49 false
 [Ah 50 49 8,og 51 49 false (.bin .eql (tm 50) (.av (.int .u8 35)))]
 52 (tm 51)]
 53 (tm 52)]
 54 (tm 53)]
def Km:LSO:=[As 2,As 3,Al 4]
def Ip:LSO:=[Aa 56 7,Aj 57 56 1,Aa 58 0,A5 59 58,Ap 60 57 59,Aa 61 60,.grp none 61 true
 [Ao 62 61 0,Ao 63 61 7,og 64 61 true (.bin .add (tm 63) (iv 1)),og 65 61 true (.idxS (tm 62) (tm 64)),
 og 66 61 true (.call 146 [(.av (.str [34,43,44,59,60,62,92,32,35,61])),(tm 65)]),og 67 61 true (.bin .geq (tm 66) (iv 0))]
 68 (tm 67),Aa 55 68]
def Io:LSO:=[Aa 69 7,Aj 70 69 1,Aa 7 70]
def Im:LSO:=[Aa 71 0,Aa 72 7,BD 73 71 72,Aa 8 73]
def Il:LSO:=[Aa 75 7,Aj 76 75 2,Aa 77 0,A5 78 77,Ap 79 76 78,Aa 74 79]
def Ik:LSO:=[Aa 81 0,Aa 82 7,Aj 83 82 1,Aa 84 7,Aj 85 84 3,o1 86 (.slS (tm 81) (some (tm 83)) (some (tm 85))),Ag 87 183 86,Aa 80 87,Am 88 80,An 89 80,Aa 9 88,Aa 10 89]
def Ij:LSO:=[Aa 90 10,A6 91 90]
def Ii:LSO:=[As 2,As 3,Al 4]
def Ih:LSO:=[Aa 92 9,Bc 93 92 0,Aa 8 93]
def Ig:LSO:=[Aa 94 7,Aj 95 94 2,Aa 7 95]
def If:LSO:=[As 2,As 3,Al 4]
def Ie:LSO:=[Aa 96 5,Aa 97 8,BB 98 97,Bn 99 96 98,Aa 5 99]
def Ic:LSO:=[Aa 100 7,Aj 101 100 1,Aa 7 101]
def Ib:LSO:=[Aa 102 5,Bh 103 102,Aa 104 0,Aa 105 7,B9 106 104 105,Aa 107 6,A6 108 107,Aa 2 103,Aa 3 106,Aa 4 108]
def Jv:aI:=⟨109,(ag6 Kv [] (ag6 Ku [] (ag6 Kt [] (ag6 Ks [] (.seq (ag9 0 (.seq (ag6 Kr Cj (aha 26 0)) (.block 1 (ag6 Kq Ce (ag6 Kp Cd (.seq (.block 2 (ag6 Ko Cd (ag7 32 (ag6 Kn Ch (ag8 54 (.sreg Km []))) (ag6 Ip Cj (ag7 55 (ag6 Io Cd (.sreg Im Ce)) (ag6 Il Ch (ag7 74 (ag6 Ik CA (.seq (ag6 Ij Cc (ag8 91 (.sreg Ii []))) (ag6 Ih Cd (.sreg Ig Cd)))) (ag6 If [] .ret)))))))) (ag6 Ie Cf (.sreg Ic Cd)))))))) (.seq (.sdreg Ib [.pure,(.read 0 0),.pure,.pure,(.read 0 0),.pure,.pure,.pure,.pure] [true,true,true,false,false,false,false,false,false,false]) .ret)))))),[(.tmp 2),(.tmp 3),(.tmp 4)]⟩
attribute [push_cast] Kv Ku Kt Ks Kr Kq Kp Ko Kn Km Ip Io Im Il Ik Ij Ii Ih Ig If Ie Ic Ib
theorem QM:ahb 154=ahc Jv:=ahf
def Lg:LSO:=[Aq 2,Ab 3 0]
def Lf:LSO:=[Aa 10 0,A5 11 10,A8 12 11 4096]
def Le:LSO:=[Aq 2,Ab 3 5]
def Ld:LSO:=[Aa 13 0,BE 14 13]
def Lc:LSO:=[Aq 2,Ab 3 0]
def Lb:LSO:=[Aq 4]
def La:LSO:=[Aq 5]
def K9:LSO:=[Aa 15 4,Af 16 15,A0 17 16 32,Aa 18 17,.grp none 18 false
 [Ah 19 18 5,AI 20 18 19,AY 21 18 20 8]
 22 (tm 21)]
def K8:LSO:=[Aq 2,Ab 3 9]
def K7:LSO:=[Aa 24 0,o1 25 (.call 153 [(tm 24),(.av (.str [61]))]),Aa 23 25,Am 26 23,An 27 23,AO 28 23,Aa 6 26,Aa 7 27,Aa 8 28]
def I1:LSO:=[Aa 29 8,A6 30 29,Aa 31 30,.grp none 31 false
 [Ah 32 31 6,Bw 33 31 101 32,Bo 34 31 33]
 35 (tm 34)]
def I0:LSO:=[Aq 2,Ab 3 4]
def IZ:LSO:=[Aa 36 5,Aa 37 6,Ax 38 102 36 37]
def IY:LSO:=[Aq 2,Ab 3 21]
def IX:LSO:=[Aa 40 7,Ag 41 154 40,Aa 39 41,Am 42 39,An 43 39,AO 44 39,Aa 9 42,Aa 7 43,Aa 8 44]
def IW:LSO:=[Aa 45 8,A6 46 45]
def IV:LSO:=[Aq 2,Ab 3 4]
def IU:LSO:=[Aa 47 5,Aa 48 6,Aa 49 9,o1 50 (.build [(.str []),(.str [])] [(0,(1,(tm 48))),(1,(1,(tm 49)))]),
 o1 51 (.bslice false 2 1 [(.str []),(.str [])] [(0,(2,(tm 50)))]),o1 52 (.app 1 2 32 [(.str []),(.str [])] (tm 47) (tm 51)),Aa 5 52]
def IT:LSO:=[Aa 53 7,BE 54 53]
def IS:LSO:=[Aa 55 4,Aa 56 5,Bi 57 56,B3 58 55 57,Aa 2 58,Ab 3 0]
def IR:LSO:=[Aa 59 7,Bc 60 59 0,o1 61 (.bin .eql (tm 60) (.av (.int .u8 44)))]
def IQ:LSO:=[Aa 62 4,Aa 63 5,Bi 64 63,B3 65 62 64,Aa 4 65,Aq 5]
def IP:LSO:=[Aa 66 7,BM 67 66 1,Aa 0 67]
def Jz:aI:=⟨68,(ag6 Lg [] (.seq (ag6 Lf Cd (ag8 12 (.sreg Le []))) (.seq (ag6 Ld Cc (ag8 14 (.sreg Lc []))) (ag6 Lb [] (ag6 La [] (ag9 0 (.block 1 (.seq (ag6 K9 Cf (ag8 22 (.sreg K8 []))) (ag6 K7 Cr (.seq (ag6 I1 Ce (ag8 35 (.sreg I0 []))) (.seq (ag6 IZ Cd (ag8 38 (.sreg IY []))) (ag6 IX Cr (.seq (ag6 IW Cc (ag8 46 (.sreg IV []))) (ag6 IU Cg (.seq (ag6 IT Cc (ag8 54 (.sreg IS Cx))) (.seq (ag6 IR Cd (ag7 61 (.sreg IQ Cx) .skip)) (.sreg IP Cd))))))))))))))))),[(.tmp 2),(.tmp 3)]⟩
attribute [push_cast] Lg Lf Le Ld Lc Lb La K9 K8 K7 I1 I0 IZ IY IX IW IV IU IT IS IR IQ IP
theorem QQ:ahb 118=ahc Jz:=ahf
def Ga:LSO:=[As 2]
def F9:LSO:=[Aq 3]
def F8:LSO:=[Aa 7 0,o1 8 (.s2b (tm 7)),Af 9 8,Ab 10 0]
def F7:LSO:=[Ap 11 10 9]
def F6:LSO:=[Aa 12 10,Ak 13 1 8 10,Ac 14 1 13,Aa 4 12,Aa 5 14]
def F5:LSO:=[Aa 15 4,A0 16 15 0,Aa 17 16,.grp none 17 true
 [Ao 18 17 5,BC 19 17 18,Ao 20 17 19,.grp (some (17,true)) 20 false
 [Ah 21 20 5,og 22 20 false (.bin .eql (tm 21) (.av (.int .u8 35)))]
 23 (tm 22)]
 24 (tm 23),Aa 25 24,.grp none 25 false
 [Ah 26 25 4,Ah 27 25 0,By 28 25 27,og 29 25 false (.bin .sub (tm 28) (iv 1)),og 30 25 false (.bin .eql (tm 26) (tm 29)),Ah 31 25 30,.grp (some (25,false)) 31 true
 [Ao 32 31 5,BC 33 31 32]
 34 (tm 33)]
 35 (tm 34),Aa 6 35]
def F4:LSO:=[Aa 37 5,BV 38 37,Aa 36 38]
def F3:LSO:=[Aa 39 3,o1 40 (.app 1 1 1 [(.int .u8 0)] (tm 39) (.av (.str [92,48,48]))),Aa 3 40]
def F2:LSO:=[Aa 42 6,Aa 43 42,.grp none 43 false
 [Ah 44 43 5,og 45 43 false (.call 146 [(.av (.str [34,43,44,59,60,62,92])),(tm 44)]),BR 46 43 45 0]
 47 (tm 46),Aa 41 47]
def F1:LSO:=[Aa 48 3,o1 49 (.bslice false 1 1 [(.int .u8 0)] [(0,(1,(.av (.int .u8 92))))]),Bn 50 48 49,Aa 3 50]
def DL:LSO:=[Aa 51 3,Aa 52 5,BB 53 52,Bn 54 51 53,Aa 3 54]
def DK:LSO:=[Aj 55 10 1,Aa 10 55]
def DJ:LSO:=[Aa 56 3,Bh 57 56,Aa 2 57]
def zb:aI:=⟨58,(ag6 Ga [] (ag6 F9 [] (.seq (ag6 F8 Co (ag9 0 (ag6 F7 [] (.seq (aha 11 0) (.seq (.block 1 (ag6 F6 Cm (ag6 F5 Cg (.seq (.block 2 (ag6 F4 Cd (ag7 36 (ag6 F3 Cd (.exit 1)) (ag6 F2 Ce (ag7 41 (.sreg F1 Ce) .skip))))) (.sreg DL Cf))))) (.sreg DK Cc)))))) (ag6 DJ Cd .ret)))),[(.tmp 2)]⟩
attribute [push_cast] Ga F9 F8 F7 F6 F5 F4 F3 F2 F1 DL DK DJ
theorem OD:ahb 105=ahc zb:=ahf
def KP:LSO:=[Ab 2 0]
def KO:LSO:=[Aa 7 0,Af 8 7,Ab 9 0]
def KN:LSO:=[Ap 10 9 8]
def KM:LSO:=[Aa 11 9,Ak 12 1 7 9,Ac 13 1 12,Aa 3 11,Aa 4 13]
def KL:LSO:=[Aa 15 3,A0 16 15 32,Aa 14 16]
def KK:LSO:=[Ab 2 9]
def KJ:LSO:=[Aa 18 4,Af 19 18,A0 20 19 0,Aa 17 20]
def KI:LSO:=[Ab 2 2]
def KH:LSO:=[Aa 21 4,Af 22 21,Ab 23 0]
def KG:LSO:=[Ap 24 23 22]
def ID:LSO:=[Aa 25 23,Ak 26 2 21 23,Ay 27 2 26,BK 6,Aa 5 25,Ai 2 6 27]
def IC:LSO:=[Aa 29 5,A0 30 29 8,Aa 28 30]
def IB:LSO:=[Ab 2 9]
def IA:LSO:=[Ad 32 0 6,Ac 33 1 32,Ag 34 101 33,A6 35 34,Aa 31 35]
def Iz:LSO:=[Ab 2 20]
def Iy:LSO:=[Aa 37 4,Aa 38 5,o1 39 (.slV 2 (tm 37) none (some (tm 38)) none),Ad 40 0 6,Ac 41 1 40,Ax 42 102 39 41,Aa 36 42]
def Ix:LSO:=[Ab 2 21]
def Iw:LSO:=[Aj 43 23 1,Aa 23 43]
def Iv:LSO:=[Aj 44 9 1,Aa 9 44]
def Iu:LSO:=[Ab 2 0]
def Jx:aI:=⟨45,(ag6 KP [] (.seq (ag6 KO [] (ag9 0 (ag6 KN [] (.seq (aha 10 0) (.seq (.block 1 (ag6 KM Cm (.seq (.block 2 (ag6 KL Cd (ag7 14 (ag6 KK [] .ret) (ag6 KJ Ce (ag8 17 (.sreg KI [])))))) (ag6 KH [] (ag9 3 (ag6 KG [] (.seq (aha 24 3) (.seq (.block 4 (ag6 ID Cm (.block 5 (ag6 IC Cd (ag7 28 (ag6 IB [] .ret) (ag6 IA Cf (ag7 31 (ag6 Iz [] .ret) (.seq (.sdreg Iy [.pure,.pure,(.read 0 0),.pure,(.read 0 0)] Cg) (ag8 36 (.sreg Ix [])))))))))) (.sreg Iw Cc))))))))) (.sreg Iv Cc)))))) (ag6 Iu [] .ret))),[(.tmp 2)]⟩
attribute [push_cast] KP KO KN KM KL KK KJ KI KH KG ID IC IB IA Iz Iy Ix Iw Iv Iu
theorem QO:ahb 75=ahc Jx:=ahf
def K6:LSO:=[As 2,Ab 3 0]
def K5:LSO:=[Aa 11 0,Ag 12 75 11,Aa 4 12]
def K4:LSO:=[Aa 13 4,Az 14 13 0]
def K3:LSO:=[Aa 15 4,As 2,Aa 3 15]
def K1:LSO:=[Ab 5 0]
def K0:LSO:=[Aa 16 0,Af 17 16,Ab 18 0]
def KZ:LSO:=[Ap 19 18 17]
def KY:LSO:=[Ak 20 1 16 18,Ac 21 1 20,Aa 7 21]
def KX:LSO:=[Aa 22 7,Af 23 22,Ab 24 0]
def KW:LSO:=[Ap 25 24 23]
def IN:LSO:=[Ak 26 2 22 24,Ay 27 2 26,BK 9,Ai 2 9 27]
def IM:LSO:=[Ad 28 1 9,Ac 29 1 28,A5 30 29,A8 31 30 4096]
def IL:LSO:=[As 2,Ab 3 5]
def IK:LSO:=[Aa 32 5,Aj 33 32 1,Aa 5 33]
def IJ:LSO:=[Aj 34 24 1,Aa 24 34]
def II:LSO:=[Aj 35 18 1,Aa 18 35]
def IH:LSO:=[Aa 36 0,o1 37 (.call 76 [(tm 36),(.av (.bool false))]),Aa 10 37]
def IG:LSO:=[Aa 38 10,A5 39 38,A8 40 39 4096]
def IF:LSO:=[As 2,Ab 3 5]
def IE:LSO:=[Aa 41 10,Aa 2 41,Ab 3 0]
def Jy:aI:=⟨42,(ag6 K6 [] (.seq (ag6 K5 Cd (ag6 K4 Cc (ag8 14 (.sreg K3 Ci)))) (ag6 K1 [] (.seq (ag6 K0 [] (ag9 0 (ag6 KZ [] (.seq (aha 19 0) (.seq (.block 1 (ag6 KY Cd (ag6 KX [] (ag9 2 (ag6 KW [] (.seq (aha 25 2) (.seq (.block 3 (ag6 IN Cd (.seq (ag6 IM Ce (ag8 31 (.sreg IL []))) (.sreg IK Cd)))) (.sreg IJ Cc)))))))) (.sreg II Cc)))))) (ag6 IH Cd (.seq (ag6 IG Cd (ag8 40 (.sreg IF []))) (ag6 IE Ci .ret))))))),[(.tmp 2),(.tmp 3)]⟩
attribute [push_cast] K6 K5 K4 K3 K1 K0 KZ KY KX KW IN IM IL IK IJ II IH IG IF IE
theorem QP:ahb 35=ahc Jy:=ahf
def NC:LSO:=[As 2,Ab 3 0]
def NB:LSO:=[Aa 7 0,Ag 8 35 7,Aa 6 8,Am 9 6,An 10 6,Aa 4 9,Aa 5 10]
def NA:LSO:=[Aa 11 5,Az 12 11 0]
def Nz:LSO:=[Aa 13 5,As 2,Aa 3 13]
def Ny:LSO:=[Aa 14 0,o1 15 (.call 76 [(tm 14),(.av (.bool true))]),Aa 2 15,Ab 3 0]
def ME:aI:=⟨16,(ag6 NC [] (.seq (ag6 NB Cg (ag6 NA Cc (ag8 12 (.sreg Nz Ci)))) (ag6 Ny Cs .ret))),[(.tmp 2),(.tmp 3)]⟩
attribute [push_cast] NC NB NA Nz Ny
theorem Sj:ahb 61=ahc ME:=ahf
def cz:LSO:=[Al 4]
def cw:LSO:=[Aa 5 0,Aa 6 1,Ax 7 167 5 6,Bf 8 7 0,Aa 4 8]
def bw:aI:=⟨9,(ag6 cz [] (ag6 cw Cf .ret)),[(.tmp 4)]⟩
attribute [push_cast] cz cw
theorem fY:ahb 144=ahc bw:=ahf
def cO:LSO:=[Ab 4 0]
def cN:LSO:=[Aa 6 0,Af 7 6,Ab 8 0]
def cM:LSO:=[Ap 9 8 7]
def cL:LSO:=[Aa 10 8,Aa 5 10]
def cK:LSO:=[Aa 11 1,Aa 12 0,Aa 13 5,Ak 14 2 12 13,Ay 15 2 14,BH 16 11 15]
def cJ:LSO:=[Aa 17 5,Aa 4 17]
def cI:LSO:=[Aj 18 8 1,Aa 8 18]
def cH:LSO:=[Ab 4 (-1)]
def bI:aI:=⟨19,(ag6 cO [] (.seq (ag6 cN Ci (ag9 0 (ag6 cM [] (.seq (aha 9 0) (.seq (.block 1 (ag6 cL Cc (ag6 cK Ch (ag8 16 (.sreg cJ Cc))))) (.sreg cI Cc)))))) (ag6 cH [] .ret))),[(.tmp 4)]⟩
attribute [push_cast] cO cN cM cL cK cJ cI cH
theorem iB:ahb 167=ahc bI:=ahf
def zq:LSO:=[As 4,As 5,Al 6]
def zp:LSO:=[Aa 7 0,Aa 8 1,Ax 9 182 7 8,Am 10 9,An 11 9,AO 12 9,Aa 4 10,Aa 5 11,Aa 6 12]
def jj:aI:=⟨13,(ag6 zq [] (ag6 zp Cr .ret)),[(.tmp 4),(.tmp 5),(.tmp 6)]⟩
attribute [push_cast] zq zp
theorem yt:ahb 153=ahc jj:=ahf
def fJ:LSO:=[As 4,As 5,Al 6]
def fI:LSO:=[Aa 8 0,Aa 9 1,Ax 10 194 8 9,Aa 7 10]
def fH:LSO:=[Aa 11 7,Bf 12 11 0]
def fG:LSO:=[Aa 13 0,Aa 14 7,o1 15 (.slS (tm 13) none (some (tm 14))),Aa 16 0,Aa 17 7,Aa 18 1,A5 19 18,A9 20 17 19,B9 21 16 20,Aa 4 15,Aa 5 21,AA 6]
def fF:LSO:=[Aa 22 0,Aa 4 22,As 5,Al 6]
def bu:aI:=⟨23,(ag6 fJ [] (.seq (ag6 fI Ce (ag6 fH Cc (ag8 12 (.sdreg fG [.pure,.pure,(.read 0 0),.pure,.pure,.pure,(.read 0 0),.pure,(.read 0 0),.pure] [true,true,true,false,false,false,false,false,false,false,false,false])))) (ag6 fF Co .ret))),[(.tmp 4),(.tmp 5),(.tmp 6)]⟩
attribute [push_cast] fJ fI fH fG fF
theorem fq:ahb 182=ahc bu:=ahf
attribute [push_cast] Gt Qk Jv zb Jx Jy ME bw bI jj
set_option maxHeartbeats 8000000
set_option maxRecDepth 100000
theorem Un{n:Int}(a : -2147483648<=n)(b:n<2147483648):IntKind.i32.wrap n=n:=by simp only[IntKind.wrap,IntKind.bits,IntKind.signed];simp;omega
theorem Vn{p:Nat}(h:p<s.length)(a:(s.getD p 0).toNat<128):P3 s p=((s.getD p 0).toNat,1):=by
 have e:s.getD p 0=s[p]:=by simp[h]
 rw[e]at a⊢;exact decode_ascii ⟨⟨s⟩⟩ p h a
theorem XH{p:Nat}(h:p<s.length)(a:128<=(s.getD p 0).toNat):128<=(P3 s p).1:=by
 have e:s.getD p 0=s[p]:=by simp[h]
 rw[e]at a;exact(decode_high ⟨⟨s⟩⟩ p h a).1
def sq(x:Int):Bool:=(decide (97<=x)&&decide (x<=122)) ||(decide (65<=x)&&decide (x<=90))
theorem nn{x:Int}{L:List Blk}{K:aeh}(h:K (.bool (sq x)) L):aeg 143 [.int .i32 x] L K:=by
 refine aef Qj ?_
 all_goals (first|refine af rfl (Kto h ?_)|refine ag (Kto h ?_)|refine af (by simp only[AV.refs,AV.refsL, *];rfl) (Kto h ?_)|refine aB (af rfl (Kto h ?_))|(trace_state;fail))
 all_goals (first|(simp[sq, *];done)|(simp[sq, *];omega)|(simp[sq, *];intros;omega)|(simp_all[Hid,sq];done)|(simp_all[Hid,sq];omega))
def Oc(x:Int):Bool:=sq x ||(decide (48<=x)&&decide (x<=57)) ||decide (x=45)
def vX(s:List UInt8):Bool:=decide (1<=s.length)&&decide (s.length<=32)&&sq ((s.getD 0 0).toNat:Int)&&s.all λc=>Oc (c.toNat:Int)
theorem QY{x:Int}(h:128<=x):Oc x=false:=by simp only[Oc,sq,agm,Bool.and_eq_false_iff,decide_eq_false_iff_not];omega
theorem Ur{s:List UInt8}{L:List Blk}{K:aeh}(h:K (.bool (vX s)) L):aeg 101 [.str s] L K:=by
 have no:vX s=false->K (.bool false) L:=λe=>by rw[<- e];exact h
 replace no:=hid no;replace h:=hid h;refine aa Si (by simp[MD]) ?_;simp only[MD,am];by_cases y:s=[];subst y;refine wk ?_;exact ag (no.o rfl);have z:0<s.length:=afa.2 y;by_cases C:(32:Int)<(s.length:Int);refine wk ?_;exact ag (no.o (by simp[vX];omega));obtain⟨u,r⟩:=aec (s.getD 0 0);have hr:=u.toNat_lt;have w0:IntKind.i32.wrap (u.toNat:Int)=(u.toNat:Int):=Un ahd ahd;cases hl0:sq (u.toNat:Int)with
 | false =>
   have kk1:=@hid _ @nn;refine wk ?_;refine ag (no.o ?_);simp only[vX,r,hl0,agO,afX]
 | true =>
   have kk1:=@hid _ @nn;refine wk ?_;refine ao (λn T' L'=>∃p,n=s.length-p/\p<=s.length/\Hid (∀c∈s.take p,Oc (c.toNat:Int)=true)/\T'=[(20,.ptr L.length 0)]/\L'=L++[.siter s p]) ahh ⟨0,rfl,aep _,hid ahe,rfl,rfl⟩ ?_;rintro _ _ _ ⟨p,rfl,F,g,rfl,rfl⟩;by_cases a:p<s.length
   .obtain⟨c,hc⟩:=aec (s.getD p 0);have i:c∈s:=(by rw[<- hc];simp[a]);have j:s.take (p+1)=s.take p++[c]:=(by rw[aeM a,<- hc];simp[a]);replace j:=hid j;have f:Oc (c.toNat:Int)=false->K (.bool false) L:=λe=>no.o (by have:(s.all λc=>Oc (c.toNat:Int))=false:=List.all_eq_false.2 ⟨c,i,by rw[e];simp⟩;simp only[vX,this,agO])
    replace f:=hid f;by_cases A:c.toNat<128
    .have hd:=Vn a (by rw[hc];exact A);rw[hc]at hd;obtain⟨x,v⟩:∃x:Nat,c.toNat=x:=⟨_,rfl⟩;rw[v]at hd f;have l:=hid v;clear v hc i A hr w0;cases k:sq (x:Int)with
     | true =>
       have kk1:=@hid _ @nn;refine wk ?_;refine ahi ahd ahh ⟨p+1,rfl,a,hid λd b=>?_,rfl,rfl⟩;rw[j.o]at b;rcases aen.1 b with h|h
       .exact g.o d h
       .rw[aeG.1 h,l.o,Oc,k];rfl
     | false =>
       repeat' first
        |refine kX ?_
        | (first|refine ju ahf ?_|refine fO ahf ?_|refine fR ?_|refine DR ?_|refine nQ (fun _=>?_)|refine dS ?_|refine jw ?_|refine nn ?_|refine dv (nn ⟨rfl,rfl⟩) (nn ⟨rfl,rfl⟩) ?_|refine bq (nn ⟨rfl,rfl⟩) ?_)
          refine sm ?_
        | (first|refine jo ahf ?_|refine iF ?_|refine fQ ?_|refine jv ?_|refine nW (dR ?_))
          refine sl ?_
        |exact nR
        |first|apply nS|apply jq|apply nT|apply jr|apply nV|apply jt
        |refine fU ?_
        |refine fP ?_
        |first|refine fS rfl ?_|refine fT rfl ?_|refine cG rfl ?_ ?_|refine ir rfl (λ_=>?_) (λ_=>?_)|refine iq rfl (λ_=>?_) (λ_=>?_)
        |((first|refine cF (λ_=>?_) (λ_=>?_)|refine dQ (λ_=>?_) (λ_=>?_))<;>try refine sm ?_)
        |refine And.intro trivial ?_
        |refine And.intro ahd ?_
        |refine eQ rfl (λ_=>?_) (λ_=>?_)
        |refine And.intro ?_ ?_
       .rename_i hb;refine af rfl (f.o ?_);simp only[Oc,k,agh,agm,Bool.and_eq_false_iff,decide_eq_false_iff_not];omega
       .rename_i hb;refine ahi ahd ahh ⟨p+1,rfl,a,hid λd b=>?_,rfl,rfl⟩;rw[j.o]at b;rcases aen.1 b with h|h
        .exact g.o d h
        .rw[aeG.1 h,l.o];simp only[Oc,k,agh,ae4,aeq,decide_eq_true_eq];omega
    .have hh:=XH a (by rw[hc];omega);obtain⟨⟨x,D⟩,hd⟩:∃q,P3 s p=q:=⟨_,rfl⟩;rw[hd]at hh;simp only at hh;have m:=hid (f.o (QY (show(128:Int)<=(c.toNat:Int)by omega)));have k:sq (x:Int)=false:=by have:=QY (show(128:Int)<=(x:Int)by omega);simp only[Oc,agm]at this;exact this.1.1
     have G:¬(x:Int)<48:=ahd;have H:(57:Int)<(x:Int):=ahd;have E:¬(x:Int)=45:=ahd;clear hc i hr w0;have kk1:=@hid _ @nn;refine wk ?_;exact af rfl m.o
   .have hke:p=s.length:=ahd;subst hke;have t:=h.o;have e:vX s=true:=by
     have B:(s.all λc=>Oc (c.toNat:Int))=true:=aev.2 λc w=>g.o c (by rw[aeI];exact w)
     simp only[vX,B,r,hl0,af1];simp;omega
    rw[e]at t;replace t:=hid t;clear e;refine wk ?_;exact af rfl t.o
variable {L:List Blk}{K:aeh}
abbrev Ava:=List UInt8×List UInt8
variable {r:List Ava}
def Gx(a:Ava):List AV:=[.str a.1,.str a.2]
def bN(r:List Ava):List AV:=r.flatMap Gx
abbrev YL(r:List Ava)(cap:Option Nat):AV:=.sl (bN r) r.length cap
def DT(r:List Ava)(typ:List UInt8):Bool:=r.any λa=>decide (aE a.1=aE typ)
theorem acU{a:Ava}(d:(a.1.length:Int)<=100000)(e:(typ.length:Int)<=100000)(c:L[ip]?=some (.cells [.str typ]))(h:K (.bool (decide (aE a.1=aE typ))) L):
  aeg 145 [.agg (Gx a),.ptr ip 0] L K:=by
 obtain⟨t,v⟩:=a;replace h:=hid h;have b:ip<L.length:=(aei.1 c).1;have g1:(L++[Blk.cells [.str t,.str v]])[ip]?=some (.cells [.str typ]):=by rw[aem b];exact c
 simp only[Gx];refine aa QN (by simp[Jw]) ?_;simp only[Jw,am];have kk1:=@ahk _ _ _ _ (Gf d);have kk2:=@ahk _ _ _ _ (Gf e);refine wk ?_;exact af rfl h.o
theorem iE(r:List Ava):(bN r).length=r.length*2:=by
 induction r with
 |nil=>rfl
 |cons a r ih=>simp only[bN,afe,aez,Gx,aeB,aeY]at ih⊢;omega
theorem nA:∀{r:List Ava}{k:Nat},k<r.length->((bN r).drop (k*2)).take 2=Gx (r.getD k ([],[]))
 |a::r,0,_=>rfl
 |a::r,k+1,h=>by have b:=@nA r k (by simpa using h);rw[show(k+1)*2=k*2+1+1 by omega];simpa[bN,Gx]using b
theorem Zl(A:r.length<=100000)(p:∀a∈r,(a.1.length:Int)<=100000)(w:(typ.length:Int)<=100000)(x:L[ip]?=some (.cells [.str typ]))(i:DT r typ=false->K (.int .i64 (-1)) L)(c:∀k:Nat,DT r typ=true->K (.int .i64 k) L):aeg 167 [YL r cap,.func 145 [.ptr ip 0]] L K:=by
 replace i:=hid i;replace c:=hid c;replace p:=hid p;refine aef iB ?_;refine ao (λn T' L'=>∃(k:Nat),n=r.length-k/\k<=r.length/\Hid (DT (r.take k) typ=false)/\T'=[(8,.int .i64 (k:Int)),(7,.int .i64 r.length),(0,YL r cap),(1,.func 145 [.ptr ip 0])]/\L=L') (CutS (b:=aek _)) ⟨0,rfl,aep _,hid rfl,rfl,rfl⟩ ?_;rintro _ _ _ ⟨k,rfl,y,u,rfl,rfl⟩;by_cases d:k<r.length;have g1:(k:Int)<(r.length:Int):=ahd;have B:=aee k ahd;have v:=nA d;have z:k*2+2<=(bN r).length:=by rw[iE];omega
 obtain⟨a,l⟩:=aec (r.getD k ([],[]));have g:a∈r:=by rw[<- l];simp[d]
 have j:r.take (k+1)=r.take k++[a]:=by rw[aeM d,<- l];simp[d]
 rw[l]at v;have m:DT (r.take (k+1)) typ=decide (aE a.1=aE typ):=by have:=u.o;simp only[DT]at this⊢;rw[j,List.any_append,this];simp
 have f:decide (aE a.1=aE typ)=true->DT r typ=true:=λe=>afP.2 ⟨a,g,e⟩
 replace f:=hid f;replace m:=hid m;replace j:=hid j;have q:=hid (p.o a g);clear l g;refine wk ?_;refine acU q.o w x ?_;refine sk ?_;cases hd:decide (aE a.1=aE typ)with
 | true =>
   have t:=hid (c.o k (f.o hd));replace hd:=hid hd;refine wk ?_;exact ag t.o
 | false =>
   replace hd:=hid hd;refine wk ?_;exact ahi ahd (CutS (b:=aek _)) ⟨k+1,rfl,d,hid (by rw[m.o,hd.o]),rfl,rfl⟩
 have s:k=r.length:=ahd;subst s;have g1:¬(r.length:Int)<(r.length:Int):=ahd;have h:=u.o;rw[aeI]at h;have t:=hid (i.o h);clear h;refine wk ?_;exact ag t.o
theorem TX(f:r.length<=100000)(c:∀a∈r,(a.1.length:Int)<=100000)(d:(typ.length:Int)<=100000)(i:L[ip]?=some (.cells [.str typ]))(h:K (.bool (DT r typ)) L):
  aeg 144 [YL r cap,.func 145 [.ptr ip 0]] L K:=by
 replace h:=hid h;refine aef fY ?_;refine Zl f c d i (λe=>?_) (λk e=>?_);have b:=h.o;rw[e]at b;replace b:=hid b;refine ahl ?_;exact ag b.o;have b:=h.o;rw[e]at b;replace b:=hid b;have g:(0:Int)<=(k:Int):=ahd;refine ahl ?_;exact ag b.o
theorem acb(d:r.length<=100000)(b:∀a∈r,(a.1.length:Int)<=100000)(c:(typ.length:Int)<=100000)(h:K (.bool (DT r typ)) L):
  aeg 102 [YL r cap,.str typ] L K:=by
 replace h:=hid h;refine aef T5 ?_;refine TX d b c ahe ?_;refine ahl ?_;exact af rfl h.o
theorem fN{a:List UInt8}{c:UInt8}{L:List Blk}{K:aeh}(h:K (.int .i64 (Lib.indexByte a c)) L):aeg 146 [.str a,.int .u8 c.toNat] L K :=
 iu Tryz.func146 rfl ahf (λw0 S0 E w vs g b=>by simp only[VRL,VR]at b;obtain⟨_,_,rfl,rfl,_,_,rfl,rfl,rfl⟩:=b;exact(Tryz.strings_IndexByte ⟨⟨a⟩⟩ c.toNat w).mono λe w' ⟨d,f⟩=>⟨_,d,by simp[VR],by subst f;exact Qy.refl _⟩) h
theorem qC(a:List UInt8)(c:UInt8):(0<=Lib.indexByte a c)↔c∈a:=by
 induction a with
 |nil=>simp[Lib.indexByte]
 | cons b l ih =>
   have e:=Lib.indexByte_ge l c;unfold Lib.indexByte;by_cases d:b=c
   .simp[d]
   .have e1:(b == c)=false:=(by simpa using d);rw[e1];simp only[aeE,if_false];have f:c∈b::l↔c∈l:=(by simp[Ne.symm d]);rw[f,<- ih];split
    .rename_i h;simp at h;omega
    .rename_i h;simp at h;omega
theorem dO(c d:UInt8):(c.toNat:Int)=(d.toNat:Int)↔c=d:=by constructor;intro h;exact agk.1 ahd;rintro rfl;rfl
def wrB(i n:Nat)(c:UInt8):List UInt8 :=
 if c=0 then[92,48,48]else if(i=0/\(c=32\/c=35))\/(i+1=n/\c=32)\/c∈[34,43,44,59,60,62,92]then[92,c]else[c]
def wrL(n:Nat):Nat->List UInt8->List UInt8
 |_,[]=>[]
 |i,c::s=>wrB i n c++wrL n (i+1) s
def kg(s:List UInt8):List UInt8:=wrL s.length 0 s
theorem aax(i n:Nat)(c:UInt8):(wrB i n c).length<=3:=by unfold wrB;split;simp;split<;>simp
theorem fV(x:s.length<=100000)(h:K (.str (kg s)) L):aeg 105 [.str s] L K:=by
 replace h:=hid h;have B:IntKind.i64.wrap ((s.length:Int)-1)=(s.length:Int)-1:=ac ahd ahd;refine aef OD ?_;refine cB (l:=[]) (n:=0) 3 1 rfl (aeW 1).symm ?_;refine ao (λn T' L'=>∃(i m:Nat) (b:List UInt8),n=s.length-i/\i<=s.length/\m<=3*i/\Hid (m=b.length/\b++wrL s.length i (s.drop i)=kg s)/\T'=[(10,.int .i64 (i:Int)),(9,.int .i64 s.length),(8,.sl (u8s s) s.length none),(3,.gsl (u8s b) m L.length 1),(0,.str s)]/\L'=L++[.spare m 1]) ahh ⟨0,0,[],rfl,aep _,ahd,hid ⟨rfl,rfl⟩,rfl,rfl⟩ ?_;rintro _ _ _ ⟨i,m,b,rfl,z,y,k,rfl,rfl⟩;by_cases d:i<s.length
 .have g1:(i:Int)<(s.length:Int):=ahd;have A:=aee i ahd;obtain⟨c,w⟩:=aec (s.getD i 0);have g3:(u8s s).getD i .undef=.int .u8 c.toNat:=(by rw[<- w];simp[u8s,d]);have p:s.drop i=c::s.drop (i+1):=(by rw[ae3 d,<- w];simp[d]);have a:=k.o.2;rw[p]at a;simp only[wrL]at a;have g4:=GI;have C:(u8s s).length=s.length:=(by simp[u8s]);clear w p;replace a:=hid a
  repeat' first
   |refine kX ?_
   | (first|refine ju ahf ?_|refine fO ahf ?_|refine fR ?_|refine DR ?_|refine nQ (fun _=>?_)|refine dS ?_|refine jw ?_|refine fN ?_|refine dv (fN ⟨rfl,rfl⟩) (fN ⟨rfl,rfl⟩) ?_|refine bq (fN ⟨rfl,rfl⟩) ?_)
     refine sm ?_
   | (first|refine jo ahf ?_|refine iF ?_|refine fQ ?_|refine jv ?_|refine nW (dR ?_))
     refine sl ?_
   |exact nR
   |first|apply nS|apply jq|apply nT|apply jr|apply nV|apply jt
   |refine fU ?_
   |refine fP ?_
   |first|refine fS rfl ?_|refine fT rfl ?_|refine cG rfl ?_ ?_|refine ir rfl (λ_=>?_) (λ_=>?_)|refine iq rfl (λ_=>?_) (λ_=>?_)
   |((first|refine cF (λ_=>?_) (λ_=>?_)|refine dQ (λ_=>?_) (λ_=>?_))<;>try refine sm ?_)
   |refine And.intro trivial ?_
   |refine And.intro ahd ?_
   |refine eQ rfl (λ_=>?_) (λ_=>?_)
   |refine And.intro ?_ ?_
  rfl;omega;rename_i j;have f:=(dO c 0).1 j;rw[show u8s b++AV.frzL (u8s [92,48,48])=u8s (b++[92,48,48])by simp[u8s,AV.frzL,AV.frz]];refine ahi ahd ahg ⟨i+1,m+3,b++[92,48,48],rfl,d,ahd,hid ⟨by simp[k.o.1],?_⟩,rfl,rfl⟩;rw[<- a.o,wrB,if_pos f,aew];rename_i j u;have f:¬c=0:=λe=>j ((dO c 0).2 e)
  have q:(i=0/\(c=32\/c=35))\/(i+1=s.length/\c=32)\/c∈[34,43,44,59,60,62,92]:=by rcases u with(⟨t,g⟩|⟨t,g⟩)|e;exact .inl ⟨ahd,g.imp (dO c 32).1 (dO c 35).1⟩;exact .inr (.inl ⟨ahd,(dO c 32).1 g⟩);exact .inr (.inr ((qC _ _).1 e))
  rw[show u8s b++[AV.int IntKind.u8 92,AV.int IntKind.u8 (c.toNat:Int)]=u8s (b++[92,c])by simp[u8s]];refine ahi ahd ahg ⟨i+1,m+1+1,b++[92,c],rfl,d,ahd,hid ⟨by simp[k.o.1],?_⟩,rfl,rfl⟩;rw[<- a.o,wrB,if_neg f,if_pos q,aew];rename_i j u;have f:¬c=0:=λe=>j ((dO c 0).2 e)
  have q:¬((i=0/\(c=32\/c=35))\/(i+1=s.length/\c=32)\/c∈[34,43,44,59,60,62,92]):=λq=>u (by rcases q with⟨t,g⟩|⟨t,g⟩|e;exact .inl (.inl ⟨ahd,g.imp (dO c 32).2 (dO c 35).2⟩);exact .inl (.inr ⟨ahd,(dO c 32).2 g⟩);exact .inr ((qC _ _).2 e))
  rw[show u8s b++[AV.int IntKind.u8 (c.toNat:Int)]=u8s (b++[c])by simp[u8s]];refine ahi ahd ahg ⟨i+1,m+1,b++[c],rfl,d,ahd,hid ⟨by simp[k.o.1],?_⟩,rfl,rfl⟩;rw[<- a.o,wrB,if_neg f,if_neg q,aew]
 have v:i=s.length:=ahd;subst v;have g1:¬(s.length:Int)<(s.length:Int):=ahd;have t:=GI b;have g:=D0 b;have e:=k.o.2;rw[afR,wrL,aeL]at e;have r:=h.o;rw[<- e]at r;replace r:=hid r;clear e;refine wk ?_;exact af rfl r.o
abbrev JP:List UInt8:=[34,43,44,59,60,62,92,32,35,61]
def j7:List UInt8->Bool->List UInt8->Option (List UInt8×List UInt8×Bool)
 |b,bl,[]=>some (b,[], !bl)
 | b,bl,c::s=>if c=44\/c=43 then some (b,c::s, !bl)
   else if c≠92 then(if c=0\/c∈([34,59,60,62]:List UInt8)\/(b=[]/\(c=32\/c=35))then none else j7 (b++[c]) (decide (c=32)) s)
   else match s with
    |[]=>none
    | d::s1=>if d∈JP then j7 (b++[d]) false s1 else match s1 with
      |[]=>none
      | e::s2=>match U1 d e with
        |none=>none
        |some x=>j7 (b++[x]) false s2
def WB(o:Option (List UInt8×List UInt8×Bool)):AV:=match o with
 |none=>.tup [.str [],.str [],.bool false]
 |some (v,r,f)=>.tup [.str v,.str r,.bool f]
theorem O3  :j7 b bl []=some (b,[], !bl):=by rw[j7.eq_def]
theorem L8{c:UInt8}(h:c=44\/c=43):j7 b bl (c::s)=some (b,c::s, !bl):=by rw[j7.eq_def];simp only[if_pos h]
theorem I6{c:UInt8}(h:¬(c=44\/c=43))(a:c≠92):j7 b bl (c::s)=if c=0\/c∈([34,59,60,62]:List UInt8)\/(b=[]/\(c=32\/c=35))then none else j7 (b++[c]) (decide (c=32)) s:=by rw[j7.eq_def];simp only[if_neg h,if_pos a]
theorem QX  :j7 b bl [92]=none:=by rw[j7.eq_def];rfl
theorem L9(h:d∈JP):j7 b bl (92::d::s)=j7 (b++[d]) false s:=by rw[j7.eq_def];simp only[show ¬((92:UInt8)=44\/(92:UInt8)=43)by decide,if_false,ne_eq,not_true_eq_false,if_pos h]
theorem QW(h:¬d∈JP):j7 b bl [92,d]=none:=by rw[j7.eq_def];simp only[show ¬((92:UInt8)=44\/(92:UInt8)=43)by decide,if_false,ne_eq,not_true_eq_false,if_neg h]
theorem SD{e:UInt8}(h:¬d∈JP):j7 b bl (92::d::e::s)=match U1 d e with|none=>none|some x=>j7 (b++[x]) false s:=by rw[j7.eq_def];simp only[show ¬((92:UInt8)=44\/(92:UInt8)=43)by decide,if_false,ne_eq,not_true_eq_false,if_neg h]
theorem ZF{i:Nat}(h:i<s.length):s.drop i=s.getD i 0::s.drop (i+1):=by rw[ae3 h];simp[h]
theorem aaB(Q:s.length<=100000)(h:K (WB (j7 [] false s)) L):aeg 154 [.str s] L K:=by
 replace h:=hid h;refine aef QM ?_;refine cB (l:=[]) (n:=0) 5 1 rfl (aeW 1).symm ?_;refine ao (λn T' L'=>∃(i m:Nat) (b:List UInt8) (bl:Bool),n=s.length-i/\i<=s.length/\m<=i/\Hid (m=b.length/\j7 b bl (s.drop i)=j7 [] false s)/\T'=[(7,.int .i64 (i:Int)),(6,.bool bl),(5,.gsl (u8s b) m L.length 1),(0,.str s)]/\L'=L++[.spare m 1]) ahh ⟨0,0,[],false,rfl,aep _,ahd,hid ⟨rfl,rfl⟩,rfl,rfl⟩ ?_;rintro _ _ _ ⟨i,m,b,bl,rfl,hi,Z,y,rfl,rfl⟩;have T:=GI b;have V:=D0 b;by_cases z:i<s.length
 .have g1:(i:Int)<(s.length:Int):=ahd;have X:=aee i ahd;obtain⟨c,P⟩:=aec (s.getD i 0);have j:=ZF z;rw[P]at j;have a:=y.o.2;rw[j]at a;have E:(s.drop i).take (s.length-i)=s.drop i:=aeO ahe;have J:(i:Int)<=(s.length:Int):=ahd;by_cases p:c=44\/c=43;rw[L8 p]at a;have f:=h.o;rw[<- a]at f;simp only[WB]at f;rw[<- j]at f;replace f:=hid f;have B:((c.toNat:Int)=44)\/((c.toNat:Int)=43):=p.imp (dO c 44).2 (dO c 43).2;clear a p j;rcases B with B|B;refine wk ?_;exact af rfl f.o;refine wk ?_;exact af rfl f.o
  .have B:¬(c.toNat:Int)=44:=λe=>p (.inl ((dO c 44).1 e))
   have U:¬(c.toNat:Int)=43:=λe=>p (.inr ((dO c 43).1 e))
   by_cases w:c=92;subst w;have g3:IntKind.i64.wrap ((i:Int)+2)=(i:Int)+2:=ac ahd ahd;have g4:IntKind.i64.wrap ((i:Int)+3)=(i:Int)+3:=ac ahd ahd;have g5:IntKind.i64.wrap ((i:Int)+1+1)=(i:Int)+1+1:=ac ahd ahd;have S:IntKind.i64.wrap ((i:Int)+2+1)=(i:Int)+2+1:=ac ahd ahd;have Y:((i:Int)+1).toNat=i+1:=ahd;have t3:((i:Int)+3).toNat=i+3:=ahd;by_cases F:i+1<s.length;have N:(i:Int)+1<(s.length:Int):=ahd;obtain⟨d,hd⟩:=aec (s.getD (i+1) 0);have g:=ZF F;rw[hd]at g;rw[g]at a;by_cases u:d∈JP;rw[L9 u]at a;have O:=(qC JP d).2 u;clear j g;replace a:=hid a;have kk1:=@hid _ @fN;refine wk ?_;rw[show u8s b++[AV.int IntKind.u8 (d.toNat:Int)]=u8s (b++[d])by simp[u8s],show decide (((UInt8.toNat 92:Nat):Int)=32)=false from rfl];refine ahi ahd ahg ⟨i+1+1,m+1,b++[d],false,rfl,F,ahd,hid ⟨by simp[y.o.1],a.o⟩,rfl,rfl⟩;have O:¬0<=Lib.indexByte JP d:=λe=>u ((qC JP d).1 e)
   by_cases I:i+2<s.length;have G:(i:Int)+2<(s.length:Int):=ahd;have f4:(i:Int)+1<=(i:Int)+3:=ahd;have f5:(i:Int)+3<=(s.length:Int):=ahd;have f6:(0:Int)<=(i:Int)+1:=ahd;obtain⟨e,M⟩:=aec (s.getD (i+2) 0);have k:=ZF I;rw[M]at k;rw[k,SD u]at a;have H:(s.drop (i+1)).take (i+3-(i+1))=[d,e]:=by rw[g,k,show i+3-(i+1)=2 by omega];rfl
   clear j g k;replace a:=hid a;have kk1:=@hid _ @fN;refine wk ?_;refine Yd ?_;rcases v:U1 d e with _|x;rw[show TA d e=.tup [.str [],.bool false]by simp only[TA,v]];have f:=h.o;rw[<- a.o,v]at f;simp only[WB]at f;replace f:=hid f;clear v;refine ahl ?_;exact af rfl f.o;rw[show TA d e=.tup [.str [x],.bool true]by simp only[TA,v]];have q:=a.o;rw[v]at q;simp only at q;replace q:=hid q;have R:[x].getD 0 0=x:=rfl;clear v a;refine ahl ?_;rw[show u8s b++[AV.int IntKind.u8 (x.toNat:Int)]=u8s (b++[x])by simp[u8s],show decide (((UInt8.toNat 92:Nat):Int)=32)=false from rfl];refine ahi ahd ahg ⟨i+2+1,m+1,b++[x],false,rfl,I,ahd,hid ⟨by simp[y.o.1],q.o⟩,rfl,rfl⟩;have G:¬(i:Int)+2<(s.length:Int):=ahd;have r:s.drop (i+1+1)=[]:=agy ahd;rw[r,QW u]at a;have f:=h.o;rw[<- a]at f;replace f:=hid f;clear j g a;have kk1:=@hid _ @fN;refine wk ?_;exact af rfl f.o;have N:¬(i:Int)+1<(s.length:Int):=ahd;have G:¬(i:Int)+2<(s.length:Int):=ahd;have r:s.drop (i+1)=[]:=agy ahd;rw[r,QX]at a;have f:=h.o;rw[<- a]at f;replace f:=hid f;clear j a;have kk1:=@hid _ @fN;refine wk ?_;exact af rfl f.o
   .rw[I6 p w]at a;have W:¬(c.toNat:Int)=92:=λe=>w ((dO c 92).1 e)
    clear j;replace a:=hid a
    repeat' first
     |refine kX ?_
     | (first|refine ju ahf ?_|refine fO ahf ?_|refine fR ?_|refine DR ?_|refine nQ (fun _=>?_)|refine dS ?_|refine jw ?_|refine fN ?_|refine dv (fN ⟨rfl,rfl⟩) (fN ⟨rfl,rfl⟩) ?_|refine bq (fN ⟨rfl,rfl⟩) ?_)
       refine sm ?_
     | (first|refine jo ahf ?_|refine iF ?_|refine fQ ?_|refine jv ?_|refine nW (dR ?_))
       refine sl ?_
     |exact nR
     |first|apply nS|apply jq|apply nT|apply jr|apply nV|apply jt
     |refine fU ?_
     |refine fP ?_
     |first|refine fS rfl ?_|refine fT rfl ?_|refine cG rfl ?_ ?_|refine ir rfl (λ_=>?_) (λ_=>?_)|refine iq rfl (λ_=>?_) (λ_=>?_)
     |((first|refine cF (λ_=>?_) (λ_=>?_)|refine dQ (λ_=>?_) (λ_=>?_))<;>try refine sm ?_)
     |refine And.intro trivial ?_
     |refine And.intro ahd ?_
     |refine eQ rfl (λ_=>?_) (λ_=>?_)
     |refine And.intro ?_ ?_
    rename_i v;have t:c=0\/c∈([34,59,60,62]:List UInt8)\/(b=[]/\(c=32\/c=35)):=by rcases v with(e|e)|⟨e,C⟩;exact .inl ((dO c 0).1 e);exact .inr (.inl ((qC _ _).1 e));refine .inr (.inr ⟨ae2.1 ?_,C.imp (dO c 32).1 (dO c 35).1⟩);have:=y.o.1;omega
    have f:=h.o;rw[<- a.o,if_pos t]at f;exact af rfl f;rename_i v;have t:¬(c=0\/c∈([34,59,60,62]:List UInt8)\/(b=[]/\(c=32\/c=35))):=λe=>v (by rcases e with e|e|⟨e,C⟩;exact .inl (.inl ((dO c 0).2 e));exact .inl (.inr ((qC _ _).2 e));refine .inr ⟨?_,C.imp (dO c 32).2 (dO c 35).2⟩;have:=y.o.1;rw[e]at this;simp at this;omega)
    have A:decide ((c.toNat:Int)=32)=decide (c=32):=by have:=dO c 32;simp only[decide_eq_decide];exact this
    rw[show u8s b++[AV.int IntKind.u8 (c.toNat:Int)]=u8s (b++[c])by simp[u8s],A];refine ahi ahd ahg ⟨i+1,m+1,b++[c],decide (c=32),rfl,z,ahd,hid ⟨by simp[y.o.1],?_⟩,rfl,rfl⟩;rw[<- a.o,if_neg t]
 have D:i=s.length:=ahd;subst D;have g1:¬(s.length:Int)<(s.length:Int):=ahd;have f:=h.o;rw[<- y.o.2,afR,O3]at f;simp only[WB]at f;replace f:=hid f;have E:(s.drop s.length).take (s.length-s.length)=[]:=ahe;refine wk ?_;exact af rfl f.o
def Jl:List UInt8->Option (List UInt8×List UInt8)
 |[]=>none
 | c::s=>if c=61 then some ([],s) else match Jl s with
   |none=>none
   |some (a,b)=>some (c::a,b)
theorem P5:∀s:List UInt8,(Lib.indexByte s 61=-1/\Jl s=none)\/∃n:Nat,n<s.length/\Lib.indexByte s 61=(n:Int)/\Jl s=some (s.take n,s.drop (n+1))
 |[]=>.inl ⟨rfl,rfl⟩
 | c::s=>by
   by_cases d:c=61
   .subst d;exact .inr ⟨0,ahe,by simp[Lib.indexByte],by simp[Jl]⟩
   .have e1:(c == 61)=false:=(by simpa using d);unfold Lib.indexByte;rw[e1];simp only[aeE,if_false,Jl,if_neg d];rcases P5 s with⟨a,b⟩|⟨n,e,a,b⟩
    .exact .inl ⟨by rw[a];rfl,by rw[b]⟩
    .refine .inr ⟨n+1,by simp;omega,?_,by rw[b];simp⟩;rw[a];have:((n:Int) == -1)=false:=ahe;rw[this];simp
def P4(s:List UInt8):AV:=match Jl s with
 |some (a,b)=>.tup [.str a,.str b,.bool true]
 |none=>.tup [.str s,.str [],.bool false]
theorem Tz{a:List UInt8}{c:UInt8}{L:List Blk}{K:aeh}(h:K (.int .i64 (Lib.indexByte a c)) L):aeg 194 [.str a,.str [c]] L K :=
 iu Tryz.func194 rfl ahf (λw0 S0 E w vs g b=>by simp only[VRL,VR]at b;obtain⟨_,_,rfl,rfl,_,_,rfl,rfl,rfl⟩:=b;exact(Tryz.stringslite_Index_one ⟨⟨a⟩⟩ c w).mono λe w' ⟨d,f⟩=>⟨_,d,by simp[VR],by subst f;exact Qy.refl _⟩) h
theorem ZN(d:s.length<=100000)(h:K (P4 s) L):aeg 182 [.str s,.str [61]] L K:=by have i:[(61:UInt8)].length=1:=rfl;rcases P5 s with⟨b,a⟩|⟨n,c,b,a⟩;simp only[P4,a]at h;replace h:=hid h;clear a;refine aa fq (by simp[bu]) ?_;simp only[bu,am];have kk1:=@hid _ @Tz;refine wk ?_;exact ag h.o;simp only[P4,a]at h;replace h:=hid h;have g1:(0:Int)<=(n:Int):=ahd;have g:=aee n ahd;have g3:(n:Int)<=(s.length:Int):=ahd;have g4:(n:Int)+1<=(s.length:Int):=ahd;have j:(0:Int)<=(n:Int)+1:=ahd;have f:((n:Int)+1).toNat=n+1:=ahd;have e:(s.drop (n+1)).take (s.length-(n+1))=s.drop (n+1):=aeO ahe;clear a;refine aa fq (by simp[bu]) ?_;simp only[bu,am];have kk1:=@hid _ @Tz;refine wk ?_;exact ag h.o
theorem adL(c:s.length<=100000)(h:K (P4 s) L):aeg 153 [.str s,.str [61]] L K:=by
 rcases hc:Jl s with _|⟨a,b⟩
 all_goals
  simp only[P4,hc]at h;replace h:=hid h
 refine aef yt ?_;refine ZN c ?_;simp only[P4,hc];refine ahl ?_;exact ag h.o;refine aef yt ?_;refine ZN c ?_;simp only[P4,hc];refine ahl ?_;exact ag h.o
abbrev Rdn:=List Ava
abbrev aH(r:Rdn):AV:=YL r none
def Of:Nat->List Rdn->Rdn->List UInt8->List Rdn×Int
 |0,_,_,_=>([],4)
 | f+1,out,now,s=>if out.length=32\/now.length=8 then ([],9) else match Jl s with
   |none=>([],4)
   | some (typ,rest)=>if vX typ=false then ([],4) else if DT now typ=true then ([],21) else match j7 [] false rest with
     |none=>([],4)
     | some (v,r2,ok)=>if ok=false then ([],4) else match r2 with
       |[]=>(out++[now++[(typ,v)]],0)
       |c::s'=>if c=44 then Of f (out++[now++[(typ,v)]]) [] s' else Of f out (now++[(typ,v)]) s'
def kH(s:List UInt8):List Rdn×Int:=if 4096<s.length then([],5)else if s=[]then([],0)else Of (s.length+1) [] [] s
def acI(p:List Rdn×Int):AV:=.tup [.sl (p.1.map aH) p.1.length none,.int .i64 p.2]
theorem TQ:∀{s a b:List UInt8},Jl s=some (a,b)->b.length<s.length/\a.length<=s.length
 |[],a,b,h=>by simp[Jl]at h
 | c::s,a,b,h=>by
   simp only[Jl]at h;split at h
   .simp only[aej,aet]at h;obtain⟨rfl,rfl⟩:=h;simp
   .split at h
    .cases h
    .rename_i a' b' hc;simp only[aej,aet]at h;obtain⟨rfl,rfl⟩:=h;have:=TQ hc;simp;omega
theorem Yc:∀(n:Nat){s b:List UInt8}{bl:Bool}{v r:List UInt8}{ok:Bool},s.length<=n->j7 b bl s=some (v,r,ok)->r.length<=s.length:=by
 intro n;induction n with
 | zero =>
   intro s b bl v r ok a h;obtain rfl:=ae2.1 (Nat.le_zero.1 a);rw[O3]at h;cases h;simp
 | succ n ih =>
   intro s b bl v r ok a h;cases s with
   |nil=>rw[O3]at h;cases h;simp
   | cons c s =>
     simp only[aeB]at a;by_cases g:c=44\/c=43
     .rw[L8 g]at h;cases h;simp
     by_cases f:c=92
     .subst f;cases s with
      |nil=>rw[QX]at h;cases h
      | cons d s =>
        by_cases hd:d∈JP
        .rw[L9 hd]at h;have:=ih (by simp at a;omega) h;simp;omega
        .cases s with
         |nil=>rw[QW hd]at h;cases h
         | cons e s =>
           rw[SD hd]at h;split at h
           .cases h
           .have:=ih (by simp at a;omega) h;simp;omega
     .rw[I6 g f]at h;split at h
      .cases h
      .have:=ih ahd h;simp;omega
section
variable {P:Program}{N:Nat}{own:Nat->Nat->Nat}{Q:Exit->Tm->List Blk->Prop}{T:Tm}{L:List Blk}
theorem abV{lc:aS}(t sz B:Nat){l:List AV}{n:Nat}{v:AV}(c:ar T t=some v)(f:B<L.length)(j:(v=.sl [] 0 (some 0)/\l=[]/\n=0)\/∃i,B<i/\v=.gsl l n i sz/\L[i]?=some (.spare n sz))(h:∀i X,B<i->(L++X)[i]?=some (.spare n sz)->AW P N own lc Q ((t,.gsl l n i sz)::T) (L++X)):AW P N own lc Q T L:=by
 rcases j with⟨rfl,rfl,rfl⟩|⟨i,a,rfl,g⟩;exact cB t sz c ahe (h L.length [.spare 0 sz] f ahe);have b:=h i [] a (by simpa using g);rw[aeL]at b;refine b.weakT λt' k e=>?_
 simp only[ar]at e;split at e;rename_i d;subst d;cases e;exact c;exact e
end
variable {L:List Blk}{K:aeh}
set_option maxHeartbeats 8000000
set_option maxRecDepth 100000
def aea(B:Nat)(r:Rdn)(v:AV)(L:List Blk):Prop:=(v=.sl [] 0 (some 0)/\bN r=[]/\r.length=0)\/∃i,B<i/\v=.gsl (bN r) r.length i 2/\L[i]?=some (.spare r.length 2)
theorem XP(r:Rdn)(t v:List UInt8):bN (r++[(t,v)])=bN r++[.str t,.str v]:=by simp[bN,Gx]
theorem yw(r:Rdn):AV.frzL (bN r)=bN r:=by
 induction r with
 |nil=>rfl
 |cons a r ih=>simpa[bN,Gx,AV.frzL,AV.frz]using ih
theorem yQ{L0 X:List Blk}{e:Int}{K:aeh}(h:K (acI ([],e)) L0):Fin L0 (.tup [.sl [] 0 (some 0),.int .i64 e]) (L0++X) K:=aB (af rfl h)
theorem b9(d:List Rdn):AV.frzL (d.map aH)=d.map aH:=by
 rw[AV.frzL_eq,aeH];refine afk λr _=>?_
 simp only[Function.comp,AV.frz,yw]
theorem XO(q:Nat->Bool)(r:Rdn):AV.refsL q (bN r)=true:=by
 induction r with
 |nil=>rfl
 |cons a r ih=>simpa[bN,Gx,AV.refsL,AV.refs]using ih
theorem eS(q:Nat->Bool):∀d:List Rdn,AV.refsL q (d.map aH)=true
 |[]=>rfl
 |r::d=>by simp only[aex,AV.refsL,AV.refs,XO,eS q d,Bool.and_self]
theorem O5(h:vX s=true):s.length<=32:=by simp only[vX,aeq,decide_eq_true_eq]at h;exact h.1.1.2
theorem acT{r:Rdn}{i n:Nat}(hr:r.length=n)(d:n<=8)(c:∀a∈r,a.1.length<=32)(e:typ.length<=4096)(h:K (.bool (DT r typ)) L):
  aeg 102 [.gsl (bN r) n i 2,.str typ] L K:=by
 subst hr;exact dT (by simpa only[AV.frzL,AV.frz,yw]using acb (cap:=none) ahd (λa b=>by have:=c a b;omega) ahd h)
theorem VY(h:K (acI (kH s)) L):aeg 118 [.str s] L K:=by
 refine aa QQ (by simp[Jz]) ?_;simp only[Jz,am];by_cases M:4096<s.length;have f1:(4096:Int)<(s.length:Int):=ahd;rw[kH,if_pos M]at h;replace h:=hid h;clear M;refine wk ?_;exact aB (ag h.o);have f1:¬(4096:Int)<(s.length:Int):=ahd;rw[kH,if_neg M]at h;by_cases h2:s=[];rw[if_pos h2]at h;replace h:=hid h;refine wk ?_;exact aB (ag h.o);rw[if_neg h2]at h;replace h:=hid h;have hs:=hid (show s.length<=4096 by omega);clear M;obtain⟨R,hR⟩:=aec (Of (s.length+1) [] [] s);rw[hR]at h;refine wk ?_;refine cB (l:=[]) (n:=0) 4 1 rfl (aeW 1).symm ?_;refine ao (λn T' L'=>∃(f m:Nat) (p:List Rdn) (j:Rdn) (u:List UInt8) (v:AV) (X:List Blk),f=n/\u.length<=4096/\m=p.length/\m<=32/\j.length<=8/\Hid (u.length<f/\Of f p j u=R/\(∀a∈j,a.1.length<=32)/\aea L.length j v L')/\L'[L.length]?=some (.spare m 1)/\T'=[(5,v),(4,.gsl (p.map aH) m L.length 1),(0,.str u)]/\L'=L++X) ahh ⟨s.length+1,0,[],[],s,_,[.spare 0 1],rfl,hs.o,rfl,ahd,ahe,hid ⟨ahd,hR,ahe,.inl ⟨rfl,rfl,rfl⟩⟩,ahe,rfl,rfl⟩ ?_;clear h2;clear hs;rintro _ _ _ ⟨f,m,p,j,u,v,X,rfl,hu,F,E,H,hI,ho,rfl,rfl⟩;obtain⟨hf,C,S,hv⟩:=hI.o;clear hI;clear hR;obtain⟨f,rfl⟩:∃g,f=g+1:=⟨f-1,ahd⟩;have V:L.length<(L++X).length:=(aei.1 ho).1;refine abV 5 2 L.length rfl V hv λi Y ab Q=>?_
 rw[aew]at Q⊢;have D:(L++(X++Y))[L.length]?=some (.spare m 1):=by rw[<- aew,aem V];exact ho
 generalize X++Y=Z at Q D⊢;clear ho V hv;have s5:∀A,(L++Z).set i A=L++Z.set (i-L.length) A:=λA=>aeZ _ _ ahd
 have s4:∀(W:List Blk) A,(L++W).set L.length A=L++W.set 0 A:=λW A=>by rw[aeZ _ _ (aek _),afW]
 have hz:i-L.length≠0:=ahd;have ad:∀A,(L++Z.set (i-L.length) A)[L.length]?=some (.spare m 1):=λA=>by rw[<- s5,aeo ahd];exact D
 have ai:∀A,(L++Z.set (i-L.length) A)[i]?=some A:=λA=>by rw[<- s5,aeV,if_pos rfl,if_pos (aei.1 Q).1]
 have ap:=hu;obtain⟨c,J⟩:∃c:Nat,j.length=c:=⟨_,rfl⟩;rw[Of]at C;rw[J]at C Q H⊢;by_cases y:p.length=32\/c=8;rw[if_pos y]at C;have d:=h.o;rw[<- C]at d;replace d:=hid d;have k:(m:Int)=32\/(m:Int)≠32/\(c:Int)=8:=ahd;clear C y;clear F;rcases k with k|⟨k,k'⟩;refine wk ?_;exact yQ d.o;refine wk ?_;exact yQ d.o;rw[if_neg y]at C;have k1:¬(m:Int)=32:=ahd;have k2:¬(c:Int)=8:=ahd;replace F:=hid F;clear y;replace C:=hid C;replace S:=hid S;refine wk ?_;refine adL ahd ?_;rcases hcut:Jl u with _|⟨typ,rest⟩;rw[show P4 u=.tup [.str u,.str [],.bool false]by simp only[P4,hcut]];have d:=h.o;rw[<- C.o,hcut]at d;simp only at d;replace d:=hid d;refine ahl ?_;exact yQ d.o;rw[show P4 u=.tup [.str typ,.str rest,.bool true]by simp only[P4,hcut]];have t:=C.o;rw[hcut]at t;simp only at t;have an:=TQ hcut;replace t:=hid t;clear hcut C;refine sk ?_;cases hty:vX typ with
 | false =>
   have d:=h.o;rw[<- t.o,if_pos hty]at d;replace d:=hid d;have kk1:=@hid _ @Ur;refine wk ?_;exact yQ d.o
 | true =>
   have B:=t.o;rw[if_neg (by rw[hty];simp)]at B;replace B:=hid B;clear t;have kk1:=@hid _ @Ur;refine wk ?_;refine acT J H S.o ahd ?_;cases hha:DT j typ with
   | true =>
     have d:=h.o;rw[<- B.o,if_pos hha]at d;replace d:=hid d;refine ahl ?_;exact yQ d.o
   | false =>
     have z:=B.o;rw[if_neg (by rw[hha];simp)]at z;replace z:=hid z;clear B;refine ahl ?_;refine aaB ahd ?_;rcases hvl:j7 [] false rest with _|⟨w,r2,al⟩
     .have d:=h.o;rw[<- z.o,hvl]at d;simp only at d;replace d:=hid d;simp only[WB];refine ahl ?_;exact yQ d.o
     .have q:=z.o;rw[hvl]at q;simp only at q;have T:=Yc _ (aek _) hvl;replace q:=hid q;clear z hvl;simp only[WB];refine sk ?_;cases al with
      | false =>
        have d:=h.o;rw[<- q.o,if_pos rfl]at d;replace d:=hid d;refine wk ?_;exact yQ d.o
      | true =>
        have r:=q.o;rw[if_neg ahe]at r;replace r:=hid r;clear q;have q1:(c+1)*32<=140737488355328:=ahd;have q2:c+1<=140737488355328:=ahd;have q3:(m+1)*24<=140737488355328:=ahd;have q4:m+1<=140737488355328:=ahd;have O:bN j++[AV.str typ,AV.str w]=bN (j++[(typ,w)]):=(XP _ _ _).symm;have P:p.map aH++[AV.sl (AV.frzL (bN j++[AV.str typ,AV.str w])) (c+1) none]=(p++[j++[(typ,w)]]).map aH:=by rw[O,yw,aeD];simp[J]
        have N:(p++[j++[(typ,w)]]).length=m+1:=(by simp[F.o]);have G:(j++[(typ,w)]).length=c+1:=(by simp[J]);have e5:∀a∈j++[(typ,w)],a.1.length<=32:=λa ha=>by
         rcases aen.1 ha with h|h
         .exact S.o a h
         .rw[aeG.1 h];exact O5 hty
        replace O:=hid O;replace P:=hid P;replace N:=hid N;replace G:=hid G;replace e5:=hid e5;cases r2 with
        | nil =>
          have d:=h.o;rw[<- r.o]at d;simp only at d;replace d:=hid d;refine wk ?_;rw[P.o];refine aB (af ?_ ?_)
          .simp only[AV.frz,AV.frzL,b9,AV.refs,AV.refsL,eS,Bool.and_self]
          .simp only[AV.frz,AV.frzL,b9];have:=d.o;simp only[acI,N.o]at this;exact this
        | cons x s' =>
          simp only at r;have q5:¬(x::s'=[]):=ahe;have q7:((s'.length:Int)+1).toNat-1=s'.length:=ahd;have I:s'.take (((s'.length:Int)+1).toNat-1)=s':=(by rw[q7,aeI]);simp only[aeB]at T;clear q7;replace I:=hid I;by_cases U:x=44
          .subst U;refine wk ?_;rw[I.o,P.o];refine ahi ?_ (CutS (b:=?_)) ⟨f,m+1,p++[j++[(typ,w)]],[],s',.sl [] 0 (some 0),_,rfl,ahd,N.o.symm,ahd,ahe,hid ⟨ahd,?_,ahe,.inl ⟨rfl,rfl,rfl⟩⟩,?_,rfl,rfl⟩
           .omega
           .have:=(aei.1 D).1;simp at this⊢;omega
           .rw[<- r.o,if_pos rfl]
           .have:=(aei.1 D).1;rw[<- s4,aeV,if_pos rfl,if_pos (by simp at this⊢;omega)]
          .have q6:¬(x.toNat:Int)=44:=λe=>U ((dO x 44).1 e)
           refine wk ?_;rw[I.o,O.o];refine ahi ?_ (CutS (b:=?_)) ⟨f,m,p,j++[(typ,w)],s',.gsl (bN (j++[(typ,w)])) (c+1) i 2,_,rfl,ahd,F.o,E,by rw[G.o];omega,hid ⟨ahd,?_,e5.o,.inr ⟨i,ab,by rw[G.o],by rw[G.o];exact ai _⟩⟩,ad _,rfl,rfl⟩
           .omega
           .have:=(aei.1 D).1;simp at this⊢;omega
           .rw[<- r.o,if_neg U]
def ez:Rdn->Rdn->Int
 |_,[]=>0
 |done,a::t=>if done.length=8 then 9 else if vX a.1=false then 20 else if DT done a.1=true then 21 else ez (done++[a]) t
def nH:Nat->List Rdn->Int
 |_,[]=>0
 |i,r::t=>if i=32 then 9 else if r=[]then 2 else if ez [] r≠0 then ez [] r else nH (i+1) t
theorem yD{d:List Rdn}{k:Nat}(h:k<d.length):(d.map aH).getD k .undef=aH (d.getD k []):=by simp[h]
theorem XN{r:Rdn}{k:Nat}:(bN r).take (k*2)=bN (r.take k):=by
 induction r generalizing k with
 |nil=>simp[bN]
 | cons a r ih =>
   cases k with
   |zero=>simp[bN]
   | succ k =>
     have:=@ih k;simp only[bN]at this;rw[show(k+1)*2=k*2+1+1 by omega];simp[bN,Gx,this]
theorem acS{r:Rdn}{n:Nat}(hr:r.length=n)(d:n<=8)(c:∀a∈r,a.1.length<=32)(e:typ.length<=32)(h:K (.bool (DT r typ)) L):
  aeg 102 [.sl (bN r) n cap,.str typ] L K:=by
 subst hr;exact acb ahd (λa b=>by have:=c a b;omega) ahd h
theorem abw{d:List Rdn}(W:d.length<=1100000)(hr:∀r∈d,r.length<=1100000)(h:K (.int .i64 (nH 0 d)) L):aeg 75 [.sl (d.map aH) d.length cap] L K:=by
 replace h:=hid h;have G:=hid (λk=>@yD d k);replace hr:=hid hr;refine aef QO ?_;refine ao (λn T' L'=>∃(i:Nat) (X:List Blk),n=d.length-i/\i<=d.length/\i<=32/\Hid (nH i (d.drop i)=nH 0 d)/\T'=[(9,.int .i64 (i:Int)),(8,.int .i64 d.length),(7,.sl (d.map aH) d.length cap)]/\L'=L++X) ahh ⟨0,[],rfl,aep _,ahd,hid rfl,rfl,ahe⟩ ?_;rintro _ _ _ ⟨i,X,rfl,hi,J,N,rfl,rfl⟩;by_cases m:i<d.length
 .have g1:(i:Int)<(d.length:Int):=ahd;have Z:=aee i ahd;have S:=G.o i m;have E:=hr.o (d.getD i []) (by rw[aeA,aeF m];exact afx _);obtain⟨r,x⟩:=aec (d.getD i []);have D:d.drop i=r::d.drop (i+1):=(by rw[ae3 m,<- x];simp[m]);rw[x]at S E;have b:=N.o;rw[D,nH]at b;clear D x;by_cases s:i=32;rw[if_pos s]at b;have c:=h.o;rw[<- b]at c;replace c:=hid c;have Q:(i:Int)=32:=ahd;have O:(32:Int)<(d.length:Int):=ahd;clear s b;refine wk ?_;exact af rfl c.o;rw[if_neg s]at b;have Q:¬(i:Int)=32:=ahd;by_cases w:r=[];rw[if_pos w]at b;subst w;have c:=h.o;rw[<- b]at c;replace c:=hid c;clear s b;refine wk ?_;exact af rfl c.o;rw[if_neg w]at b;have V:¬(r.length:Int)=0:=(by have:=afa.2 w;omega);have g:∀e:Int,ez [] r=e->e≠0->K (.int .i64 e) L:=λe M P=>by rw[if_pos (by rw[M];exact P),M]at b;rw[b];exact h.o
  replace g:=hid g;replace b:=hid b;clear s;refine wk ?_;refine ao (λn T' L'=>∃(k:Nat) (Y:List Blk),n=r.length-k/\k<=r.length/\k<=8/\Hid (ez (r.take k) (r.drop k)=ez [] r/\∀a∈r.take k,a.1.length<=32)/\T'=[(23,.int .i64 (k:Int)),(22,.int .i64 r.length),(21,aH r),(4,aH r),(9,.int .i64 (i:Int)),(8,.int .i64 d.length),(7,.sl (d.map aH) d.length cap)]/\L'=L++(X++Y)) ahh ⟨0,[],rfl,aep _,ahd,hid ⟨rfl,ahe⟩,rfl,ahe⟩ ?_;rintro _ _ _ ⟨k,Y,rfl,hk,R,p,rfl,rfl⟩;by_cases l:k<r.length
  .have g3:(k:Int)<(r.length:Int):=ahd;have g4:=aee k ahd;have I:=nA l;have e4:k*2+2<=(bN r).length:=(by rw[iE];omega);obtain⟨⟨ty,F⟩,A⟩:∃a,r.getD k ([],[])=a:=⟨_,rfl⟩;have C:r.drop k=(ty,F)::r.drop (k+1):=(by rw[ae3 l,<- A];simp[l]);have v:r.take (k+1)=r.take k++[(ty,F)]:=(by rw[aeM l,<- A];simp[l]);rw[A]at I;simp only[Gx]at I;obtain⟨j,u⟩:=p.o;rw[C,ez]at j;have z:(r.take k).length=k:=(by simp;omega);rw[z]at j;clear C A p;have e5:(bN r).take (k*2)=bN (r.take k):=XN;have g5:(k:Int)<=(r.length:Int):=ahd;replace j:=hid j;replace u:=hid u;replace v:=hid v;have U:=hid z;clear z
   repeat' first
    |refine kX ?_
    | (first|refine ju ahf ?_|refine fO ahf ?_|refine fR ?_|refine DR ?_|refine nQ (fun _=>?_)|refine dS ?_|refine jw ?_)
      refine sm ?_
    | (first|refine jo ahf ?_|refine iF ?_|refine fQ ?_|refine jv ?_|refine nW (dR ?_))
      refine sl ?_
    |exact nR
    |first|apply nS|apply jq|apply nT|apply jr|apply nV|apply jt
    |refine fU ?_
    |refine fP ?_
    |first|refine fS rfl ?_|refine fT rfl ?_|refine cG rfl ?_ ?_|refine ir rfl (λ_=>?_) (λ_=>?_)|refine iq rfl (λ_=>?_) (λ_=>?_)
    |((first|refine cF (λ_=>?_) (λ_=>?_)|refine dQ (λ_=>?_) (λ_=>?_))<;>try refine sm ?_)
    |refine And.intro trivial ?_
    |refine And.intro ahd ?_
    |refine eQ rfl (λ_=>?_) (λ_=>?_)
    |refine And.intro ?_ ?_
   rename_i T;have c:=g.o 9 (by rw[<- j.o,if_pos ahd]) (by decide);exact af rfl c;rename_i T;have f:=j.o;rw[if_neg ahd]at f;refine Ur ?_;cases hty:vX ty with
   | false =>
     have c:=hid (g.o 20 (by rw[<- f,if_pos hty]) (by decide));clear f;refine ahl ?_;exact af rfl c.o
   | true =>
     rw[if_neg (by rw[hty];simp)]at f;replace f:=hid f;have B:=O5 hty;refine ahl ?_;refine bq (acS U.o ahd u.o B ⟨rfl,rfl⟩) ?_;cases hha:DT (r.take k) ty with
     | true =>
       have c:=hid (g.o 21 (by rw[<- f.o,if_pos hha]) (by decide));refine ahl ?_;exact af rfl c.o
     | false =>
       have t:=f.o;rw[if_neg (by rw[hha];simp),<- v.o]at t;replace t:=hid t;clear f;refine ahl ?_;refine ahi ahd ahh ⟨k+1,Y++[.cells [.str ty,.str F]],rfl,l,ahd,hid ⟨t.o,λa A=>?_⟩,rfl,ahe⟩;rw[v.o]at A;rcases aen.1 A with h|h
       .exact u.o a h
       .rw[aeG.1 h];exact B
  have y:k=r.length:=ahd;subst y;have g3:¬(r.length:Int)<(r.length:Int):=ahd;have H:=p.o.1;rw[afR,ez]at H;have q:=b.o;rw[<- H]at q;simp only[ne_eq,not_true_eq_false,if_false]at q;replace q:=hid q;clear H;refine wk ?_;exact ahi ahd ahh ⟨i+1,X++Y,rfl,m,ahd,hid q.o,rfl,rfl⟩
 have y:i=d.length:=ahd;subst y;have g1:¬(d.length:Int)<(d.length:Int):=ahd;have c:=h.o;rw[<- N.o,afR,nH]at c;replace c:=hid c;refine wk ?_;exact af rfl c.o
end Go.Proofs.YtajkbcmleihaoaaGreatDoor.Av
namespace Go.Proofs
open Go.Shelf
def Tryz.lays190_ren:Go.Shelf.Ren:=⟨λ|190=>106|125=>99|258=>147|128=>140|129=>141|302=>169|303=>170|304=>171|305=>172|306=>173|307=>174|308=>175|309=>176|310=>177|333=>188|329=>163|330=>164|334=>189|335=>190|336=>142|344=>196|n=>n,λ|31=>56|9=>9|3=>3|46=>162|0=>0|51=>160|53=>58|4=>4|183=>211|182=>210|131=>215|5=>5|218=>239|222=>243|228=>257|229=>258|n=>n,λ|n=>n⟩
theorem Tryz.lays190:Go.Proofs.Lays.n190 Tryz.prog Tryz.lays190_ren:={
 mixed:=by kernel_rfl
 f125:=Tryz.func99.trans (congrArg some (by kernel_rfl))
 f128:=Tryz.func140.trans (congrArg some (by kernel_rfl))
 f129:=Tryz.func141.trans (congrArg some (by kernel_rfl))
 f190:=Tryz.func106.trans (congrArg some (by kernel_rfl))
 f258:=Tryz.func147.trans (congrArg some (by kernel_rfl))
 f302:=Tryz.func169.trans (congrArg some (by kernel_rfl))
 f303:=Tryz.func170.trans (congrArg some (by kernel_rfl))
 f304:=Tryz.func171.trans (congrArg some (by kernel_rfl))
 f305:=Tryz.func172.trans (congrArg some (by kernel_rfl))
 f306:=Tryz.func173.trans (congrArg some (by kernel_rfl))
 f307:=Tryz.func174.trans (congrArg some (by kernel_rfl))
 f308:=Tryz.func175.trans (congrArg some (by kernel_rfl))
 f309:=Tryz.func176.trans (congrArg some (by kernel_rfl))
 f310:=Tryz.func177.trans (congrArg some (by kernel_rfl))
 f329:=Tryz.func163.trans (congrArg some (by kernel_rfl))
 f330:=Tryz.func164.trans (congrArg some (by kernel_rfl))
 f333:=Tryz.func188.trans (congrArg some (by kernel_rfl))
 f334:=Tryz.func189.trans (congrArg some (by kernel_rfl))
 f335:=Tryz.func190.trans (congrArg some (by kernel_rfl))
 f336:=Tryz.func142.trans (congrArg some (by kernel_rfl))
 f344:=Tryz.func196.trans (congrArg some (by kernel_rfl))
 t0:=Tryz.underlying0
 a0:=Tryz.isAgg0
 z0:=Tryz.sizeOf0
 v0:=Tryz.zeroValue0
 t3:=Tryz.underlying3
 a3:=Tryz.isAgg3
 z3:=Tryz.sizeOf3
 v3:=Tryz.zeroValue3
 t4:=Tryz.underlying4
 a4:=Tryz.isAgg4
 z4:=Tryz.sizeOf4
 v4:=Tryz.zeroValue4
 t5:=Tryz.underlying5
 a5:=Tryz.isAgg5
 z5:=Tryz.sizeOf5
 v5:=Tryz.zeroValue5
 t9:=Tryz.underlying9
 a9:=Tryz.isAgg9
 z9:=Tryz.sizeOf9
 v9:=Tryz.zeroValue9
 t31:=Tryz.underlying56
 a31:=Tryz.isAgg56
 z31:=Tryz.sizeOf56
 v31:=Tryz.zeroValue56
 t46:=Tryz.underlying162
 a46:=Tryz.isAgg162
 z46:=Tryz.sizeOf162
 v46:=Tryz.zeroValue162
 t51:=Tryz.underlying160
 a51:=Tryz.isAgg160
 z51:=Tryz.sizeOf160
 v51:=Tryz.zeroValue160
 t53:=Tryz.underlying58
 a53:=Tryz.isAgg58
 z53:=Tryz.sizeOf58
 v53:=Tryz.zeroValue58
 t131:=Tryz.underlying215
 a131:=Tryz.isAgg215
 z131:=Tryz.sizeOf215
 v131:=Tryz.zeroValue215
 t182:=Tryz.underlying210
 a182:=Tryz.isAgg210
 z182:=Tryz.sizeOf210
 v182:=Tryz.zeroValue210
 t183:=Tryz.underlying211
 a183:=Tryz.isAgg211
 z183:=Tryz.sizeOf211
 v183:=Tryz.zeroValue211
 t218:=Tryz.underlying239
 a218:=Tryz.isAgg239
 z218:=Tryz.sizeOf239
 v218:=Tryz.zeroValue239
 t222:=Tryz.underlying243
 a222:=Tryz.isAgg243
 z222:=Tryz.sizeOf243
 v222:=Tryz.zeroValue243
 t228:=Tryz.underlying257
 a228:=Tryz.isAgg257
 z228:=Tryz.sizeOf257
 v228:=Tryz.zeroValue257
 t229:=Tryz.underlying258
 a229:=Tryz.isAgg258
 z229:=Tryz.sizeOf258
 v229:=Tryz.zeroValue258}
open Go.Sort Go.RowKit in
theorem Tryz.slices_Sort_string(blk off cap:Nat)(ss:List (List UInt8))(w:World)(c:Holds encStr w blk off ss.toArray)(a:blk<w.heap.size)(b:ss.length<4611686018427387904):
 Calls Tryz.prog 106 #[.slice (some ⟨blk,off,none⟩) ss.length cap] w λe w' =>
  e=.returned (.tuple #[])/\∃n os,w'=grow (putRow encStr (Sort.ahead w n) blk off (ss.mergeSort λx y=>decide (x<=y)).toArray) os:=Any.slices_Sort_string Tryz.lays190 blk off cap ss w c a b
open Go.RowKit Go.Sort in
theorem Tryz.slices_Sort_string_none(p:Option Addr)(cap:Nat)(w:World):
 Calls Tryz.prog 106 #[.slice p 0 cap] w λe w'=>e=.returned (.tuple #[])/\w'=w:=Any.slices_Sort_string_none Tryz.lays190 p cap w
end Go.Proofs
namespace Go.Proofs.YtajkbcmleihaoaaGreatDoor.Av
open Go Go.Sort
variable {L:List Blk}{K:aeh}
abbrev ay(xs:List (List UInt8)):List AV:=xs.map AV.str
theorem LJ{xs:List (List UInt8)}{sep:List UInt8}{cap:Option Nat}(G:xs.length<=1100000)(D:(Lib.join xs sep).length<=140737488355328)(h:K (.str (Lib.join xs sep)) L):
  aeg 95 [.sl (ay xs) xs.length cap,.str sep] L K :=
 iu Tryz.func95 rfl ahf (λw0 S0 E w vs z y=>by
  obtain⟨_,_,rfl,⟨p,c,rfl,t,_,A⟩,_,_,rfl,rfl,rfl⟩:=y;by_cases u:xs=[];subst u;exact(Tryz.strings_Join_none p c ⟨⟨sep⟩⟩ w).mono λe w' ⟨q,F⟩=>⟨_,q,by simp[VR,Lib.join],by subst F;exact Qy.refl _⟩
  rcases A with⟨H,_⟩|⟨b,o,rfl,f⟩;simp_all;have k:∀(j:Nat) x,(xs.map λs=>(⟨⟨s⟩⟩:ByteArray))[j]?=some x->w.cell? ⟨b,o+j,none⟩=some (.string x):=λj x m=>by rw[ae8]at m;rcases hxs:xs[j]? with _|s;simp_all;rw[hxs]at m;simp only[aeC,aej]at m;subst m;obtain⟨v,g1,C⟩:=f.get (i:=j) (a:=.str s) (by rw[ae8,hxs];rfl);subst C;exact z.mem _ _ _ g1
  have r:b<w.heap.size:=by have n:0<xs.length:=afa.2 u;have B:=k 0 ⟨⟨xs[0]⟩⟩ (by rw[ae8,aeF n];rfl);rcases aeN b w.heap.size with g|g;omega;simp[World.cell?,Array.getElem?_eq_none g]at B
  have l:(xs.map λs=>(⟨⟨s⟩⟩:ByteArray)).map (·.data.toList)=xs:=(by rw[aeH];exact List.map_id'' (λ_=>rfl) xs);have key:=Tryz.strings_Join b o c (xs.map λs=>(⟨⟨s⟩⟩:ByteArray)) ⟨⟨sep⟩⟩ w k r (by rw[aeu];omega) (by rw[aeu];exact t) (by rw[l];exact D);rw[l]at key;simp only[aeu]at key;exact key.mono λe w' ⟨q,d⟩=>⟨_,q,by simp[VR],⟨λb r=>d.block b r,d.size,d.os,d.tape,d.output⟩⟩) h
theorem Rel.putStrs{w0:World}{S0:SB}{E:Env}{L:List Blk}{w:World}(h:Rel w0 S0 E L w){i:Nat}{xs d:List (List UInt8)}{rest:List AV}{c:Loc}(n:L[i]?=some (.cells (ay xs++rest)))(k:E.loc i=some c)(hd:d.length=xs.length)(q:Nat):
  Rel w0 S0 E (L.set i (.cells (ay d++rest))) (putRow encStr (Sort.ahead w q) c.blk c.off d.toArray):=by
 obtain⟨c',cs,ty,fr,l,v,x,h4,z,s⟩:=h.blk i _ n;rw[k]at l;cases l;have o:(putRow encStr (Sort.ahead w q) c.blk c.off d.toArray).heap[c.blk]?=some (.cells (putCells encStr c.off d.toArray cs) ty fr):=by simp[putRow,mapBlock,Sort.ahead,af0,v,onCells]
 have m:(ay xs++rest).length=xs.length+rest.length:=ahe;refine h.turn (k':=.cells (ay d++rest)) n rfl k ahe (λb p=>?_) rfl rfl rfl ⟨c,_,ty,fr,k,o,by simp[putCells,x],?_,λj a y=>?_,s⟩ (λ_ _ e=>by cases e);have:c.blk≠b:=λe=>p e.symm
 simp[putRow,mapBlock,Sort.ahead,af0,this];simp_all;have A:j<d.length+rest.length:=by grind
 have f:c.off+j<cs.size:=ahd;have r:(putCells encStr c.off d.toArray cs)[c.off+j]?=some (if c.off<=c.off+j/\c.off+j<c.off+d.length then encStr (d.toArray[c.off+j-c.off]!)else cs[c.off+j]):=by simp[putCells,f]
 by_cases g:j<d.length;have u:a=.str d[j]:=by grind
 subst u;refine⟨_,r,?_⟩;simp[VR,encStr,g];have t:(ay xs++rest)[j]?=some a:=by simp_all
 grind
theorem Pb{w0:World}{S0:SB}{E:Env}{L:List Blk}{w:World}(h:Rel w0 S0 E L w){i:Nat}{xs:List (List UInt8)}{rest:List AV}{c:Loc}(f:L[i]?=some (.cells (ay xs++rest)))(m:E.loc i=some c):
  Holds encStr w c.blk c.off xs.toArray/\c.blk<w.heap.size:=by
 obtain⟨c',cs,ty,fr,d,b,n,h4,g,e⟩:=h.blk i _ f;rw[m]at d;cases d;refine⟨λj l=>?_,(ae1.1 b).1⟩;have a:j<xs.length:=by simpa using l
 obtain⟨v,g1,k⟩:=g j (.str xs[j]) (by rw[aem (by simpa using a)];simp[a]);subst k;refine⟨by simp[World.cell?,encStr,b,g1,a],?_⟩;have o:=e (c.off+j) ahd (by simp only[aez,aeu]at h4;omega);simp only[World.frozen?,b];simp_all
theorem jm{P:Program}{f:FuncId}{fn:Func}(b:P.funcs[f]?=some fn)(a:fn.body.isSome=true)(d:(fn.name == "runtime.NumGoroutine")=false)(args:Array Value)(w:World):(callFunc f args).run P w=.ok (.enter f args) w:=by
 simp only[callFunc,aer,run_program,aes,b,d];cases h:fn.body with
 |none=>simp[h]at a
 |some c=>simp
def dU(xs:List (List UInt8)):List (List UInt8):=xs.mergeSort λx y=>decide (x<=y)
theorem aaK{xs:List (List UInt8)}{i:Nat}{cp:Option Nat}{rest:List AV}(t:xs≠[])(u:xs.length<=1100000)(k:L[i]?=some (.cells (ay xs++rest)))(h:K (.tup []) (L.set i (.cells (ay (dU xs)++rest)))):
  aeg 106 [.lsl i 0 xs.length cp 1] L K:=λw0 S0 E w vs j p=>by
 obtain⟨_,_,rfl,⟨c,r,d,l,rfl,hd,s,_,_⟩,rfl⟩:=p;have g:0<xs.length:=afa.2 t;have a:d=c.off:=by have:=hd ahd;omega
 subst a;obtain⟨m,f⟩:=Pb j k l;refine .inl ⟨jm Tryz.func106 rfl ahf _ _,(Tryz.slices_Sort_string c.blk c.off r xs w m f ahd).mono ?_⟩;rintro e w' ⟨rfl,q,os,rfl⟩;have n:=j.putStrs k l (d:=dU xs) (by simp[dU]) q;refine⟨E,_,_,_,rfl,.refl E,h,by simp[VR,VRL],n.grown ?_⟩;exact⟨λb o=>agL o,by simp[grow],rfl,rfl,rfl⟩
theorem Yp{cap:Option Nat}(h:K (.tup []) L):aeg 106 [.sl [] 0 cap] L K :=
 iu Tryz.func106 rfl ahf (λw0 S0 E w vs f d=>by obtain⟨_,_,rfl,⟨p,c,rfl,_⟩,rfl⟩:=d;exact(Tryz.slices_Sort_string_none p c w).mono λe w' ⟨a,b⟩=>⟨_,a,by simp[VR,VRL],by subst b;exact Qy.refl _⟩) h
theorem abh{xs:List (List UInt8)}{sep:List UInt8}{i:Nat}{cp:Option Nat}(q:xs≠[])(C:xs.length<=1100000)(z:(Lib.join xs sep).length<=140737488355328)(t:L[i]?=some (.cells (ay xs)))(h:K (.str (Lib.join xs sep)) L):
  aeg 95 [.lsl i 0 xs.length cp 1,.str sep] L K:=λw0 S0 E w vs p v=>by
 obtain⟨_,_,rfl,⟨c,y,d,B,rfl,hd,n,_,_⟩,_,_,rfl,rfl,rfl⟩:=v;have o:0<xs.length:=afa.2 q;have l:d=c.off:=by have:=hd ahd;omega
 subst l;obtain⟨u,k⟩:=Pb (rest:=[]) p (by simpa using t) B;have f:∀(j:Nat) x,(xs.map λs=>(⟨⟨s⟩⟩:ByteArray))[j]?=some x->w.cell? ⟨c.blk,c.off+j,none⟩=some (.string x):=λj x A=>by have m:j<xs.length:=(by have:=(aei.1 A).1;simpa using this);have e:=(u j (by simpa using m)).1;simp_all
 have g:(xs.map λs=>(⟨⟨s⟩⟩:ByteArray)).map (·.data.toList)=xs:=by rw[aeH];exact List.map_id'' (λ_=>rfl) xs
 have key:=Tryz.strings_Join c.blk c.off y (xs.map λs=>(⟨⟨s⟩⟩:ByteArray)) ⟨⟨sep⟩⟩ w f k (by rw[aeu];omega) (by rw[aeu];exact n) (by rw[g];exact z);rw[g]at key;simp only[aeu]at key;refine .inl ⟨jm Tryz.func95 rfl ahf _ _,key.mono ?_⟩;rintro e w' ⟨rfl,a⟩;exact⟨E,_,_,_,rfl,.refl E,h,by simp[VR],p.grown ⟨λb r=>a.block b r,a.size,a.os,a.tape,a.output⟩⟩
end Go.Proofs.YtajkbcmleihaoaaGreatDoor.Av
set_option maxRecDepth 100000
namespace Go.Proofs.YtajkbcmleihaoaaGreatDoor.Av
open Go
def Nm:LSO:=[As 4]
def Nl:LSO:=[Aq 5]
def Nk:LSO:=[Aa 11 0,Af 12 11,Ab 13 0]
def Nj:LSO:=[Ap 14 13 12]
def Ni:LSO:=[Ak 15 1 11 13,Ac 16 1 15,Aa 7 16]
def Nh:LSO:=[Aq 8]
def Ng:LSO:=[Aa 17 7,Af 18 17,Ab 19 0]
def Nf:LSO:=[Ap 20 19 18]
def Nc:LSO:=[Ak 21 2 17 19,Ay 22 2 21,BK 10,Ai 2 10 22]
def Nb:LSO:=[Aa 23 1]
def KD:List (aj×Kd):=
 [Au 24 0 10,Aw 25 1 24 0 0,AP 26 103 25 0 0,Au 27 1 10,Aw 28 1 27 0 0]
def Ir:List aj :=
 [⟨(some 29),(.call 104 [(tm 28)]),none⟩,⟨(some 30),(.build [(.str []),(.str [])] [(0,(1,(tm 26))),(1,(1,(tm 29)))]),none⟩,⟨none,(.store 2 (tm 10) (tm 30)),none⟩]
def KC:List (aj×Kd):=
 [Ar 31 8,Au 32 0 10,Aw 33 1 32 0 0,od 34 (.bin .add (tm 33) (.av (.str [61]))) .pure,Au 35 1 10,Aw 36 1 35 0 0,AP 37 105 36 0 0,Bg 38 34 37,
 od 39 (.bslice false 1 1 [(.str [])] [(0,(1,(tm 38)))]) (.read 0 0)]
def Iq:List aj :=
 [⟨(some 40),(.app 2 1 16 [(.str [])] (tm 31) (tm 39)),none⟩,⟨(some 8),(.mv (tm 40)),none⟩]
def KB:LSO:=[Aj 41 19 1,Aa 19 41]
def KA:LSO:=[Aa 42 1]
def Kz:LSO:=[Aa 43 8,Ag 44 106 43]
def Ky:LSO:=[Aa 45 5,Aa 46 8,o1 47 (.call 95 [(tm 46),(.av (.str [43]))]),AK 48 47,Be 49 45 48,Aa 5 49]
def Kx:LSO:=[Aj 50 13 1,Aa 13 50]
def Kw:LSO:=[Aa 51 5,o1 52 (.call 95 [(tm 51),(.av (.str [44]))]),Aa 4 52]
def yu:aI:=⟨53,(ag6 Nm [] (ag6 Nl [] (.seq (ag6 Nk [] (ag9 0 (ag6 Nj [] (.seq (aha 14 0) (.seq (.block 1 (ag6 Ni Cd (ag6 Nh [] (.seq (ag6 Ng [] (ag9 2 (ag6 Nf [] (.seq (aha 20 2) (.seq (.block 3 (ag6 Nc Cd (.seq (ag6 Nb [] (ag7 23 (.dregM KD Ir C1) .skip)) (.dregM KC Iq Cu)))) (.sreg KB Cc)))))) (.seq (ag6 KA [] (ag7 42 (.sreg Kz Cw) .skip)) (.sreg Ky Ch)))))) (.sreg Kx Cc)))))) (ag6 Kw Cd .ret)))),[(.tmp 4)]⟩
attribute [push_cast] Nm Nl Nk Nj Ni Nh Ng Nf Nc Nb KD Ir KC Iq KB KA Kz Ky Kx Kw
theorem LU:aL Tryz.prog (λr i=>if r=11/\i=9 then 2 else 1) 76=some yu.raw:=ahf
attribute [push_cast] yu
variable {L:List Blk}{K:aeh}
set_option maxHeartbeats 8000000
set_option maxRecDepth 100000
def avT(key:Bool)(a:Ava):List UInt8:=if key=true then aE a.1++[61]++kg (bC a.2)else a.1++[61]++kg a.2
def cE(key:Bool)(r:Rdn):List UInt8:=Lib.join (if key=true then dU (r.map (avT key))else r.map (avT key)) [43]
def aN(key:Bool)(d:List Rdn):List UInt8:=Lib.join (d.map (cE key)) [44]
theorem OH(n:Nat):∀(s:List UInt8) (i:Nat),(wrL n i s).length<=3*s.length
 |[],_=>by simp[wrL]
 |c::s,i=>by have a:=OH n s (i+1);have b:=aax i n c;simp only[wrL,aez,aeB];omega
theorem WG(l:List (List UInt8)):AV.frzL (ay l)=ay l:=by rw[AV.frzL_eq,aeH];rfl
theorem Wc{xs:List (List UInt8)}{sep:List UInt8}{i n:Nat}(b:n=xs.length)(a:xs.length<=1100000)(c:(Lib.join xs sep).length<=140737488355328)(h:K (.str (Lib.join xs sep)) L):
  aeg 95 [.gsl (ay xs) n i 1,.str sep] L K:=by
 subst b;exact dT (by simpa only[AV.frzL,AV.frz,WG]using LJ (cap:=none) a c h)
theorem Tx{xs:List (List UInt8)}{sep:List UInt8}{i n:Nat}{cp:Option Nat}(c:n=xs.length)(d:xs≠[])(a:xs.length<=1100000)(b:(Lib.join xs sep).length<=140737488355328)(e:L[i]?=some (.cells (ay xs)))(h:K (.str (Lib.join xs sep)) L):
  aeg 95 [.lsl i 0 n cp 1,.str sep] L K:=by
 subst c;exact abh d a b e h
theorem aaH{d:List Rdn}{cap:Option Nat}(hn:d.length<=1000)(hr:∀r∈d,r.length<=1000/\∀a∈r,a.1.length<=10000/\a.2.length<=10000)(F:∀r∈d,(cE false r).length<=140737488355328)(R:(aN false d).length<=140737488355328)(h:K (.str (aN false d)) L):
  aeg 76 [.sl (d.map aH) d.length cap,.bool false] L K:=by
 replace h:=hid h;have ai:=hid (λk=>@yD d k);replace hr:=hid hr;replace F:=hid F;have T:∀(W:List Blk) (j:Nat) (A:Blk),L.length<=j->(L++W).set j A=L++W.set (j-L.length) A:=λW j A D=>aeZ _ _ D
 replace T:=hid T;refine aef LU ?_;refine cB (l:=[]) (n:=0) 5 1 rfl (aeW 1).symm ?_;refine ao (λn T' L'=>∃(i:Nat) (all:List (List UInt8)) (Z:List Blk),n=d.length-i/\i<=d.length/\Hid (all=(d.take i).map (cE false))/\L'[L.length]?=some (.spare i 1)/\T'=[(13,.int .i64 (i:Int)),(12,.int .i64 d.length),(11,.sl (d.map aH) d.length cap),(5,.gsl (ay all) i L.length 1),(1,.bool false)]/\L'=L++Z) ahh ⟨0,[],[.spare 0 1],rfl,aep _,hid rfl,ahe,rfl,rfl⟩ ?_;rintro _ _ _ ⟨i,all,X,rfl,hi,y,ho,rfl,rfl⟩;by_cases t:i<d.length
 .have g1:(i:Int)<(d.length:Int):=ahd;have g2:=aee i ahd;have e2:=ai.o i t;have M:d.getD i []∈d:=(by rw[aeA,aeF t];exact afx _);have Q:=hr.o _ M;have J:=F.o _ M;obtain⟨r,H⟩:=aec (d.getD i []);have G:d.take (i+1)=d.take i++[r]:=(by rw[aeM t,<- H];simp[t]);rw[H]at e2 Q J;clear H M;obtain⟨an,x⟩:=Q;replace x:=hid x;replace G:=hid G;have V:=(aei.1 ho).1;rw[aez]at V;replace V:=hid V;refine wk ?_;refine ao (λn T' L'=>∃(k:Nat) (v:AV) (Z:List Blk),n=r.length-k/\k<=r.length/\X.length<=Z.length/\L'[L.length]?=some (.spare i 1)/\Hid ((v=.sl [] 0 (some 0)/\k=0)\/∃j,(0<k/\L.length<j)/\v=.lsl j 0 k none 1/\L'[j]?=some (.cells (ay ((r.take k).map (avT false)))))/\T'=[(19,.int .i64 (k:Int)),(18,.int .i64 r.length),(17,aH r),(8,v),(13,.int .i64 (i:Int)),(12,.int .i64 d.length),(11,.sl (d.map aH) d.length cap),(5,.gsl (ay all) i L.length 1),(1,.bool false)]/\L'=L++Z) ahh ⟨0,_,X,rfl,aep _,aek _,ho,hid (.inl ⟨rfl,rfl⟩),rfl,rfl⟩ ?_;rintro _ _ _ ⟨k,v,Z,rfl,hk,w,m,hv,rfl,rfl⟩;replace w:=hid w;by_cases u:k<r.length
  .have g3:(k:Int)<(r.length:Int):=ahd;have g4:=aee k ahd;have e3:=nA u;have e4:k*2+2<=(bN r).length:=(by rw[iE];omega);obtain⟨⟨ty,z⟩,U⟩:∃a,r.getD k ([],[])=a:=⟨_,rfl⟩;have P:(ty,z)∈r:=(by rw[<- U];simp[u]);have s:(r.take (k+1)).map (avT false)=(r.take k).map (avT false)++[ty++61::kg z]:=by rw[aeM u];have:r[k]=(ty,z):=(by rw[<- U];simp[u]);rw[this];simp[avT]
   rw[U]at e3;simp only[Gx]at e3;have N:=x.o _ P;simp only at N;have g:z.length<=100000:=ahd;have al:=OH z.length z 0;have b1:(ty.length:Int)+1<=9223372036854775807:=ahd;have b2:(ty.length:Int)+1+((kg z).length:Int)<=9223372036854775807:=(by unfold kg;omega);clear al U P N;replace s:=hid s;have q1:(k+1)*16<=140737488355328:=ahd;have q2:k+1<=140737488355328:=ahd;have q3:k<=140737488355327:=ahd;rcases hv.o with⟨rfl,c⟩|⟨j,⟨E,ad⟩,rfl,D⟩;replace c:=hid c;have kk1:=@ahk _ _ _ _ (fV g);refine wk ?_;refine ahi ahd (CutL (b:=?_)) ⟨k+1,.lsl (L.length+(Z.length+1)) 0 1 none 1,_,rfl,u,?_,?_,hid (.inr ⟨L.length+(Z.length+1),⟨ahd,ahd⟩,by rw[c.o],?_⟩),rfl,rfl⟩;have:=w.o;simp;omega;have:=w.o;simp;omega;rw[<- aew,aem (aei.1 m).1];exact m;rw[yP,yP,s.o,c.o];rfl
   .obtain⟨cur,f⟩:=aec ((r.take k).map (avT false));have B:cur.length=k:=(by rw[<- f];simp;omega);rw[f]at D;have O:(L++(Z++[Blk.cells [.str ty,.str z]]))[j]?=some (.cells (ay cur)):=by rw[<- aew,aem (aei.1 D).1];exact D
    have f2:(L++(Z++[Blk.cells [.str ty,.str z]])).set j .dead=L++(Z++[Blk.cells [.str ty,.str z]]).set (j-L.length) .dead:=T.o _ _ _ ahd;have f3:k<=(ay cur).length:=(by simp[B]);have f4:(ay cur).take k=ay cur:=aeO (by simp[B]);replace f:=hid f;replace B:=hid B;have ab:=hid (show j≠L.length by omega);have Y:=hid f2
    repeat' first
     |refine kX ?_
     | (first|refine ju ahf ?_|refine fO ahf ?_|refine fR ?_|refine DR ?_|refine nQ (fun _=>?_)|refine dS ?_|refine jw ?_|refine fV g ?_|refine dv (fV g ⟨rfl,rfl⟩) (fV g ⟨rfl,rfl⟩) ?_|refine bq (fV g ⟨rfl,rfl⟩) ?_)
       refine sm ?_
     | (first|refine jo ahf ?_|refine iF ?_|refine fQ ?_|refine jv ?_|refine nW (dR ?_))
       refine sl ?_
     |exact nR
     |first|apply nS|apply jq|apply nT|apply jr|apply nV|apply jt
     |refine fU ?_
     |refine fP ?_
     |first|refine fS rfl ?_|refine fT rfl ?_|refine cG rfl ?_ ?_|refine ir rfl (λ_=>?_) (λ_=>?_)|refine iq rfl (λ_=>?_) (λ_=>?_)
     |((first|refine cF (λ_=>?_) (λ_=>?_)|refine dQ (λ_=>?_) (λ_=>?_))<;>try refine sm ?_)
     |refine And.intro trivial ?_
     |refine And.intro ahd ?_
     |refine eQ rfl (λ_=>?_) (λ_=>?_)
     |refine And.intro ?_ ?_
    rw[B.o];exact aek _;have hA:((Z++[Blk.cells [.str ty,.str z]]).set (j-L.length) .dead).length=Z.length+1:=ahe;refine ahi ahd (CutL (b:=?_)) ⟨k+1,.lsl (L.length+(Z.length+1)) 0 (k+1) none 1,_,rfl,u,?_,?_,hid (.inr ⟨L.length+(Z.length+1),⟨ahd,ahd⟩,rfl,?_⟩),rfl,rfl⟩;have:=w.o;simp;omega;have:=w.o;simp;omega;rw[<- aew,<- Y.o,aem ahe,aeo ab.o,<- aew,aem (aei.1 m).1];exact m;rw[yP,<- hA,R5,s.o,f.o];simp
  have I:k=r.length:=ahd;subst I;have g3:¬(r.length:Int)<(r.length:Int):=ahd;have q4:(i+1)*16<=140737488355328:=ahd;have q5:i+1<=140737488355328:=ahd;have q:cE false r=Lib.join (r.map (avT false)) [43]:=(by simp[cE]);rw[q]at J;have p:(d.take (i+1)).map (cE false)=all++[Lib.join (r.map (avT false)) [43]]:=by rw[G.o,aeD,<- y.o,<- q];rfl
  have f0:(L++Z).set L.length (.spare (i+1) 1)=L++Z.set 0 (.spare (i+1) 1):=(by rw[T.o _ _ _ (aek _),afW]);have O:(L++Z.set 0 (.spare (i+1) 1))[L.length]?=some (.spare (i+1) 1):=by rw[<- f0,aeV,if_pos rfl,if_pos (aei.1 m).1]
  replace q:=hid q;replace p:=hid p;replace O:=hid O;rcases hv.o with⟨rfl,c⟩|⟨j,⟨E,ad⟩,rfl,D⟩;have C:r=[]:=ae2.1 c;replace c:=hid c;refine wk ?_;refine LJ (xs:=[]) ahe (by simp[Lib.join]) ?_;refine ahl ?_;rw[show ay all++[AV.str (Lib.join [] [43])]=ay (all++[Lib.join [] [43]])by simp];exact ahi ahd (CutL (b:=by have:=V.o;have h0:=(aei.1 m).1;simp at h0⊢;omega)) ⟨i+1,all++[Lib.join [] [43]],_,rfl,t,hid (by rw[p.o,C];rfl),O.o,rfl,rfl⟩;rw[aeI]at D;by_cases C:r=[];rw[C]at E;cases E;refine wk ?_;refine Tx (xs:=r.map (avT false)) ahe (by simpa using C) (by simp;omega) J (by simpa using D) ?_;refine ahl ?_;rw[show ay all++[AV.str (Lib.join (r.map (avT false)) [43])]=ay (all++[Lib.join (r.map (avT false)) [43]])by simp];exact ahi ahd (CutL (b:=by have h0:=(aei.1 m).1;simp at h0⊢;omega)) ⟨i+1,all++[Lib.join (r.map (avT false)) [43]],_,rfl,t,hid p.o.symm,O.o,rfl,rfl⟩
 have I:i=d.length:=ahd;subst I;have g1:¬(d.length:Int)<(d.length:Int):=ahd;have e:=y.o;rw[aeI]at e;have S:=h.o;simp only[aN]at S R;replace S:=hid S;clear y;subst e;refine wk ?_;refine Wc ahe (by simp;omega) R ?_;refine ahl ?_;exact af rfl S.o
theorem UG(s:List UInt8):(bL s).length<=s.length:=by have:=yg s s.length;rwa[aeI]at this
theorem Rc(s:List UInt8):(bC s).length<=s.length:=by
 have a:=UG (aE s);have b:(aE s).length=s.length:=by simp[aE]
 unfold bC eA;split;simp only[List.length_dropLast];omega;omega
theorem Yo{xs:List (List UInt8)}{i n:Nat}{cp:Option Nat}(b:n=xs.length)(c:xs≠[])(a:xs.length<=1100000)(d:L[i]?=some (.cells (ay xs)))(h:K (.tup []) (L.set i (.cells (ay (dU xs))))):
  aeg 106 [.lsl i 0 n cp 1] L K:=by
 subst b;exact aaK (rest:=[]) c a (by simpa using d) (by simpa using h)
theorem Q1(xs:List (List UInt8)):(dU xs).length=xs.length:=by simp[dU]
theorem VK{d:List Rdn}{cap:Option Nat}(hn:d.length<=1000)(hr:∀r∈d,r.length<=1000/\∀a∈r,a.1.length<=10000/\a.2.length<=10000)(P:∀r∈d,(cE true r).length<=140737488355328)(al:(aN true d).length<=140737488355328)(h:K (.str (aN true d)) L):
  aeg 76 [.sl (d.map aH) d.length cap,.bool true] L K:=by
 replace h:=hid h;have a0:=hid (λk=>@yD d k);replace hr:=hid hr;replace P:=hid P;have Y:∀(W:List Blk) (j:Nat) (A:Blk),L.length<=j->(L++W).set j A=L++W.set (j-L.length) A:=λW j A D=>aeZ _ _ D
 replace Y:=hid Y;refine aef LU ?_;refine cB (l:=[]) (n:=0) 5 1 rfl (aeW 1).symm ?_;refine ao (λn T' L'=>∃(i:Nat) (all:List (List UInt8)) (Z:List Blk),n=d.length-i/\i<=d.length/\Hid (all=(d.take i).map (cE true))/\L'[L.length]?=some (.spare i 1)/\T'=[(13,.int .i64 (i:Int)),(12,.int .i64 d.length),(11,.sl (d.map aH) d.length cap),(5,.gsl (ay all) i L.length 1),(1,.bool true)]/\L'=L++Z) ahh ⟨0,[],[.spare 0 1],rfl,aep _,hid rfl,ahe,rfl,rfl⟩ ?_;rintro _ _ _ ⟨i,all,X,rfl,hi,F,ho,rfl,rfl⟩;by_cases y:i<d.length
 .have g1:(i:Int)<(d.length:Int):=ahd;have g2:=aee i ahd;have e2:=a0.o i y;have V:d.getD i []∈d:=(by rw[aeA,aeF y];exact afx _);have ai:=hr.o _ V;have I:=P.o _ V;obtain⟨r,R⟩:=aec (d.getD i []);have Q:d.take (i+1)=d.take i++[r]:=(by rw[aeM y,<- R];simp[y]);rw[R]at e2 ai I;clear R V;obtain⟨a4,E⟩:=ai;replace E:=hid E;replace Q:=hid Q;have hX:=(aei.1 ho).1;rw[aez]at hX;replace hX:=hid hX;refine wk ?_;refine ao (λn T' L'=>∃(k:Nat) (v:AV) (Z:List Blk),n=r.length-k/\k<=r.length/\X.length<=Z.length/\L'[L.length]?=some (.spare i 1)/\Hid ((v=.sl [] 0 (some 0)/\k=0)\/∃j,(0<k/\L.length<j)/\v=.lsl j 0 k none 1/\L'[j]?=some (.cells (ay ((r.take k).map (avT true)))))/\T'=[(19,.int .i64 (k:Int)),(18,.int .i64 r.length),(17,aH r),(8,v),(13,.int .i64 (i:Int)),(12,.int .i64 d.length),(11,.sl (d.map aH) d.length cap),(5,.gsl (ay all) i L.length 1),(1,.bool true)]/\L'=L++Z) ahh ⟨0,_,X,rfl,aep _,aek _,ho,hid (.inl ⟨rfl,rfl⟩),rfl,rfl⟩ ?_;rintro _ _ _ ⟨k,v,Z,rfl,hk,B,s,hv,rfl,rfl⟩;replace B:=hid B;by_cases z:k<r.length
  .have g3:(k:Int)<(r.length:Int):=ahd;have g4:=aee k ahd;have e3:=nA z;have e4:k*2+2<=(bN r).length:=(by rw[iE];omega);obtain⟨⟨ty,C⟩,ha⟩:∃a,r.getD k ([],[])=a:=⟨_,rfl⟩;have ad:(ty,C)∈r:=(by rw[<- ha];simp[z]);have x:(r.take (k+1)).map (avT true)=(r.take k).map (avT true)++[aE ty++61::kg (bC C)]:=by rw[aeM z];have:r[k]=(ty,C):=(by rw[<- ha];simp[z]);rw[this];simp[avT]
   rw[ha]at e3;simp only[Gx]at e3;have ab:=E.o _ ad;simp only at ab;have a3:=Rc C;have q:(bC C).length<=100000:=ahd;have f:(C.length:Int)<=100000:=ahd;have p:(ty.length:Int)<=100000:=ahd;have a1:=OH (bC C).length (bC C) 0;have a2:(aE ty).length=ty.length:=(by simp[aE]);have b1:((aE ty).length:Int)+1<=9223372036854775807:=ahd;have b2:((aE ty).length:Int)+1+((kg (bC C)).length:Int)<=9223372036854775807:=(by unfold kg;omega);clear a1 ha ad ab a2 a3;replace x:=hid x;have q1:(k+1)*16<=140737488355328:=ahd;have q2:k+1<=140737488355328:=ahd;have q3:k<=140737488355327:=ahd;rcases hv.o with⟨rfl,c⟩|⟨j,⟨O,av⟩,rfl,D⟩;replace c:=hid c;have kk1:=@ahk _ _ _ _ (Gf p);have kk2:=@ahk _ _ _ _ (Pj f);have kk3:=@ahk _ _ _ _ (fV q);refine wk ?_;refine ahi ahd (CutL (b:=?_)) ⟨k+1,.lsl (L.length+(Z.length+1)) 0 1 none 1,_,rfl,z,?_,?_,hid (.inr ⟨L.length+(Z.length+1),⟨ahd,ahd⟩,by rw[c.o],?_⟩),rfl,rfl⟩;have:=B.o;simp;omega;have:=B.o;simp;omega;rw[<- aew,aem (aei.1 s).1];exact s;rw[yP,yP,x.o,c.o];rfl
   .obtain⟨cur,g⟩:=aec ((r.take k).map (avT true));have H:cur.length=k:=(by rw[<- g];simp;omega);rw[g]at D;have M:(L++(Z++[Blk.cells [.str (aE ty),.str (bC C)]]))[j]?=some (.cells (ay cur)):=by rw[<- aew,aem (aei.1 D).1];exact D
    have N:(L++(Z++[Blk.cells [.str (aE ty),.str (bC C)]])).set j .dead=L++(Z++[Blk.cells [.str (aE ty),.str (bC C)]]).set (j-L.length) .dead:=Y.o _ _ _ ahd;have f3:k<=(ay cur).length:=(by simp[H]);have f4:(ay cur).take k=ay cur:=aeO (by simp[H]);replace g:=hid g;replace H:=hid H;have ap:=hid (show j≠L.length by omega);have an:=hid N
    repeat' first
     |refine kX ?_
     | (first|refine ju ahf ?_|refine fO ahf ?_|refine fR ?_|refine DR ?_|refine nQ (fun _=>?_)|refine dS ?_|refine jw ?_|refine Gf p ?_|refine Pj f ?_|refine fV q ?_|refine dv (Gf p ⟨rfl,rfl⟩) (Gf p ⟨rfl,rfl⟩) ?_|refine dv (Pj f ⟨rfl,rfl⟩) (Pj f ⟨rfl,rfl⟩) ?_|refine dv (fV q ⟨rfl,rfl⟩) (fV q ⟨rfl,rfl⟩) ?_|refine bq (Gf p ⟨rfl,rfl⟩) ?_|refine bq (Pj f ⟨rfl,rfl⟩) ?_|refine bq (fV q ⟨rfl,rfl⟩) ?_)
       refine sm ?_
     | (first|refine jo ahf ?_|refine iF ?_|refine fQ ?_|refine jv ?_|refine nW (dR ?_))
       refine sl ?_
     |exact nR
     |first|apply nS|apply jq|apply nT|apply jr|apply nV|apply jt
     |refine fU ?_
     |refine fP ?_
     |first|refine fS rfl ?_|refine fT rfl ?_|refine cG rfl ?_ ?_|refine ir rfl (λ_=>?_) (λ_=>?_)|refine iq rfl (λ_=>?_) (λ_=>?_)
     |((first|refine cF (λ_=>?_) (λ_=>?_)|refine dQ (λ_=>?_) (λ_=>?_))<;>try refine sm ?_)
     |refine And.intro trivial ?_
     |refine And.intro ahd ?_
     |refine eQ rfl (λ_=>?_) (λ_=>?_)
     |refine And.intro ?_ ?_
    rw[H.o];exact aek _;have hA:((Z++[Blk.cells [.str (aE ty),.str (bC C)]]).set (j-L.length) .dead).length=Z.length+1:=ahe;refine ahi ahd (CutL (b:=?_)) ⟨k+1,.lsl (L.length+(Z.length+1)) 0 (k+1) none 1,_,rfl,z,?_,?_,hid (.inr ⟨L.length+(Z.length+1),⟨ahd,ahd⟩,rfl,?_⟩),rfl,rfl⟩;have:=B.o;simp;omega;have:=B.o;simp;omega;rw[<- aew,<- an.o,aem ahe,aeo ap.o,<- aew,aem (aei.1 s).1];exact s;rw[yP,<- hA,R5,x.o,g.o];simp
  have T:k=r.length:=ahd;subst T;have g3:¬(r.length:Int)<(r.length:Int):=ahd;have q4:(i+1)*16<=140737488355328:=ahd;have q5:i+1<=140737488355328:=ahd;have w:cE true r=Lib.join (dU (r.map (avT true))) [43]:=(by simp[cE]);rw[w]at I;have m:(d.take (i+1)).map (cE true)=all++[Lib.join (dU (r.map (avT true))) [43]]:=by rw[Q.o,aeD,<- F.o,<- w];rfl
  replace w:=hid w;replace m:=hid m;rcases hv.o with⟨rfl,c⟩|⟨j,⟨O,av⟩,rfl,D⟩;have S:r=[]:=ae2.1 c;have f0:(L++Z).set L.length (.spare (i+1) 1)=L++Z.set 0 (.spare (i+1) 1):=(by rw[Y.o _ _ _ (aek _),afW]);have M:(L++Z.set 0 (.spare (i+1) 1))[L.length]?=some (.spare (i+1) 1):=by rw[<- f0,aeV,if_pos rfl,if_pos (aei.1 s).1]
  replace M:=hid M;replace c:=hid c;refine wk ?_;refine Yp ?_;refine ahl ?_;refine LJ (xs:=[]) ahe (by simp[Lib.join]) ?_;refine ahl ?_;rw[show ay all++[AV.str (Lib.join [] [43])]=ay (all++[Lib.join [] [43]])by simp];exact ahi ahd (CutL (b:=by have:=hX.o;have h0:=(aei.1 s).1;simp at h0⊢;omega)) ⟨i+1,all++[Lib.join [] [43]],_,rfl,y,hid (by rw[m.o,S];simp[dU]),M.o,rfl,rfl⟩;rw[aeI]at D;have S:r≠[]:=λe=>by rw[e]at O;cases O
  obtain⟨xs,J⟩:=aec (r.map (avT true));have t:r.length=xs.length:=(by rw[<- J];simp);have u:xs≠[]:=λe=>S (by have:=t;rw[e]at this;exact ae2.1 this)
  rw[J]at D I m;have G:=Q1 xs;have a5:L.length+(j-L.length)=j:=ahd;have N:(L++Z).set j (.cells (ay (dU xs)))=L++Z.set (j-L.length) (.cells (ay (dU xs))):=Y.o _ _ _ ahd;have f3:(L++Z.set (j-L.length) (.cells (ay (dU xs))))[j]?=some (.cells (ay (dU xs))):=by rw[<- N,aeV,if_pos rfl,if_pos (aei.1 D).1]
  have U:(L++Z.set (j-L.length) (.cells (ay (dU xs))))[L.length]?=some (.spare i 1):=by rw[<- N,aeo ahd];exact s
  clear s;replace D:=hid D;generalize hZ1:Z.set (j-L.length) (.cells (ay (dU xs)))=Z1 at N f3 U;have f0:(L++Z1).set L.length (.spare (i+1) 1)=L++Z1.set 0 (.spare (i+1) 1):=(by rw[Y.o _ _ _ (aek _),afW]);have M:(L++Z1.set 0 (.spare (i+1) 1))[L.length]?=some (.spare (i+1) 1):=by rw[<- f0,aeV,if_pos rfl,if_pos (aei.1 U).1]
  replace M:=hid M;replace N:=hid N;replace f3:=hid f3;replace J:=hid J;replace t:=hid t;replace G:=hid G;clear hZ1;replace u:=hid u;refine wk ?_;refine Yo t.o u.o (by have:=t.o;omega) D.o ?_;rw[N.o];refine ahl ?_;refine Tx (xs:=dU xs) (by rw[G.o];exact t.o) (λe=>u.o (by have:=G.o;rw[e]at this;exact ae2.1 this.symm)) (by have:=t.o;rw[G.o];omega) I f3.o ?_;refine ahl ?_;rw[show ay all++[AV.str (Lib.join (dU xs) [43])]=ay (all++[Lib.join (dU xs) [43]])by simp];exact ahi ahd (CutL (b:=by have h0:=(aei.1 U).1;simp at h0⊢;omega)) ⟨i+1,all++[Lib.join (dU xs) [43]],_,rfl,y,hid m.o.symm,M.o,rfl,rfl⟩
 have T:i=d.length:=ahd;subst T;have g1:¬(d.length:Int)<(d.length:Int):=ahd;have e:=F.o;rw[aeI]at e;have h':=h.o;simp only[aN]at h' al;replace h':=hid h';clear F;subst e;refine wk ?_;refine Wc ahe (by simp;omega) al ?_;refine ahl ?_;exact af rfl h'.o
def I2(r:Rdn):Bool:=r.any λa=>decide (4096<a.2.length)
def LD(d:List Rdn):Bool:=d.any I2
theorem Rz:∀(t done:Rdn),ez done t=0->done.length<=8->(done++t).length<=8/\∀a∈t,a.1.length<=32
 |[],done,_,h=>by simp;exact h
 | a::t,done,h,hd=>by
   simp only[ez]at h;split at h
   .cases h
   .split at h
    .cases h
    .split at h
     .cases h
     .rename_i h1 h2 h3;have:=Rz t (done++[a]) h (by simp;omega);refine⟨by simpa using this.1,λb c=>?_⟩;rcases aeJ.1 c with rfl|c
      .exact O5 (by simpa using h2)
      .exact this.2 b c
theorem Se:∀(d:List Rdn) (i:Nat),nH i d=0->i<=32->i+d.length<=32/\∀r∈d,r.length<=8/\∀a∈r,a.1.length<=32
 |[],i,_,h=>by simp;exact h
 | r::d,i,h,hi=>by
   simp only[nH]at h;split at h
   .cases h
   .split at h
    .cases h
    .split at h
     .rename_i h3;exact absurd h h3
     .rename_i h1 h2 h3;have b:ez [] r=0:=(by simpa using h3);have e:=Rz r [] b ahe;have f:=Se d (i+1) h ahd;refine⟨by simp;omega,λq c=>?_⟩;rcases aeJ.1 c with rfl|c
      .exact⟨by simpa using e.1,e.2⟩
      .exact f.2 q c
theorem QV(s:List UInt8):(kg s).length<=3*s.length:=OH _ _ _
theorem abH{key:Bool}{a:Ava}(e:a.1.length<=32)(f:a.2.length<=4096):(avT key a).length<=20000:=by
 have b:=QV a.2;have c:=QV (bC a.2);have g:=Rc a.2;have d:(aE a.1).length=a.1.length:=by simp[aE]
 unfold avT;split;simp;omega;simp;omega
theorem PI{B:Nat}{sep:List UInt8}:∀xs:List (List UInt8),(∀x∈xs,x.length<=B)->(Lib.join xs sep).length<=xs.length*(B+sep.length)
 |[],_=>by simp[Lib.join]
 |[x],h=>by have:=h x ahe;simp[Lib.join,List.intercalate];omega
 | x::y::l,h=>by
   have a:=PI (sep:=sep) (y::l) λz b=>h z (afZ _ b)
   have c:=h x ahe;have e:Lib.join (x::y::l) sep=x++(sep++Lib.join (y::l) sep):=(by simp[Lib.join,List.intercalate]);rw[e];simp only[aez,aeB,Nat.succ_mul]at a⊢;omega
theorem JS{key:Bool}{r:Rdn}(g:r.length<=8)(j:∀a∈r,a.1.length<=32)(k:∀a∈r,a.2.length<=4096):(cE key r).length<=200000:=by
 have e:∀xs:List (List UInt8),xs.length<=8->(∀x∈xs,x.length<=20000)->(Lib.join xs [43]).length<=200000:=λxs a b=>by have c:=PI (sep:=[43]) xs b;have d:xs.length*(20000+[(43:UInt8)].length)<=8*(20000+1):=afA _ a;omega
 have h:∀x∈r.map (avT key),x.length<=20000:=λx f=>by obtain⟨a,i,rfl⟩:=ael.1 f;exact abH (j a i) (k a i)
 unfold cE;split;refine e _ (by rw[Q1];simpa using g) λx f=>h x ?_
 exact(afN (r.map (avT key)) _).mem_iff.1 f;exact e _ (by simpa using g) h
theorem JL{key:Bool}{d:List Rdn}(b:d.length<=32)(f:∀r∈d,(cE key r).length<=200000):(aN key d).length<=10000000:=by
 have c:=PI (sep:=[44]) (B:=200000) (d.map (cE key)) λx a=>by obtain⟨r,hr,rfl⟩:=ael.1 a;exact f r hr
 have e:(d.map (cE key)).length*(200000+[(44:UInt8)].length)<=32*(200000+1):=afA _ (by simpa using b);unfold aN;omega
def prS(d:List Rdn):List UInt8×Int:=if nH 0 d≠0 then([],nH 0 d)else if LD d=true then([],5)else if 4096<(aN false d).length then([],5)else(aN false d,0)
def Uv(p:List UInt8×Int):AV:=.tup [.str p.1,.int .i64 p.2]
def RW(d:List Rdn):List UInt8×Int:=if(prS d).2≠0 then([],(prS d).2)else(aN true d,0)
theorem yE{d:List Rdn}{cap:Option Nat}(P:d.length<=1100000)(hr:∀r∈d,r.length<=1100000)(h:K (Uv (prS d)) L):
  aeg 35 [.sl (d.map aH) d.length cap] L K:=by
 have J:=hid (λk=>@yD d k);unfold prS Uv at h;refine aef QP ?_;refine abw P hr ?_;by_cases G:nH 0 d=0;rotate_left;rw[if_pos G]at h;replace h:=hid h;refine ahl ?_;exact ag h.o;rw[if_neg (by simpa using G)]at h;obtain⟨O,f⟩:=Se d 0 G ahd;rw[G];replace f:=hid f;replace h:=hid h;clear hr P G;refine ahl ?_;refine ao (λn T' L'=>∃(i:Nat) (c:Int) (Z:List Blk),n=d.length-i/\i<=d.length/\Hid (LD (d.take i)=false/\0<=c/\c<=8*i)/\T'=[(18,.int .i64 (i:Int)),(17,.int .i64 d.length),(16,.sl (d.map aH) d.length cap),(5,.int .i64 c),(0,.sl (d.map aH) d.length cap)]/\L'=L++Z) ahh ⟨0,0,[],rfl,aep _,hid ⟨rfl,ahd,ahd⟩,rfl,ahe⟩ ?_;rintro _ _ _ ⟨i,c,X,rfl,hi,E,rfl,rfl⟩;by_cases g:i<d.length;have g1:(i:Int)<(d.length:Int):=ahd;have Y:=aee i ahd;have T:=J.o i g;have v:d.getD i []∈d:=by rw[aeA,aeF g];exact afx _
 obtain⟨r,z⟩:=aec (d.getD i []);have y:d.take (i+1)=d.take i++[r]:=by rw[aeM g,<- z];simp[g]
 rw[z]at T v;have W:=(f.o r v).1;have B:I2 r=true->K (.tup [.str [],.int .i64 5]) L:=λe=>by have p:=h.o;rw[if_pos (show LD d=true from afP.2 ⟨r,v,e⟩)]at p;exact p
 replace B:=hid B;replace y:=hid y;clear z v;refine wk ?_;refine ao (λn T' L'=>∃(k:Nat) (c':Int) (Z:List Blk),n=r.length-k/\k<=r.length/\X.length<=Z.length/\Hid (I2 (r.take k)=false/\c'=c+k)/\T'=[(24,.int .i64 (k:Int)),(23,.int .i64 r.length),(22,aH r),(18,.int .i64 (i:Int)),(17,.int .i64 d.length),(16,.sl (d.map aH) d.length cap),(5,.int .i64 c'),(0,.sl (d.map aH) d.length cap)]/\L'=L++Z) ahh ⟨0,c,X,rfl,aep _,aek _,hid ⟨rfl,ahd⟩,rfl,rfl⟩ ?_;rintro _ _ _ ⟨k,c',Z,rfl,hk,s,C,rfl,rfl⟩;replace s:=hid s;by_cases j:k<r.length;have g3:(k:Int)<(r.length:Int):=ahd;have g4:=aee k ahd;have g5:IntKind.i64.wrap (c'+1)=c'+1:=by obtain⟨_,Q,N⟩:=E.o;have:=C.o.2;exact ac ahd ahd
 have M:=nA j;have e4:k*2+2<=(bN r).length:=by rw[iE];omega
 obtain⟨⟨ty,H⟩,w⟩:∃a,r.getD k ([],[])=a:=⟨_,rfl⟩;have D:(ty,H)∈r:=by rw[<- w];simp[j]
 have l:r.take (k+1)=r.take k++[(ty,H)]:=by rw[aeM j,<- w];simp[j]
 rw[w]at M;simp only[Gx]at M;have XL:4096<H.length->I2 r=true:=λe=>afP.2 ⟨_,D,by simpa using e⟩
 replace XL:=hid XL;replace l:=hid l;clear w D;by_cases U:(4096:Int)<(H.length:Int);have p:=hid (B.o (XL.o ahd));refine wk ?_;exact af rfl p.o;refine wk ?_;refine ahi ahd (CutL (b:=?_)) ⟨k+1,c'+1,_,rfl,j,?_,hid ⟨?_,by have:=C.o.2;omega⟩,rfl,rfl⟩;have:=s.o;simp;omega;have:=s.o;simp;omega;rw[l.o,I2,List.any_append,show(r.take k).any _=I2 (r.take k)from rfl,C.o.1];simp;omega;have A:k=r.length:=ahd;subst A;have g3:¬(r.length:Int)<(r.length:Int):=ahd;have x:=C.o.1;rw[aeI]at x;replace x:=hid x;refine wk ?_;refine ahi ahd ahg ⟨i+1,c',_,rfl,g,hid ⟨?_,?_,?_⟩,rfl,rfl⟩;rw[y.o,LD,List.any_append,show(d.take i).any _=LD (d.take i)from rfl,E.o.1];simp[x.o];obtain⟨_,Q,N⟩:=E.o;have:=C.o.2;omega;obtain⟨_,Q,N⟩:=E.o;have:=C.o.2;omega;have A:i=d.length:=ahd;subst A;have g1:¬(d.length:Int)<(d.length:Int):=ahd;have t:=E.o.1;rw[aeI]at t;have p:=h.o;rw[if_neg (by rw[t];simp)]at p;have I:∀r∈d,∀a∈r,a.2.length<=4096:=λr hr a w=>by have R:=afY.1 t r hr;have F:I2 r=false:=(by simpa using R);unfold I2 at F;have m:=afY.1 F a w;simpa using m
 have u:∀r∈d,(cE false r).length<=200000:=λr hr=>JS (f.o r hr).1 (f.o r hr).2 (I r hr)
 have V:=JL ahd u;replace p:=hid p;clear t;replace I:=hid I;replace u:=hid u;refine wk ?_;refine aaH ahd (λr hr=>⟨by have:=(f.o r hr).1;omega,λa w=>⟨by have:=(f.o r hr).2 a w;omega,by have:=I.o r hr a w;omega⟩⟩) (λr hr=>by have:=u.o r hr;omega) ahd ?_;by_cases q:4096<(aN false d).length;have S:(4096:Int)<((aN false d).length:Int):=ahd;have m:=p.o;rw[if_pos q]at m;replace m:=hid m;clear q;refine ahl ?_;exact af rfl m.o;have S:¬(4096:Int)<((aN false d).length:Int):=ahd;have m:=p.o;rw[if_neg q]at m;replace m:=hid m;clear q;refine ahl ?_;exact af rfl m.o
theorem RO{d:List Rdn}(h:(prS d).2=0):d.length<=32/\∀r∈d,r.length<=8/\∀a∈r,a.1.length<=32/\a.2.length<=4096:=by
 unfold prS at h;split at h;rename_i e;exact absurd h e;rename_i e;split at h;cases h;rename_i k;have i:nH 0 d=0:=by simpa using e
 obtain⟨m,g⟩:=Se d 0 i ahd;have c:LD d=false:=by simpa using k
 refine⟨ahd,λr hr=>⟨(g r hr).1,λa f=>⟨(g r hr).2 a f,?_⟩⟩⟩;have l:=afY.1 c r hr;have b:I2 r=false:=by simpa using l
 unfold I2 at b;have j:=afY.1 b a f;simpa using j
theorem Mh{d:List Rdn}{cap:Option Nat}(i:d.length<=1100000)(hr:∀r∈d,r.length<=1100000)(h:K (Uv (RW d)) L):
  aeg 61 [.sl (d.map aH) d.length cap] L K:=by
 unfold RW Uv at h;refine aef Sj ?_;refine yE i hr ?_;unfold Uv;obtain⟨⟨ps,j⟩,f⟩:∃p,prS d=p:=⟨_,rfl⟩;rw[f]at h⊢;simp only at h⊢;by_cases g:j=0;subst g;obtain⟨l,c⟩:=RO (by rw[f]);rw[if_neg ahe]at h;have b:∀r∈d,(cE true r).length<=200000:=λr hr=>JS (c r hr).1 (λa e=>((c r hr).2 a e).1) (λa e=>((c r hr).2 a e).2)
 have k:=JL ahd b;replace h:=hid h;replace c:=hid c;replace b:=hid b;clear f hr;refine ahl ?_;refine VK ahd (λr hr=>⟨by have:=(c.o r hr).1;omega,λa e=>⟨by have:=((c.o r hr).2 a e).1;omega,by have:=((c.o r hr).2 a e).2;omega⟩⟩) (λr hr=>by have:=b.o r hr;omega) ahd ?_;refine ahl ?_;exact ag h.o;rw[if_pos g]at h;replace h:=hid h;clear f hr;refine ahl ?_;exact ag h.o
theorem RS:∀(f:Nat) (b:List Rdn) (a:Rdn) (s:List UInt8),b.length<=32->a.length<=8->(∀r∈b,r.length<=8)->(Of f b a s).1.length<=33/\∀r∈(Of f b a s).1,r.length<=8
 |0,_,_,_,_,_,_=>by simp[Of]
 | f+1,b,a,s,h1,h2,h3=>by
   rw[Of];split
   .simp
   rename_i e;have c:∀t v:List UInt8,(a++[(t,v)]).length<=8:=λt v=>by simp;omega
   have d:∀t v:List UInt8,∀r∈b++[a++[(t,v)]],r.length<=8:=λt v r hr=>by
    rcases aen.1 hr with h|h
    .exact h3 r h
    .rw[aeG.1 h];exact c t v
   split
   .simp
   split
   .simp
   split
   .simp
   split
   .simp
   split
   .simp
   split
   .exact⟨by simp;omega,d _ _⟩
   split
   .exact RS f _ _ _ (by simp;omega) ahe (d _ _)
   .exact RS f _ _ _ h1 (c _ _) h3
theorem V0(s:List UInt8):(kH s).1.length<=33/\∀r∈(kH s).1,r.length<=8:=by unfold kH;split;simp;split;simp;exact RS _ _ _ _ ahe ahe ahe
theorem qB(b:List UInt8)(c:UInt8):eA (b++[c])=if c=32 then b else b++[c]:=by simp[eA]
def GY(a:Ava):Ava:=(aE a.1,bC a.2)
abbrev Jg(a:Ava):List UInt8:=avT false a
def Pn(l:Rdn)(x:Ava):Nat->Nat
 |0=>0
 |n+1=>if Jg x<Jg (l.getD n ([],[]))then Pn l x n else n+1
def PL(l:Rdn)(x:Ava):Rdn:=l.take (Pn l x l.length)++[x]++l.drop (Pn l x l.length)
def sh(r:Rdn):Rdn:=r.foldl (λl a=>PL l (GY a)) []
def yF(d:List Rdn):List Rdn:=d.map sh
theorem VV(l:Rdn)(x:Ava):∀n,Pn l x n<=n
 |0=>aek _
 |n+1=>by have:=VV l x n;unfold Pn;split<;>omega
theorem Zj(l:Rdn)(x:Ava):(PL l x).length=l.length+1:=by simp[PL];omega
theorem PR(r:Rdn):∀l:Rdn,(r.foldl (λl a=>PL l (GY a)) l).length=l.length+r.length:=by
 induction r with
 |nil=>simp
 |cons a r ih=>intro l;rw[aft,ih,Zj];simp;omega
theorem Pq(r:Rdn):(sh r).length=r.length:=by simp[sh,PR]
theorem VW(l:Rdn)(x:Ava):∀(n j:Nat),Pn l x n<=j->j<n->Jg x<Jg (l.getD j ([],[]))
 |0,_,_,h=>ahd
 | n+1,j,h1,h2=>by
   unfold Pn at h1;split at h1
   .rename_i hk;rcases aeN j n with e|e
    .exact VW l x n j h1 e
    grind
   omega
theorem VX(l:Rdn)(x:Ava):∀n,Pn l x n=0\/¬Jg x<Jg (l.getD (Pn l x n-1) ([],[]))
 |0=>.inl rfl
 | n+1=>by
   unfold Pn;split
   .exact VX l x n
   simp_all
def RD(l:Rdn):Prop:=l.Pairwise λa b=>Jg a<=Jg b
theorem U0{l:Rdn}{x:Ava}(r:RD l):RD (PL l x):=by
 have f:=VW l x l.length;have g:=VX l x l.length;have n:=VV l x l.length;unfold PL;obtain⟨p,w⟩:=aec (Pn l x l.length);rw[w]at f g n⊢;have o:RD (l.take p++l.drop p):=by rw[afH];exact r
 obtain⟨t,u,v⟩:=List.pairwise_append.1 o;have j:∀a∈l.take p,Jg a<=Jg x:=λa j=>by
  rcases g with e|e;simp_all;have h:p-1<l.length:=by grind
  refine List.le_trans ?_ (List.not_lt.1 e);obtain⟨i,s,rfl⟩:=agf.1 j;rw[List.getElem_take];have m:l.getD (p-1) ([],[])=l[p-1]:=(by simp[h]);rw[m];rcases aeN i (p-1)with q|q;exact(List.pairwise_iff_getElem.1 r) i (p-1) ahd h q
  grind
 have k:∀b∈l.drop p,Jg x<=Jg b:=λb k=>by obtain⟨i,s,rfl⟩:=agf.1 k;simp only[afu]at s;rw[List.getElem_drop];have:=f (p+i) ahd ahd;have m:l.getD (p+i) ([],[])=l[p+i]:=(by simp[show p+i<l.length by omega]);rw[m]at this;exact List.le_of_lt this
 unfold RD;rw[aew,List.pairwise_append];refine⟨t,?_,?_⟩;simp only[agu,List.pairwise_cons];exact⟨k,u⟩;intro a d b c;simp only[agu,aeJ]at c;rcases c with rfl|c;exact j a d;exact v a d b c
theorem Zi(l:Rdn)(x:Ava):(PL l x).Perm (x::l):=by unfold PL;rw[aew];refine(List.perm_middle (l₁:=l.take _) (l₂:=l.drop _)).trans ?_;simp
theorem PS:∀(r l:Rdn),RD l->RD (r.foldl (λl a=>PL l (GY a)) l)/\(r.foldl (λl a=>PL l (GY a)) l).Perm (l++r.map GY)
 |[],l,h=>by simpa using h
 | a::r,l,h=>by
   obtain⟨b,c⟩:=PS r (PL l (GY a)) (U0 h);refine⟨b,c.trans ?_⟩;refine((Zi l (GY a)).append_right _).trans ?_
   grind
theorem abI(a:Ava):avT true a=Jg (GY a):=by simp[avT,GY]
theorem UH(r:Rdn):(sh r).map Jg=dU (r.map (avT true)):=by
 obtain⟨d,e⟩:=PS r [] List.Pairwise.nil;refine ag3 (le:=λx y=>x<=y) (λa b _ _=>List.le_antisymm) ?_ ?_ ?_;rw[List.pairwise_map];exact d;have:=agQ (le:=λx y:List UInt8=>decide (x<=y)) (λa b c d e=>by
  simp only[decide_eq_true_eq]at *;exact List.le_trans d e) (λa b=>by
  simp only[ae4,decide_eq_true_eq];exact List.le_total a b) (r.map (avT true))
 exact this.imp λh=>by simpa using h
 refine(e.map Jg).trans ?_;refine List.Perm.trans ?_ (afN _ _).symm;rw[ae5,aeH];rfl
theorem W3(r:Rdn):cE false (sh r)=cE true r:=by have:=UH r;simp only[cE,aeE,if_false,if_true];simp[*]
theorem Po(d:List Rdn):aN false (yF d)=aN true d:=by unfold aN yF;rw[aeH];rw[show(cE false∘sh)=cE true from funext W3]
theorem VF(v:List UInt8)(rest:List UInt8)(hr:rest=[]\/∃c t,rest=c::t/\(c=44\/c=43)):∀(s b:List UInt8) (bl:Bool),b++s=v->(s=[]->bl=false)->j7 b bl (wrL v.length b.length s++rest)=some (v,rest,true)
 | [],b,bl,e,h=>by
   rw[aeL]at e;subst e;rw[h rfl];rcases hr with rfl|⟨c,t,rfl,g⟩
   .rfl
   .exact L8 g
 | c::s,b,bl,e,h=>by
   have j:=λa (k:s=[]->a=false)=>VF v rest hr s (b++[c]) a (by rw[<- e];simp) k
   have i:(b++[c]).length=b.length+1:=ahe;rw[i]at j;rw[wrL,aew];unfold wrB;split
   .rename_i g;subst g;exact j false (λ_=>rfl)
   .rename_i g;split
    .rename_i f;show j7 b bl (92::c::(wrL v.length (b.length+1) s++rest))=_;rw[L9]
     .simp_all
     .rcases f with⟨_,rfl|rfl⟩|⟨_,rfl⟩|f
      .simp
      .simp
      .simp
      grind
    .rename_i f;show j7 b bl (c::(wrL v.length (b.length+1) s++rest))=_;have d:¬c∈([34,43,44,59,60,62,92]:List UInt8):=λq=>f (.inr (.inr q))
     simp only[aeJ,afq,or_false,not_or]at d;rw[I6 (λq=>q.elim (λq=>d.2.2.1 q) (λq=>d.2.1 q)) (λq=>d.2.2.2.2.2.2 q)]
     grind
theorem I5(v:List UInt8){rest:List UInt8}(hr:rest=[]\/∃c t,rest=c::t/\(c=44\/c=43)):j7 [] false (kg v++rest)=some (v,rest,true):=
 VF v rest hr v [] false rfl (λ_=>rfl)
theorem TS:∀(t r:List UInt8),(∀c∈t,c≠61)->Jl (t++61::r)=some (t,r)
 |[],r,_=>by simp[Jl]
 |c::t,r,h=>by rw[ae6,Jl,if_neg (h c ahe),TS t r (λx a=>h x (by simp[a]))]
theorem Yj{t:List UInt8}(h:vX t=true):∀c∈t,c≠61:=by intro c a e;simp only[vX,aeq,aev]at h;have:=h.2 c a;rw[e]at this;exact absurd this (by decide)
theorem PH(x sep:List UInt8)(xs:List (List UInt8)):Lib.join (x::xs) sep=x++xs.flatMap (λy=>sep++y):=by
 induction xs generalizing x with
 |nil=>simp[Lib.join,List.intercalate]
 | cons y l ih =>
   have e:Lib.join (x::y::l) sep=x++(sep++Lib.join (y::l) sep):=(by simp[Lib.join,List.intercalate]);simp[*]
def l6(t:Rdn):List UInt8:=t.flatMap λa=>43::avT false a
def lN(d:List Rdn):List UInt8:=d.flatMap λr=>44::cE false r
theorem Q4(a:Ava)(t:Rdn):cE false (a::t)=avT false a++l6 t:=by simp only[cE,aeE,if_false,aex,PH,l6];simp[List.flatMap_map]
theorem WF(r:Rdn)(d:List Rdn):aN false (r::d)=cE false r++lN d:=by simp only[aN,aex,PH,lN];simp[List.flatMap_map]
theorem Ps:∀(f:Nat) (b:List Rdn) (c:Rdn) (a:Ava) (t:Rdn) (d:List Rdn),(avT false a++(l6 t++lN d)).length<f->b.length<32->ez c (a::t)=0->nH (b.length+1) d=0 ->
  Of f b c (avT false a++(l6 t++lN d))=(b++[c++a::t]++d,0)
 |0,_,_,_,_,_,h,_,_,_=>ahd
 | f+1,b,c,(ty,v),t,d,hf,ho,hc,hd=>by
   unfold ez at hc;split at hc
   .omega
   rename_i m;split at hc
   .omega
   rename_i e;split at hc
   .omega
   rename_i i;simp only[Bool.not_eq_false]at e;have k:avT false (ty,v)++(l6 t++lN d)=ty++61::(kg v++(l6 t++lN d)):=(by simp[avT]);rw[k]at hf⊢;rw[Of,if_neg ahd,TS _ _ (Yj e)];simp only;rw[if_neg (by simp[e]),if_neg i];rcases t with _|⟨g,t⟩
   .rcases d with _|⟨r,d⟩
    .rw[show l6 []++lN []=([]:List UInt8)from rfl];rw[I5 v (.inl rfl)];simp
    .rw[show l6 []++lN (r::d)=44::(cE false r++lN d)by simp[l6,lN]]at hf⊢;rw[I5 v (.inr ⟨44,_,rfl,.inl rfl⟩)];unfold nH at hd;split at hd
     .omega
     rename_i j;split at hd
     .omega
     rename_i n;split at hd
     .omega
     rename_i o;rcases r with _|⟨g,t⟩
     .simp_all
     have l:=Ps f (b++[c++[(ty,v)]]) [] g t d;rw[Q4,aew]at hf⊢
     grind
   .rw[show l6 (g::t)++lN d=43::(avT false g++(l6 t++lN d))by simp[l6]]at hf⊢;rw[I5 v (.inr ⟨43,_,rfl,.inr rfl⟩)];have l:=Ps f b (c++[(ty,v)]) g t d
    grind
theorem Tc{d:List Rdn}(h:nH 0 d=0)(e:(aN false d).length<=4096):kH (aN false d)=(d,0):=by unfold kH;rw[if_neg ahd];rcases d with _|⟨r,d⟩;rfl;unfold nH at h;split at h;omega;split at h;omega;rename_i c;split at h;omega;rename_i b;simp only[ne_eq,agz]at b;rcases r with _|⟨a,t⟩;simp_all;rw[WF,Q4,aew];rw[if_neg (by simp[avT])];have:=Ps ((avT false a++(l6 t++lN d)).length+1) [] [] a t d ahd ahe b h;simp_all
end Go.Proofs.YtajkbcmleihaoaaGreatDoor.Av
