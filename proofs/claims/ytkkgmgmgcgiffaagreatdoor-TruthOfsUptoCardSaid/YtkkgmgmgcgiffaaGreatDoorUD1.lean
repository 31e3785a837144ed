/- Joined texts of the walk, made small by a program. -/
import Derived.Test.YtkkgmgmgcgiffaaGreatDoorUP4
import Derived.Test.YtkkgmgmgcgiffaaGreatDoorRows
import Derived.KernelRfl
import Derived.Test.YtkkgmgmgcgiffaaGreatDoorUO1
import Derived.Test.YtkkgmgmgcgiffaaGreatDoorUShelfP
import Derived.Laws.RangeAny
import Derived.Laws.RangeString
import Derived.Test.YtkkgmgmgcgiffaaGreatDoorUP5
set_option linter.unusedSimpArgs false
set_option linter.unusedVariables false
set_option maxRecDepth 100000
namespace Go.Proofs.YtkkgmgmgcgiffaaGreatDoor.Av
open Go
def KK:LSO:=[Af 2]
def KJ:LSO:=[Aa 5 0,Bs 6 5,Aa 7 6,.grp none 7 false
 [Ag 8 7 0,Br 9 7 8,A5 10 7 9 32]
 11 (tm 10),Aa 12 11,.grp none 12 false
 [Ag 13 12 0,BR 14 12 13 0,og 15 12 false (.conv .i32 (tm 14)),AI 16 12 165 15,AU 17 12 16]
 18 (tm 17)]
def KI:LSO:=[Af 2]
def KH:LSO:=[Aa 19 0,o1 20 (.rangeS (tm 19))]
def KG:LSO:=[o1 21 (.nextS (tm 20)),As 22 21]
def KF:LSO:=[Bh 23 21,Aa 4 23]
def KE:LSO:=[Aa 24 4,Aj 25 165 24,Ay 26 25,Aa 27 26,.grp none 27 true
 [Ae 28 27 4,og 29 27 true (.bin .lss (tm 28) (.av (.int .i32 48))),Ae 30 27 29,.grp (some (27,true)) 30 false
 [Ag 31 30 4,og 32 30 false (.bin .gtr (tm 31) (.av (.int .i32 57)))]
 33 (tm 32)]
 34 (tm 33),Aa 35 34,.grp none 35 true
 [Ae 36 35 4,og 37 35 true (.bin .neq (tm 36) (.av (.int .i32 45)))]
 38 (tm 37)]
def KD:LSO:=[Af 2]
def KC:LSO:=[Ax 2]
def Kk:aW:=⟨39,(.seq (.sreg KK [])
 (.seq (.seq (.sreg KJ Ck)
 (.cond (tm 18) (.seq (.sreg KI [])
 .ret)
 .skip))
 (.seq (.seq (.sreg KH Cg)
 (.block 0 (.loop (.seq (.sreg KG [])
 (.seq (.cond (tm 22) .skip
 (.exit 0))
 (.block 1 (.seq (.sreg KF Cg)
 (.seq (.sreg KE Cl)
 (.cond (tm 38) (.seq (.sreg KD [])
 .ret)
 .skip)))))))))
 (.seq (.sreg KC [])
 .ret)))),[(.tmp 2)]⟩
attribute [push_cast] KK KJ KI KH KG KF KE KD KC
theorem O0:bb Tryz.prog (fun _ _=>1) 133=some Kk.raw:=by kernel_rfl
def Gc:LSO:=[Af 2]
def Gb:LSO:=[Aa 3 0,o1 4 (.bin .geq (tm 3) (.av (.int .i32 97))),Aa 5 4,.grp none 5 true
 [Ae 6 5 0,og 7 5 true (.bin .leq (tm 6) (.av (.int .i32 122)))]
 8 (tm 7),Aa 9 8,.grp none 9 false
 [Ag 10 9 0,og 11 9 false (.bin .geq (tm 10) (.av (.int .i32 65))),Ag 12 9 11,.grp (some (9,false)) 12 true
 [Ae 13 12 0,og 14 12 true (.bin .leq (tm 13) (.av (.int .i32 90)))]
 15 (tm 14)]
 16 (tm 15),Aa 2 16]
def Dj:aW:=⟨17,(.seq (.sreg Gc [])
 (.seq (.sreg Gb Cl)
 .ret)),[(.tmp 2)]⟩
attribute [push_cast] Gc Gb
theorem M8:bb Tryz.prog (fun _ _=>1) 165=some Dj.raw:=by kernel_rfl
def L9:LSO:=[A3 3 1,Af 4]
def L8:LSO:=[Aa 5 0,o1 6 (.mkfn 192 [(tm 3)]),Aw 7 112 5 6,Aa 4 7]
def M9:aW:=⟨8,(.seq (.sreg L9 [])
 (.seq (.sreg L8 Ci)
 .ret)),[(.tmp 4)]⟩
attribute [push_cast] L9 L8
theorem Qa:bb Tryz.prog (fun _ _=>1) 161=some M9.raw:=by kernel_rfl
def II:LSO:=[A3 2 0,Af 3]
def IH:LSO:=[Ac 4 0 2,Ad 5 1 4,Aj 6 61 5,Ad 7 1 1,Aj 8 61 7,AE 9 6 8,Aa 3 9]
def Hk:aW:=⟨10,(.seq (.sreg II [])
 (.seq (.sdreg IH [.pure,(.read 0 0),(.read 0 0),(.read 0 0)] Cl)
 .ret)),[(.tmp 3)]⟩
attribute [push_cast] II IH
theorem NE:bb Tryz.prog (fun _ _=>1) 192=some Hk.raw:=by kernel_rfl
def Iy:LSO:=[Ao 2,Ao 3,Af 4]
def Ix:LSO:=[Am 5]
def Iw:LSO:=[Af 6]
def Iv:LSO:=[Ab 7 0]
def Iu:LSO:=[Aa 11 7,Aa 12 0,Ar 13 12,Ak 14 11 13,Aa 15 14,.grp none 15 true
 [Ae 16 15 0,Ae 17 15 7,AS 18 15 16 17,og 19 15 true (.bin .neq (tm 18) (.av (.int .u8 44)))]
 20 (tm 19),Aa 21 20,.grp none 21 true
 [Ae 22 21 0,Ae 23 21 7,AS 24 21 22 23,og 25 21 true (.bin .neq (tm 24) (.av (.int .u8 43)))]
 26 (tm 25)]
def It:LSO:=[Aa 27 0,Aa 28 7,A9 29 27 28,Aa 8 29]
def Is:LSO:=[Aa 30 8,o1 31 (.bin .eql (tm 30) (.av (.int .u8 32))),Aa 6 31]
def Ir:LSO:=[Aa 33 8,o1 34 (.bin .neq (tm 33) (.av (.int .u8 92))),Aa 32 34]
def Iq:LSO:=[Aa 35 8,B3 36 35,Aa 37 36,.grp none 37 false
 [Ag 38 37 8,og 39 37 false (.call 193 [(.av (.str [34,59,60,62])),(tm 38)]),BE 40 37 39 0]
 41 (tm 40),Aa 42 41,.grp none 42 false
 [Ag 43 42 5,Bm 44 42 43,AC 45 42 44 0,Ag 46 42 45,.grp (some (42,false)) 46 true
 [Ae 47 46 8,Bt 48 46 47,Ae 49 46 48,.grp (some (46,true)) 49 false
 [Ag 50 49 8,og 51 49 false (.bin .eql (tm 50) (.av (.int .u8 35)))]
 52 (tm 51)]
 53 (tm 52)]
 54 (tm 53)]
def Ip:LSO:=[Ao 2,Ao 3,Af 4]
def F8:LSO:=[Aa 56 7,Ah 57 56 1,Aa 58 0,Ar 59 58,Ak 60 57 59,Aa 61 60,.grp none 61 true
 [Ae 62 61 0,Ae 63 61 7,BU 64 61 63 1,AS 65 61 62 64,og 66 61 true (.call 193 [(.av (.str [34,43,44,59,60,62,92,32,35,61])),(tm 65)]),og 67 61 true (.bin .geq (tm 66) (iv 0))]
 68 (tm 67),Aa 55 68]
def F7:LSO:=[Aa 69 7,Ah 70 69 1,Aa 7 70]
def F6:LSO:=[Aa 71 0,Aa 72 7,A9 73 71 72,Aa 8 73]
def F5:LSO:=[Aa 75 7,Ah 76 75 2,Aa 77 0,Ar 78 77,Ak 79 76 78,Aa 74 79]
def F4:LSO:=[Aa 81 0,Aa 82 7,Ah 83 82 1,Aa 84 7,Ah 85 84 3,BI 86 81 83 85,Aj 87 194 86,Aa 80 87,As 88 80,Au 89 80,Aa 9 88,Aa 10 89]
def F3:LSO:=[Aa 90 10,Ay 91 90]
def F2:LSO:=[Ao 2,Ao 3,Af 4]
def F1:LSO:=[Aa 92 9,Bz 93 92 0,Aa 8 93]
def F0:LSO:=[Aa 94 7,Ah 95 94 2,Aa 7 95]
def FZ:LSO:=[Ao 2,Ao 3,Af 4]
def FY:LSO:=[Aa 96 5,Aa 97 8,AK 98 97,AH 99 96 98,Aa 5 99]
def FX:LSO:=[Aa 100 7,Ah 101 100 1,Aa 7 101]
def FW:LSO:=[Aa 102 5,AO 103 102,Aa 104 0,Aa 105 7,BF 106 104 105,Aa 107 6,Ay 108 107,Aa 2 103,Aa 3 106,Aa 4 108]
def Hj:aW:=⟨109,(.seq (.sreg Iy [])
 (.seq (.sreg Ix [])
 (.seq (.sreg Iw [])
 (.seq (.sreg Iv [])
 (.seq (.block 0 (.loop (.seq (.seq (.sreg Iu Cp)
 (.cond (tm 26) .skip
 (.exit 0)))
 (.block 1 (.seq (.sreg It Ci)
 (.seq (.sreg Is Ch)
 (.seq (.block 2 (.seq (.sreg Ir Ch)
 (.cond (tm 32) (.seq (.sreg Iq Ck)
 (.cond (tm 54) (.seq (.sreg Ip [])
 .ret)
 .skip))
 (.seq (.sreg F8 Cp)
 (.cond (tm 55) (.seq (.sreg F7 Ch)
 (.sreg F6 Ci))
 (.seq (.sreg F5 Ck)
 (.cond (tm 74) (.seq (.sreg F4 [true,true,false,false,false,false,false,false,false,false,false,false])
 (.seq (.seq (.sreg F3 Cg)
 (.cond (tm 91) (.seq (.sreg F2 [])
 .ret)
 .skip))
 (.seq (.sreg F1 Ch)
 (.sreg F0 Ch))))
 (.seq (.sreg FZ [])
 .ret))))))))
 (.seq (.sreg FY Cj)
 (.sreg FX Ch)))))))))
 (.seq (.sdreg FW [.pure,(.read 0 0),.pure,.pure,(.read 0 0),.pure,.pure,.pure,.pure] [true,true,true,false,false,false,false,false,false,false])
 .ret)))))),[(.tmp 2),(.tmp 3),(.tmp 4)]⟩
attribute [push_cast] Iy Ix Iw Iv Iu It Is Ir Iq Ip F8 F7 F6 F5 F4 F3 F2 F1 F0 FZ FY FX FW
theorem ND:bb Tryz.prog (fun _ _=>1) 162=some Hj.raw:=by kernel_rfl
def Jd:LSO:=[Am 2,Ab 3 0]
def Jc:LSO:=[Aa 10 0,Ar 11 10,A0 12 11 4096]
def Jb:LSO:=[Am 2,Ab 3 5]
def Ja:LSO:=[Aa 13 0,Bs 14 13]
def I9:LSO:=[Am 2,Ab 3 0]
def I8:LSO:=[Am 4]
def I7:LSO:=[Am 5]
def I6:LSO:=[Aa 15 4,An 16 15,Al 17 16 32,Aa 18 17,.grp none 18 false
 [Ag 19 18 5,Bm 20 18 19,AC 21 18 20 8]
 22 (tm 21)]
def I5:LSO:=[Am 2,Ab 3 9]
def I4:LSO:=[Aa 24 0,o1 25 (.call 160 [(tm 24),(.av (.str [61]))]),Aa 23 25,As 26 23,Au 27 23,Bh 28 23,Aa 6 26,Aa 7 27,Aa 8 28]
def GM:LSO:=[Aa 29 8,Ay 30 29,Aa 31 30,.grp none 31 false
 [Ag 32 31 6,AI 33 31 133 32,AU 34 31 33]
 35 (tm 34)]
def GK:LSO:=[Am 2,Ab 3 4]
def GJ:LSO:=[Aa 36 5,Aa 37 6,Aw 38 161 36 37]
def GI:LSO:=[Am 2,Ab 3 21]
def GH:LSO:=[Aa 40 7,Aj 41 162 40,Aa 39 41,As 42 39,Au 43 39,Bh 44 39,Aa 9 42,Aa 7 43,Aa 8 44]
def GF:LSO:=[Aa 45 8,Ay 46 45]
def GE:LSO:=[Am 2,Ab 3 4]
def GD:LSO:=[Aa 47 5,Aa 48 6,Aa 49 9,o1 50 (.build [(.str []),(.str [])] [(0,(1,(tm 48))),(1,(1,(tm 49)))]),BV 51 50,B4 52 47 51,Aa 5 52]
def GC:LSO:=[Aa 53 7,Bs 54 53]
def GB:LSO:=[Aa 55 4,Aa 56 5,BJ 57 56,BK 58 55 57,Aa 2 58,Ab 3 0]
def GA:LSO:=[Aa 59 7,Bz 60 59 0,o1 61 (.bin .eql (tm 60) (.av (.int .u8 44)))]
def Gz:LSO:=[Aa 62 4,Aa 63 5,BJ 64 63,BK 65 62 64,Aa 4 65,Am 5]
def Gy:LSO:=[Aa 66 7,o1 67 (.slS (tm 66) (some (iv 1)) none),Aa 0 67]
def Hn:aW:=⟨68,(.seq (.sreg Jd [])
 (.seq (.seq (.sreg Jc Ch)
 (.cond (tm 12) (.seq (.sreg Jb [])
 .ret)
 .skip))
 (.seq (.seq (.sreg Ja Cg)
 (.cond (tm 14) (.seq (.sreg I9 [])
 .ret)
 .skip))
 (.seq (.sreg I8 [])
 (.seq (.sreg I7 [])
 (.block 0 (.loop (.block 1 (.seq (.seq (.sreg I6 Cj)
 (.cond (tm 22) (.seq (.sreg I5 [])
 .ret)
 .skip))
 (.seq (.sreg I4 C4)
 (.seq (.seq (.sreg GM Ci)
 (.cond (tm 35) (.seq (.sreg GK [])
 .ret)
 .skip))
 (.seq (.seq (.sreg GJ Ch)
 (.cond (tm 38) (.seq (.sreg GI [])
 .ret)
 .skip))
 (.seq (.sreg GH C4)
 (.seq (.seq (.sreg GF Cg)
 (.cond (tm 46) (.seq (.sreg GE [])
 .ret)
 .skip))
 (.seq (.sreg GD Cl)
 (.seq (.seq (.sreg GC Cg)
 (.cond (tm 54) (.seq (.sreg GB C6)
 .ret)
 .skip))
 (.seq (.seq (.sreg GA Ch)
 (.cond (tm 61) (.sreg Gz C6)
 .skip))
 (.sreg Gy Ch)))))))))))))))))),[(.tmp 2),(.tmp 3)]⟩
attribute [push_cast] Jd Jc Jb Ja I9 I8 I7 I6 I5 I4 GM GK GJ GI GH GF GE GD GC GB GA Gz Gy
theorem NH:bb Tryz.prog (fun _ _=>1) 128=some Hn.raw:=by kernel_rfl
def CI:LSO:=[Ao 2]
def CH:LSO:=[Am 3]
def CG:LSO:=[Aa 7 0,o1 8 (.s2b (tm 7)),An 9 8,Ab 10 0]
def At:LSO:=[Ak 11 10 9]
def z8:LSO:=[Aa 12 10,Aq 13 1 8 10,Ad 14 1 13,Aa 4 12,Aa 5 14]
def z7:LSO:=[Aa 15 4,Al 16 15 0,Aa 17 16,.grp none 17 true
 [Ae 18 17 5,Bt 19 17 18,Ae 20 17 19,.grp (some (17,true)) 20 false
 [Ag 21 20 5,og 22 20 false (.bin .eql (tm 21) (.av (.int .u8 35)))]
 23 (tm 22)]
 24 (tm 23),Aa 25 24,.grp none 25 false
 [Ag 26 25 4,Ag 27 25 0,Br 28 25 27,BW 29 25 28 1,og 30 25 false (.bin .eql (tm 26) (tm 29)),Ag 31 25 30,.grp (some (25,false)) 31 true
 [Ae 32 31 5,Bt 33 31 32]
 34 (tm 33)]
 35 (tm 34),Aa 6 35]
def z6:LSO:=[Aa 37 5,B3 38 37,Aa 36 38]
def zZ:LSO:=[Aa 39 3,o1 40 (.app 1 1 1 [(.int .u8 0)] (tm 39) (.av (.str [92,48,48]))),Aa 3 40]
def zY:LSO:=[Aa 42 6,Aa 43 42,.grp none 43 false
 [Ag 44 43 5,og 45 43 false (.call 193 [(.av (.str [34,43,44,59,60,62,92])),(tm 44)]),BE 46 43 45 0]
 47 (tm 46),Aa 41 47]
def zX:LSO:=[Aa 48 3,o1 49 (.bslice false 1 1 [(.int .u8 0)] [(0,(1,(.av (.int .u8 92))))]),AH 50 48 49,Aa 3 50]
def wK:LSO:=[Aa 51 3,Aa 52 5,AK 53 52,AH 54 51 53,Aa 3 54]
def wJ:LSO:=[Ah 55 10 1,Aa 10 55]
def wI:LSO:=[Aa 56 3,AO 57 56,Aa 2 57]
def rO:aW:=⟨58,(.seq (.sreg CI [])
 (.seq (.sreg CH [])
 (.seq (.seq (.sreg CG Ct)
 (.block 0 (.loop (.seq (.sreg At [])
 (.seq (.cond (tm 11) .skip
 (.exit 0))
 (.seq (.block 1 (.seq (.sreg z8 Co)
 (.seq (.sreg z7 Cl)
 (.seq (.block 2 (.seq (.sreg z6 Ch)
 (.cond (tm 36) (.seq (.sreg zZ Ch)
 (.exit 1))
 (.seq (.sreg zY Ci)
 (.cond (tm 41) (.sreg zX Ci)
 .skip)))))
 (.sreg wK Cj)))))
 (.sreg wJ Cg)))))))
 (.seq (.sreg wI Ch)
 .ret)))),[(.tmp 2)]⟩
attribute [push_cast] CI CH CG At z8 z7 z6 zZ zY zX wK wJ wI
theorem Ly:bb Tryz.prog (fun _ _=>1) 196=some rO.raw:=by kernel_rfl
def IT:LSO:=[Ab 2 0]
def IS:LSO:=[Aa 7 0,An 8 7,Ab 9 0]
def IR:LSO:=[Ak 10 9 8]
def IQ:LSO:=[Aa 11 9,Aq 12 1 7 9,Ad 13 1 12,Aa 3 11,Aa 4 13]
def IP:LSO:=[Aa 15 3,Al 16 15 32,Aa 14 16]
def IN:LSO:=[Ab 2 9]
def IM:LSO:=[Aa 18 4,An 19 18,Al 20 19 0,Aa 17 20]
def IL:LSO:=[Ab 2 2]
def IK:LSO:=[Aa 21 4,An 22 21,Ab 23 0]
def IJ:LSO:=[Ak 24 23 22]
def Gm:LSO:=[Aa 25 23,Aq 26 2 21 23,Ap 27 2 26,Bg 6,Aa 5 25,Ai 2 6 27]
def Gl:LSO:=[Aa 29 5,Al 30 29 8,Aa 28 30]
def Gk:LSO:=[Ab 2 9]
def Gj:LSO:=[Ac 32 0 6,Ad 33 1 32,Aj 34 133 33,Ay 35 34,Aa 31 35]
def Gi:LSO:=[Ab 2 20]
def Gh:LSO:=[Aa 37 4,Aa 38 5,BX 39 37 38,Ac 40 0 6,Ad 41 1 40,Aw 42 161 39 41,Aa 36 42]
def Gg:LSO:=[Ab 2 21]
def Gf:LSO:=[Ah 43 23 1,Aa 23 43]
def Ge:LSO:=[Ah 44 9 1,Aa 9 44]
def Gd:LSO:=[Ab 2 0]
def Hl:aW:=⟨45,(.seq (.sreg IT [])
 (.seq (.seq (.sreg IS [])
 (.block 0 (.loop (.seq (.sreg IR [])
 (.seq (.cond (tm 10) .skip
 (.exit 0))
 (.seq (.block 1 (.seq (.sreg IQ Co)
 (.seq (.block 2 (.seq (.sreg IP Ch)
 (.cond (tm 14) (.seq (.sreg IN [])
 .ret)
 (.seq (.sreg IM Ci)
 (.cond (tm 17) (.seq (.sreg IL [])
 .ret)
 .skip)))))
 (.seq (.sreg IK [])
 (.block 3 (.loop (.seq (.sreg IJ [])
 (.seq (.cond (tm 24) .skip
 (.exit 3))
 (.seq (.block 4 (.seq (.sreg Gm Co)
 (.block 5 (.seq (.sreg Gl Ch)
 (.cond (tm 28) (.seq (.sreg Gk [])
 .ret)
 (.seq (.sreg Gj Cj)
 (.cond (tm 31) (.seq (.sreg Gi [])
 .ret)
 (.seq (.sdreg Gh [.pure,.pure,(.read 0 0),.pure,(.read 0 0)] Cl)
 (.cond (tm 36) (.seq (.sreg Gg [])
 .ret)
 .skip)))))))))
 (.sreg Gf Cg))))))))))
 (.sreg Ge Cg)))))))
 (.seq (.sreg Gd [])
 .ret))),[(.tmp 2)]⟩
attribute [push_cast] IT IS IR IQ IP IN IM IL IK IJ Gm Gl Gk Gj Gi Gh Gg Gf Ge Gd
theorem NF:bb Tryz.prog (fun _ _=>1) 195=some Hl.raw:=by kernel_rfl
def I3:LSO:=[Ao 2,Ab 3 0]
def I2:LSO:=[Aa 11 0,Aj 12 195 11,Aa 4 12]
def I1:LSO:=[Aa 13 4,AF 14 13 0]
def I0:LSO:=[Aa 15 4,Ao 2,Aa 3 15]
def IZ:LSO:=[Ab 5 0]
def IY:LSO:=[Aa 16 0,An 17 16,Ab 18 0]
def IX:LSO:=[Ak 19 18 17]
def IW:LSO:=[Aq 20 1 16 18,Ad 21 1 20,Aa 7 21]
def IV:LSO:=[Aa 22 7,An 23 22,Ab 24 0]
def IU:LSO:=[Ak 25 24 23]
def Gx:LSO:=[Aq 26 2 22 24,Ap 27 2 26,Bg 9,Ai 2 9 27]
def Gw:LSO:=[Ac 28 1 9,Ad 29 1 28,Ar 30 29,A0 31 30 4096]
def Gv:LSO:=[Ao 2,Ab 3 5]
def Gu:LSO:=[Aa 32 5,Ah 33 32 1,Aa 5 33]
def Gt:LSO:=[Ah 34 24 1,Aa 24 34]
def Gs:LSO:=[Ah 35 18 1,Aa 18 35]
def Gr:LSO:=[Aa 36 0,o1 37 (.call 164 [(tm 36),(.av (.bool false))]),Aa 10 37]
def Gq:LSO:=[Aa 38 10,Ar 39 38,A0 40 39 4096]
def Gp:LSO:=[Ao 2,Ab 3 5]
def Gn:LSO:=[Aa 41 10,Aa 2 41,Ab 3 0]
def Hm:aW:=⟨42,(.seq (.sreg I3 [])
 (.seq (.seq (.sreg I2 Ch)
 (.seq (.sreg I1 Cg)
 (.cond (tm 14) (.seq (.sreg I0 Cm)
 .ret)
 .skip)))
 (.seq (.sreg IZ [])
 (.seq (.seq (.sreg IY [])
 (.block 0 (.loop (.seq (.sreg IX [])
 (.seq (.cond (tm 19) .skip
 (.exit 0))
 (.seq (.block 1 (.seq (.sreg IW Ch)
 (.seq (.sreg IV [])
 (.block 2 (.loop (.seq (.sreg IU [])
 (.seq (.cond (tm 25) .skip
 (.exit 2))
 (.seq (.block 3 (.seq (.sreg Gx Ch)
 (.seq (.seq (.sreg Gw Ci)
 (.cond (tm 31) (.seq (.sreg Gv [])
 .ret)
 .skip))
 (.sreg Gu Ch))))
 (.sreg Gt Cg)))))))))
 (.sreg Gs Cg)))))))
 (.seq (.sreg Gr Ch)
 (.seq (.seq (.sreg Gq Ch)
 (.cond (tm 40) (.seq (.sreg Gp [])
 .ret)
 .skip))
 (.seq (.sreg Gn Cm)
 .ret))))))),[(.tmp 2),(.tmp 3)]⟩
attribute [push_cast] I3 I2 I1 I0 IZ IY IX IW IV IU Gx Gw Gv Gu Gt Gs Gr Gq Gp Gn
theorem NG:bb Tryz.prog (fun _ _=>1) 163=some Hm.raw:=by kernel_rfl
def KP:LSO:=[Ao 2,Ab 3 0]
def KO:LSO:=[Aa 7 0,Aj 8 163 7,Aa 6 8,As 9 6,Au 10 6,Aa 4 9,Aa 5 10]
def KN:LSO:=[Aa 11 5,AF 12 11 0]
def KM:LSO:=[Aa 13 5,Ao 2,Aa 3 13]
def KL:LSO:=[Aa 14 0,o1 15 (.call 164 [(tm 14),(.av (.bool true))]),Aa 2 15,Ab 3 0]
def Kl:aW:=⟨16,(.seq (.sreg KP [])
 (.seq (.seq (.sreg KO Cl)
 (.seq (.sreg KN Cg)
 (.cond (tm 12) (.seq (.sreg KM Cm)
 .ret)
 .skip)))
 (.seq (.sreg KL Cw)
 .ret))),[(.tmp 2),(.tmp 3)]⟩
attribute [push_cast] KP KO KN KM KL
theorem O1:bb Tryz.prog (fun _ _=>1) 129=some Kl.raw:=by kernel_rfl
def Me:LSO:=[Ao 2,Ab 3 0]
def Md:LSO:=[Aa 7 0,Aj 8 128 7,Aa 6 8,As 9 6,Au 10 6,Aa 4 9,Aa 5 10]
def Mc:LSO:=[Aa 11 5,AF 12 11 0]
def Mb:LSO:=[Aa 13 5,Ao 2,Aa 3 13]
def Ma:LSO:=[Aa 14 4,Aj 15 129 14,As 16 15,Au 17 15,Aa 2 16,Aa 3 17]
def Na:aW:=⟨18,(.seq (.sreg Me [])
 (.seq (.sreg Md Cz)
 (.seq (.seq (.sreg Mc Cg)
 (.cond (tm 12) (.seq (.sreg Mb Cm)
 .ret)
 .skip))
 (.seq (.sreg Ma C6)
 .ret)))),[(.tmp 2),(.tmp 3)]⟩
attribute [push_cast] Me Md Mc Mb Ma
theorem Qb:bb Tryz.prog (fun _ _=>1) 85=some Na.raw:=by kernel_rfl
def cj:LSO:=[Af 4]
def ci:LSO:=[Aa 5 0,Aa 6 1,Aw 7 149 5 6,AZ 8 7 0,Aa 4 8]
def bI:aW:=⟨9,(.seq (.sreg cj [])
 (.seq (.sreg ci Cj)
 .ret)),[(.tmp 4)]⟩
attribute [push_cast] cj ci
theorem dL:bb Tryz.prog (fun _ _=>1) 112=some bI.raw:=by kernel_rfl
def cM:LSO:=[Ab 4 0]
def cL:LSO:=[Aa 6 0,An 7 6,Ab 8 0]
def cK:LSO:=[Ak 9 8 7]
def cJ:LSO:=[Aa 10 8,Aa 5 10]
def cI:LSO:=[Aa 11 1,Aa 12 0,Aa 13 5,Aq 14 2 12 13,Ap 15 2 14,B8 16 11 15]
def cH:LSO:=[Aa 17 5,Aa 4 17]
def cG:LSO:=[Ah 18 8 1,Aa 8 18]
def cF:LSO:=[Ab 4 (-1)]
def cb:aW:=⟨19,(.seq (.sreg cM [])
 (.seq (.seq (.sreg cL Cm)
 (.block 0 (.loop (.seq (.sreg cK [])
 (.seq (.cond (tm 9) .skip
 (.exit 0))
 (.seq (.block 1 (.seq (.sreg cJ Cg)
 (.seq (.sreg cI Ck)
 (.cond (tm 16) (.seq (.sreg cH Cg)
 .ret)
 .skip))))
 (.sreg cG Cg)))))))
 (.seq (.sreg cF [])
 .ret))),[(.tmp 4)]⟩
attribute [push_cast] cM cL cK cJ cI cH cG cF
theorem dY:bb Tryz.prog (fun _ _=>1) 149=some cb.raw:=by kernel_rfl
def sy:LSO:=[Ao 4,Ao 5,Af 6]
def sx:LSO:=[Aa 7 0,Aa 8 1,Aw 9 191 7 8,As 10 9,Au 11 9,Bh 12 9,Aa 4 10,Aa 5 11,Aa 6 12]
def eO:aW:=⟨13,(.seq (.sreg sy [])
 (.seq (.sreg sx C4)
 .ret)),[(.tmp 4),(.tmp 5),(.tmp 6)]⟩
attribute [push_cast] sy sx
theorem qW:bb Tryz.prog (fun _ _=>1) 160=some eO.raw:=by kernel_rfl
def dD:LSO:=[Ao 4,Ao 5,Af 6]
def dC:LSO:=[Aa 8 0,Aa 9 1,Aw 10 135 8 9,Aa 7 10]
def dB:LSO:=[Aa 11 7,AZ 12 11 0]
def dA:LSO:=[Aa 13 0,Aa 14 7,o1 15 (.slS (tm 13) none (some (tm 14))),Aa 16 0,Aa 17 7,Aa 18 1,Ar 19 18,AP 20 17 19,BF 21 16 20,Aa 4 15,Aa 5 21,Ax 6]
def dz:LSO:=[Aa 22 0,Aa 4 22,Ao 5,Af 6]
def bF:aW:=⟨23,(.seq (.sreg dD [])
 (.seq (.seq (.sreg dC Ci)
 (.seq (.sreg dB Cg)
 (.cond (tm 12) (.seq (.sdreg dA [.pure,.pure,(.read 0 0),.pure,.pure,.pure,(.read 0 0),.pure,(.read 0 0),.pure] CD)
 .ret)
 .skip)))
 (.seq (.sreg dz Ct)
 .ret))),[(.tmp 4),(.tmp 5),(.tmp 6)]⟩
attribute [push_cast] dD dC dB dA dz
theorem dv:bb Tryz.prog (fun _ _=>1) 191=some bF.raw:=by kernel_rfl
set_option maxHeartbeats 8000000
set_option maxRecDepth 100000
theorem LQ {n:Int} (h0 : -2147483648≤n) (h1:n<2147483648):IntKind.i32.wrap n=n:=by
 simp only [IntKind.wrap,IntKind.bits,IntKind.signed]
 simp
 omega
theorem MS {s:List UInt8} {p:Nat} (h:p<s.length) (ha:(s.getD p 0).toNat<128):Lf s p=((s.getD p 0).toNat,1):=by
 have e:s.getD p 0=s[p]:=by simp [h]
 rw [e] at ha ⊢
 exact decode_ascii ⟨⟨s⟩⟩ p h ha
theorem Oc {s:List UInt8} {p:Nat} (h:p<s.length) (ha:128≤(s.getD p 0).toNat):128≤(Lf s p).1:=by
 have e:s.getD p 0=s[p]:=by simp [h]
 rw [e] at ha
 exact (decode_high ⟨⟨s⟩⟩ p h ha).1
def mt (x:Int):Bool:=(decide (97≤x) && decide (x≤122)) || (decide (65≤x) && decide (x≤90))
theorem jN {x:Int} {L:List Blk} {K:AV→List Blk→Prop} (h:K (.bool (mt x)) L):ad Tryz.prog 165 [.int .i32 x] L K:=by
 refine ae M8 (by simp [Dj]) ?_
 simp only [Dj,ar]
 refine wk ?_
 all_goals (first|refine ab rfl (Kto h ?_)|refine aa (Kto h ?_)|refine ab (by simp only [AV.refs,AV.refsL, *];rfl) (Kto h ?_)|refine bE (ab rfl (Kto h ?_))|(trace_state;fail))
 all_goals (first|(simp [mt, *];done)|(simp [mt, *];omega)|(simp [mt, *];intros;omega)|(simp_all [Hid,mt];done)|(simp_all [Hid,mt];omega))
def JK (x:Int):Bool:=mt x || (decide (48≤x) && decide (x≤57)) || decide (x=45)
def eS (s:List UInt8):Bool:=decide (1≤s.length) && decide (s.length≤32) && mt ((s.getD 0 0).toNat:Int) && s.all fun c=>JK (c.toNat:Int)
theorem NM {x:Int} (h:128≤x):JK x=false:=by
 simp only [JK,mt,Bool.or_eq_false_iff,Bool.and_eq_false_iff,decide_eq_false_iff_not]
 omega
theorem Oo {s:List UInt8} {L:List Blk} {K:AV→List Blk→Prop} (h:K (.bool (eS s)) L):ad Tryz.prog 133 [.str s] L K:=by
 have no:eS s=false→K (.bool false) L:=fun e=>by rw [← e];exact h
 replace no:=hid no
 replace h:=hid h
 refine ae O0 (by simp [Kk]) ?_
 simp only [Kk,ar]
 by_cases h0:s=[]
 · subst h0
   refine wk ?_
   exact aa (no.out rfl)
 have hlen:0<s.length:=List.length_pos_iff.2 h0
 by_cases h1:(32:Int)<(s.length:Int)
 · refine wk ?_
   exact aa (no.out (by simp [eS];omega))
 obtain ⟨c0,hc0⟩:∃ c,s.getD 0 0=c:=⟨_,rfl⟩
 have hr:=c0.toNat_lt
 have w0:IntKind.i32.wrap (c0.toNat:Int)=(c0.toNat:Int):=LQ (by omega) (by omega)
 cases hl0:mt (c0.toNat:Int) with
 | false =>
   have kk1:=@hid _ @jN
   refine wk ?_
   refine aa (no.out ?_)
   simp only [eS,hc0,hl0,Bool.and_false,Bool.false_and]
 | true =>
   have kk1:=@hid _ @jN
   refine wk ?_
   refine am (fun n T' L'=>∃ p,n=s.length - p∧p≤s.length∧Hid (∀ c∈s.take p,JK (c.toNat:Int)=true)∧T'=[(20,.ptr L.length 0)]∧L'=L++[.siter s p]) (CutS (b:=by simp)) ⟨0,rfl,Nat.zero_le _,hid (by simp),rfl,rfl⟩ ?_
   rintro _ _ _ ⟨p,rfl,hp,hall,rfl,rfl⟩
   by_cases hlt:p<s.length
   · obtain ⟨c,hc⟩:∃ c,s.getD p 0=c:=⟨_,rfl⟩
     have hmem:c∈s:=by rw [← hc];simp [hlt]
     have htk:s.take (p+1)=s.take p++[c]:=by rw [List.take_succ_eq_append_getElem hlt,← hc];simp [hlt]
     replace htk:=hid htk
     have bad:JK (c.toNat:Int)=false→K (.bool false) L:=fun e=>no.out (by
       have:(s.all fun c=>JK (c.toNat:Int))=false:=List.all_eq_false.2 ⟨c,hmem,by rw [e];simp⟩
       simp only [eS,this,Bool.and_false])
     replace bad:=hid bad
     by_cases ha:c.toNat<128
     · have hd:=MS hlt (by rw [hc];exact ha)
       rw [hc] at hd
       obtain ⟨x,hx⟩:∃ x:Nat,c.toNat=x:=⟨_,rfl⟩
       rw [hx] at hd bad
       have hx':=hid hx
       clear hx hc hmem ha hr w0
       cases hxl:mt (x:Int) with
       | true =>
         have kk1:=@hid _ @jN
         refine wk ?_
         refine ak _ _ _ (by omega) (CutS (b:=by simp)) ⟨p+1,rfl,hlt,hid fun d hd'=>?_,rfl,rfl⟩
         rw [htk.out] at hd'
         rcases List.mem_append.1 hd' with h|h
         · exact hall.out d h
         · rw [List.mem_singleton.1 h,hx'.out,JK,hxl];rfl
       | false =>
         repeat' first
           | refine a8 ?_
           | (first|refine aP (by kernel_rfl) ?_|refine aB (by kernel_rfl) ?_|refine aC ?_|refine bj ?_|refine aX (fun _=>?_)|refine ay ?_|refine aS ?_|refine jN ?_|refine aK (jN ⟨rfl,rfl⟩) (jN ⟨rfl,rfl⟩) ?_|refine aq (jN ⟨rfl,rfl⟩) ?_)
             refine sm ?_
           | (first|refine aL (by kernel_rfl) ?_|refine aQ ?_|refine aR ?_|refine ba (ax ?_))
             refine sl ?_
           | exact aY
           | first|apply aZ|apply aM|apply a6|apply aN|apply a7|apply aO
           | refine aF ?_
           | first|refine aD rfl ?_|refine aE rfl ?_|refine ap rfl ?_ ?_|refine aH rfl (fun _=>?_) (fun _=>?_)|refine aG rfl (fun _=>?_) (fun _=>?_)
           | ((first|refine ao (fun _=>?_) (fun _=>?_)|refine aw (fun _=>?_) (fun _=>?_))<;>try refine sm ?_)
           | refine And.intro trivial ?_
           | refine And.intro (by omega) ?_
           | refine aI rfl (fun _=>?_) (fun _=>?_)
           | refine And.intro ?_ ?_
         · rename_i hb
           refine ab rfl (bad.out ?_)
           simp only [JK,hxl,Bool.false_or,Bool.or_eq_false_iff,Bool.and_eq_false_iff,decide_eq_false_iff_not]
           omega
         · rename_i hb
           refine ak _ _ _ (by omega) (CutS (b:=by simp)) ⟨p+1,rfl,hlt,hid fun d hd'=>?_,rfl,rfl⟩
           rw [htk.out] at hd'
           rcases List.mem_append.1 hd' with h|h
           · exact hall.out d h
           · rw [List.mem_singleton.1 h,hx'.out]
             simp only [JK,hxl,Bool.false_or,Bool.or_eq_true,Bool.and_eq_true,decide_eq_true_eq]
             omega
     · have hh:=Oc hlt (by rw [hc];omega)
       obtain ⟨⟨x,wd⟩,hd⟩:∃ q,Lf s p=q:=⟨_,rfl⟩
       rw [hd] at hh
       simp only at hh
       have bad':=hid (bad.out (NM (show (128:Int)≤(c.toNat:Int) by omega)))
       have hxl:mt (x:Int)=false:=by
         have:=NM (show (128:Int)≤(x:Int) by omega)
         simp only [JK,Bool.or_eq_false_iff] at this
         exact this.1.1
       have f1:¬ (x:Int)<48:=by omega
       have f2:(57:Int)<(x:Int):=by omega
       have f3:¬ (x:Int)=45:=by omega
       clear hc hmem hr w0
       have kk1:=@hid _ @jN
       refine wk ?_
       exact ab rfl bad'.out
   · have hke:p=s.length:=by omega
     subst hke
     have h':=h.out
     have e:eS s=true:=by
       have e1:(s.all fun c=>JK (c.toNat:Int))=true:=List.all_eq_true.2 fun c hcm=>hall.out c (by rw [List.take_length];exact hcm)
       simp only [eS,e1,hc0,hl0,Bool.and_true]
       simp;omega
     rw [e] at h'
     replace h':=hid h'
     clear e
     refine wk ?_
     exact ab rfl h'.out
variable {L:List Blk} {K:AV→List Blk→Prop}
abbrev Ava:=List UInt8×List UInt8
def lB (a:Ava):List AV:=[.str a.1,.str a.2]
def aU (r:List Ava):List AV:=r.flatMap lB
abbrev QC (r:List Ava) (cap:Option Nat):AV:=.sl (aU r) r.length cap
def kA (r:List Ava) (typ:List UInt8):Bool:=r.any fun a=>decide (ah a.1=ah typ)
theorem Xs {a:Ava} {typ:List UInt8} {ip:Nat} (h1:(a.1.length:Int)≤100000) (h2:(typ.length:Int)≤100000) (hL:L[ip]?=some (.cells [.str typ])) (h:K (.bool (decide (ah a.1=ah typ))) L) :
   ad Tryz.prog 192 [.agg (lB a),.ptr ip 0] L K:=by
 obtain ⟨t,v⟩:=a
 replace h:=hid h
 have hip:ip<L.length:=(List.getElem?_eq_some_iff.1 hL).1
 have g1:(L++[Blk.cells [.str t,.str v]])[ip]?=some (.cells [.str typ]):=by rw [List.getElem?_append_left hip];exact hL
 simp only [lB]
 refine ae NE (by simp [Hk]) ?_
 simp only [Hk,ar]
 have kk1:=@hid _ (fun L K=>CT h1 (L:=L) (K:=K))
 have kk2:=@hid _ (fun L K=>CT h2 (L:=L) (K:=K))
 refine wk ?_
 exact ab rfl h.out
theorem cQ (r:List Ava):(aU r).length=r.length * 2:=by
 induction r with
 | nil=>rfl
 | cons a r ih=>simp only [aU,List.flatMap_cons,List.length_append,lB,List.length_cons,List.length_nil] at ih ⊢;omega
theorem dT:∀ {r:List Ava} {k:Nat},k<r.length→((aU r).drop (k * 2)).take 2=lB (r.getD k ([],[]))
 | a::r,0,_=>rfl
 | a::r,k+1,h=>by
   have ih:=@dT r k (by simpa using h)
   rw [show (k+1) * 2=k * 2+1+1 by omega]
   simpa [aU,lB] using ih
theorem Uy {r:List Ava} {typ:List UInt8} {cap:Option Nat} {ip:Nat} (hn:r.length≤100000) (h1:∀ a∈r,(a.1.length:Int)≤100000) (h2:(typ.length:Int)≤100000) (hL:L[ip]?=some (.cells [.str typ]))
   (hno:kA r typ=false→K (.int .i64 (-1)) L) (hyes:∀ k:Nat,kA r typ=true→K (.int .i64 k) L):ad Tryz.prog 149 [QC r cap,.func 192 [.ptr ip 0]] L K:=by
 replace hno:=hid hno
 replace hyes:=hid hyes
 replace h1:=hid h1
 refine ae dY (by simp [cb]) ?_
 simp only [cb,ar]
 refine wk ?_
 refine am (fun n T' L'=>∃ (k:Nat),n=r.length - k∧k≤r.length∧Hid (kA (r.take k) typ=false)∧T'=[(8,.int .i64 (k:Int)),(7,.int .i64 r.length),(0,QC r cap),(1,.func 192 [.ptr ip 0])]∧L=L') (CutS (b:=Nat.le_refl _)) ⟨0,rfl,Nat.zero_le _,hid rfl,rfl,rfl⟩ ?_
 rintro _ _ _ ⟨k,rfl,hk,hf,rfl,rfl⟩
 by_cases hlt:k<r.length
 · have g1:(k:Int)<(r.length:Int):=by omega
   have g2:IntKind.i64.wrap ((k:Int)+1)=(k:Int)+1:=ac (by omega) (by omega)
   have e1:=dT hlt
   have e2:k * 2+2≤(aU r).length:=by rw [cQ];omega
   obtain ⟨a,ha⟩:∃ a,r.getD k ([],[])=a:=⟨_,rfl⟩
   have ham:a∈r:=by rw [← ha];simp [hlt]
   have htk:r.take (k+1)=r.take k++[a]:=by rw [List.take_succ_eq_append_getElem hlt,← ha];simp [hlt]
   rw [ha] at e1
   have hs:kA (r.take (k+1)) typ=decide (ah a.1=ah typ):=by
     have:=hf.out
     simp only [kA] at this ⊢
     rw [htk,List.any_append,this];simp
   have hall:decide (ah a.1=ah typ)=true→kA r typ=true:=fun e=>List.any_eq_true.2 ⟨a,ham,e⟩
   replace hall:=hid hall
   replace hs:=hid hs
   replace htk:=hid htk
   have ha1:=hid (h1.out a ham)
   clear ha ham
   refine wk ?_
   refine Xs ha1.out h2 hL ?_
   refine sk ?_
   cases hd:decide (ah a.1=ah typ) with
   | true =>
     have hy:=hid (hyes.out k (hall.out hd))
     replace hd:=hid hd
     refine wk ?_
     exact aa hy.out
   | false =>
     replace hd:=hid hd
     refine wk ?_
     exact ak _ _ _ (by omega) (CutS (b:=Nat.le_refl _)) ⟨k+1,rfl,hlt,hid (by rw [hs.out,hd.out]),rfl,rfl⟩
 · have hke:k=r.length:=by omega
   subst hke
   have g1:¬ (r.length:Int)<(r.length:Int):=by omega
   have hn':=hf.out
   rw [List.take_length] at hn'
   have hy:=hid (hno.out hn')
   clear hn'
   refine wk ?_
   exact aa hy.out
theorem P6 {r:List Ava} {typ:List UInt8} {cap:Option Nat} {ip:Nat} (hn:r.length≤100000) (h1:∀ a∈r,(a.1.length:Int)≤100000) (h2:(typ.length:Int)≤100000) (hL:L[ip]?=some (.cells [.str typ])) (h:K (.bool (kA r typ)) L) :
   ad Tryz.prog 112 [QC r cap,.func 192 [.ptr ip 0]] L K:=by
 replace h:=hid h
 refine ae dL (by simp [bI]) ?_
 simp only [bI,ar]
 refine wk ?_
 refine Uy hn h1 h2 hL (fun e=>?_) (fun k e=>?_)
 · have h':=h.out
   rw [e] at h'
   replace h':=hid h'
   refine sk ?_
   refine wk ?_
   exact aa h'.out
 · have h':=h.out
   rw [e] at h'
   replace h':=hid h'
   have g:(0:Int)≤(k:Int):=by omega
   refine sk ?_
   refine wk ?_
   exact aa h'.out
theorem WS {r:List Ava} {typ:List UInt8} {cap:Option Nat} (hn:r.length≤100000) (h1:∀ a∈r,(a.1.length:Int)≤100000) (h2:(typ.length:Int)≤100000) (h:K (.bool (kA r typ)) L) :
   ad Tryz.prog 161 [QC r cap,.str typ] L K:=by
 replace h:=hid h
 refine ae Qa (by simp [M9]) ?_
 simp only [M9,ar]
 refine wk ?_
 refine P6 hn h1 h2 (by simp) ?_
 refine sk ?_
 refine wk ?_
 exact ab rfl h.out
theorem dF {a:List UInt8} {c:UInt8} {L:List Blk} {K:AV→List Blk→Prop} (h:K (.int .i64 (Lib.indexByte a c)) L):ad Tryz.prog 193 [.str a,.int .u8 c.toNat] L K :=
 cE Tryz.func193 rfl (by kernel_rfl) (fun w0 S0 E w vs hR hv=>by
   simp only [VRL,VR] at hv
   obtain ⟨_,_,rfl,rfl,_,_,rfl,rfl,rfl⟩:=hv
   exact (Tryz.strings_IndexByte ⟨⟨a⟩⟩ c.toNat w).mono fun e w' ⟨he,hw⟩=>⟨_,he,by simp [VR],by subst hw;exact Dm.refl _⟩) h
theorem kF (a:List UInt8) (c:UInt8):(0≤Lib.indexByte a c)↔c∈a:=by
 induction a with
 | nil=>simp [Lib.indexByte]
 | cons b l ih =>
   have hge:=Lib.indexByte_ge l c
   unfold Lib.indexByte
   by_cases hb:b=c
   · simp [hb]
   · have e1:(b == c)=false:=by simpa using hb
     rw [e1]
     simp only [Bool.false_eq_true,if_false]
     have e2:c∈b::l↔c∈l:=by simp [Ne.symm hb]
     rw [e2,← ih]
     split
     · rename_i h;simp at h;omega
     · rename_i h;simp at h;omega
theorem be (c d:UInt8):(c.toNat:Int)=(d.toNat:Int)↔c=d:=by
 constructor
 · intro h
   exact UInt8.toNat_inj.1 (by omega)
 · rintro rfl;rfl
def wrB (i n:Nat) (c:UInt8):List UInt8 :=
 if c=0 then [92,48,48] else if (i=0∧(c=32∨c=35))∨(i+1=n∧c=32)∨c∈[34,43,44,59,60,62,92] then [92,c] else [c]
def wrL (n:Nat):Nat→List UInt8→List UInt8
 | _,[]=>[]
 | i,c::s=>wrB i n c++wrL n (i+1) s
def iA (s:List UInt8):List UInt8:=wrL s.length 0 s
theorem Vx (i n:Nat) (c:UInt8):(wrB i n c).length≤3:=by
 unfold wrB;split
 · simp
 · split<;>simp
theorem dH {s:List UInt8} (hs:s.length≤100000) (h:K (.str (iA s)) L):ad Tryz.prog 196 [.str s] L K:=by
 replace h:=hid h
 have g0:IntKind.i64.wrap ((s.length:Int) - 1)=(s.length:Int) - 1:=ac (by omega) (by omega)
 refine ae Ly (by simp [rO]) ?_
 simp only [rO,ar]
 refine wk ?_
 refine ch (l:=[]) (n:=0) 3 1 rfl (Nat.zero_mul 1).symm ?_
 refine am (fun n T' L'=>∃ (i m:Nat) (b:List UInt8),n=s.length - i∧i≤s.length∧m≤3 * i∧Hid (m=b.length∧b++wrL s.length i (s.drop i)=iA s)∧T'=[(10,.int .i64 (i:Int)),(9,.int .i64 s.length),(8,.sl (u8s s) s.length none),(3,.gsl (u8s b) m L.length 1),(0,.str s)]∧L'=L++[.spare m 1]) (CutS (b:=by simp)) ⟨0,0,[],rfl,Nat.zero_le _,by omega,hid ⟨rfl,rfl⟩,rfl,rfl⟩ ?_
 rintro _ _ _ ⟨i,m,b,rfl,hi,hm,hb,rfl,rfl⟩
 by_cases hlt:i<s.length
 · have g1:(i:Int)<(s.length:Int):=by omega
   have g2:IntKind.i64.wrap ((i:Int)+1)=(i:Int)+1:=ac (by omega) (by omega)
   obtain ⟨c,hc⟩:∃ c,s.getD i 0=c:=⟨_,rfl⟩
   have g3:(u8s s).getD i .undef=.int .u8 c.toNat:=by rw [← hc];simp [u8s,hlt]
   have hdr:s.drop i=c::s.drop (i+1):=by rw [List.drop_eq_getElem_cons hlt,← hc];simp [hlt]
   have hb2:=hb.out.2
   rw [hdr] at hb2
   simp only [wrL] at hb2
   have g4:=fM
   have g5:(u8s s).length=s.length:=by simp [u8s]
   clear hc hdr
   replace hb2:=hid hb2
   repeat' first
     | refine a8 ?_
     | (first|refine aP (by kernel_rfl) ?_|refine aB (by kernel_rfl) ?_|refine aC ?_|refine bj ?_|refine aX (fun _=>?_)|refine ay ?_|refine aS ?_|refine dF ?_|refine aK (dF ⟨rfl,rfl⟩) (dF ⟨rfl,rfl⟩) ?_|refine aq (dF ⟨rfl,rfl⟩) ?_)
       refine sm ?_
     | (first|refine aL (by kernel_rfl) ?_|refine aQ ?_|refine aR ?_|refine ba (ax ?_))
       refine sl ?_
     | exact aY
     | first|apply aZ|apply aM|apply a6|apply aN|apply a7|apply aO
     | refine aF ?_
     | first|refine aD rfl ?_|refine aE rfl ?_|refine ap rfl ?_ ?_|refine aH rfl (fun _=>?_) (fun _=>?_)|refine aG rfl (fun _=>?_) (fun _=>?_)
     | ((first|refine ao (fun _=>?_) (fun _=>?_)|refine aw (fun _=>?_) (fun _=>?_))<;>try refine sm ?_)
     | refine And.intro trivial ?_
     | refine And.intro (by omega) ?_
     | refine aI rfl (fun _=>?_) (fun _=>?_)
     | refine And.intro ?_ ?_
   · rfl
   · omega
   · rename_i h0
     have hc0:=(be c 0).1 h0
     rw [show u8s b++AV.frzL (u8s [92,48,48])=u8s (b++[92,48,48]) by simp [u8s,AV.frzL,AV.frz]]
     refine ak _ _ _ (by omega) (CutL (b:=by simp)) ⟨i+1,m+3,b++[92,48,48],rfl,hlt,by omega,hid ⟨by simp [hb.out.1],?_⟩,rfl,rfl⟩
     rw [← hb2.out,wrB,if_pos hc0,List.append_assoc]
   · rename_i h0 h1
     have hc0:¬ c=0:=fun e=>h0 ((be c 0).2 e)
     have hq:(i=0∧(c=32∨c=35))∨(i+1=s.length∧c=32)∨c∈[34,43,44,59,60,62,92]:=by
       rcases h1 with (⟨e1,e2⟩|⟨e1,e2⟩)|e
       · exact .inl ⟨by omega,e2.imp (be c 32).1 (be c 35).1⟩
       · exact .inr (.inl ⟨by omega,(be c 32).1 e2⟩)
       · exact .inr (.inr ((kF _ _).1 e))
     rw [show u8s b++[AV.int IntKind.u8 92,AV.int IntKind.u8 (c.toNat:Int)]=u8s (b++[92,c]) by simp [u8s]]
     refine ak _ _ _ (by omega) (CutL (b:=by simp)) ⟨i+1,m+1+1,b++[92,c],rfl,hlt,by omega,hid ⟨by simp [hb.out.1],?_⟩,rfl,rfl⟩
     rw [← hb2.out,wrB,if_neg hc0,if_pos hq,List.append_assoc]
   · rename_i h0 h1
     have hc0:¬ c=0:=fun e=>h0 ((be c 0).2 e)
     have hq:¬ ((i=0∧(c=32∨c=35))∨(i+1=s.length∧c=32)∨c∈[34,43,44,59,60,62,92]):=fun hq=>h1 (by
       rcases hq with ⟨e1,e2⟩|⟨e1,e2⟩|e
       · exact .inl (.inl ⟨by omega,e2.imp (be c 32).2 (be c 35).2⟩)
       · exact .inl (.inr ⟨by omega,(be c 32).2 e2⟩)
       · exact .inr ((kF _ _).2 e))
     rw [show u8s b++[AV.int IntKind.u8 (c.toNat:Int)]=u8s (b++[c]) by simp [u8s]]
     refine ak _ _ _ (by omega) (CutL (b:=by simp)) ⟨i+1,m+1,b++[c],rfl,hlt,by omega,hid ⟨by simp [hb.out.1],?_⟩,rfl,rfl⟩
     rw [← hb2.out,wrB,if_neg hc0,if_neg hq,List.append_assoc]
 · have hke:i=s.length:=by omega
   subst hke
   have g1:¬ (s.length:Int)<(s.length:Int):=by omega
   have e1:=fM b
   have e2:=er b
   have e:=hb.out.2
   rw [List.drop_length,wrL,List.append_nil] at e
   have h':=h.out
   rw [← e] at h'
   replace h':=hid h'
   clear e
   refine wk ?_
   exact ab rfl h'.out
abbrev kL:List UInt8:=[34,43,44,59,60,62,92,32,35,61]
def fI:List UInt8→Bool→List UInt8→Option (List UInt8×List UInt8×Bool)
 | b,bl,[]=>some (b,[], !bl)
 | b,bl,c::s=>if c=44∨c=43 then some (b,c::s, !bl)
   else if c≠92 then (if c=0∨c∈([34,59,60,62]:List UInt8)∨(b=[]∧(c=32∨c=35)) then none else fI (b++[c]) (decide (c=32)) s)
   else match s with
     | []=>none
     | d::s1=>if d∈kL then fI (b++[d]) false s1 else match s1 with
       | []=>none
       | e::s2=>match Ju d e with
         | none=>none
         | some x=>fI (b++[x]) false s2
def R3 (o:Option (List UInt8×List UInt8×Bool)):AV:=match o with
 | none=>.tup [.str [],.str [],.bool false]
 | some (v,r,f)=>.tup [.str v,.str r,.bool f]
theorem kJ {b:List UInt8} {bl:Bool}:fI b bl []=some (b,[], !bl):=by rw [fI.eq_def]
theorem mU {b:List UInt8} {bl:Bool} {c:UInt8} {s:List UInt8} (h:c=44∨c=43):fI b bl (c::s)=some (b,c::s, !bl):=by rw [fI.eq_def];simp only [if_pos h]
theorem kI {b:List UInt8} {bl:Bool} {c:UInt8} {s:List UInt8} (h:¬ (c=44∨c=43)) (h2:c≠92):fI b bl (c::s)=if c=0∨c∈([34,59,60,62]:List UInt8)∨(b=[]∧(c=32∨c=35)) then none else fI (b++[c]) (decide (c=32)) s:=by
 rw [fI.eq_def];simp only [if_neg h,if_pos h2]
theorem Dv {b:List UInt8} {bl:Bool}:fI b bl [92]=none:=by rw [fI.eq_def];rfl
theorem Du {b:List UInt8} {bl:Bool} {d:UInt8} {s:List UInt8} (h:d∈kL):fI b bl (92::d::s)=fI (b++[d]) false s:=by
 rw [fI.eq_def]
 simp only [show ¬ ((92:UInt8)=44∨(92:UInt8)=43) by decide,if_false,ne_eq,not_true_eq_false,if_pos h]
theorem Dt {b:List UInt8} {bl:Bool} {d:UInt8} (h:¬ d∈kL):fI b bl [92,d]=none:=by
 rw [fI.eq_def]
 simp only [show ¬ ((92:UInt8)=44∨(92:UInt8)=43) by decide,if_false,ne_eq,not_true_eq_false,if_neg h]
theorem Hs {b:List UInt8} {bl:Bool} {d e:UInt8} {s:List UInt8} (h:¬ d∈kL):fI b bl (92::d::e::s)=match Ju d e with|none=>none|some x=>fI (b++[x]) false s:=by
 rw [fI.eq_def]
 simp only [show ¬ ((92:UInt8)=44∨(92:UInt8)=43) by decide,if_false,ne_eq,not_true_eq_false,if_neg h]
theorem jf {s:List UInt8} {i:Nat} (h:i<s.length):s.drop i=s.getD i 0::s.drop (i+1):=by
 rw [List.drop_eq_getElem_cons h];simp [h]
theorem Vy {s:List UInt8} (hs:s.length≤100000) (h:K (R3 (fI [] false s)) L):ad Tryz.prog 162 [.str s] L K:=by
 replace h:=hid h
 refine ae ND (by simp [Hj]) ?_
 simp only [Hj,ar]
 refine wk ?_
 refine ch (l:=[]) (n:=0) 5 1 rfl (Nat.zero_mul 1).symm ?_
 refine am (fun n T' L'=>∃ (i m:Nat) (b:List UInt8) (bl:Bool),n=s.length - i∧i≤s.length∧m≤i∧Hid (m=b.length∧fI b bl (s.drop i)=fI [] false s)∧T'=[(7,.int .i64 (i:Int)),(6,.bool bl),(5,.gsl (u8s b) m L.length 1),(0,.str s)]∧L'=L++[.spare m 1]) (CutS (b:=by simp)) ⟨0,0,[],false,rfl,Nat.zero_le _,by omega,hid ⟨rfl,rfl⟩,rfl,rfl⟩ ?_
 rintro _ _ _ ⟨i,m,b,bl,rfl,hi,hm,hb,rfl,rfl⟩
 have e1:=fM b
 have e2:=er b
 by_cases hlt:i<s.length
 · have g1:(i:Int)<(s.length:Int):=by omega
   have g2:IntKind.i64.wrap ((i:Int)+1)=(i:Int)+1:=ac (by omega) (by omega)
   obtain ⟨c,hc⟩:∃ c,s.getD i 0=c:=⟨_,rfl⟩
   have hdr:=jf hlt
   rw [hc] at hdr
   have hb2:=hb.out.2
   rw [hdr] at hb2
   have hds:(s.drop i).take (s.length - i)=s.drop i:=List.take_of_length_le (by simp)
   have hl1:(i:Int)≤(s.length:Int):=by omega
   by_cases hcc:c=44∨c=43
   · rw [mU hcc] at hb2
     have h':=h.out
     rw [← hb2] at h'
     simp only [R3] at h'
     rw [← hdr] at h'
     replace h':=hid h'
     have k1:((c.toNat:Int)=44)∨((c.toNat:Int)=43):=hcc.imp (be c 44).2 (be c 43).2
     clear hb2 hcc hdr
     rcases k1 with k1|k1
     · refine wk ?_
       exact ab rfl h'.out
     · refine wk ?_
       exact ab rfl h'.out
   · have k1:¬ (c.toNat:Int)=44:=fun e=>hcc (.inl ((be c 44).1 e))
     have k2:¬ (c.toNat:Int)=43:=fun e=>hcc (.inr ((be c 43).1 e))
     by_cases h92:c=92
     · subst h92
       have g3:IntKind.i64.wrap ((i:Int)+2)=(i:Int)+2:=ac (by omega) (by omega)
       have g4:IntKind.i64.wrap ((i:Int)+3)=(i:Int)+3:=ac (by omega) (by omega)
       have g5:IntKind.i64.wrap ((i:Int)+1+1)=(i:Int)+1+1:=ac (by omega) (by omega)
       have g6:IntKind.i64.wrap ((i:Int)+2+1)=(i:Int)+2+1:=ac (by omega) (by omega)
       have t1:((i:Int)+1).toNat=i+1:=by omega
       have t3:((i:Int)+3).toNat=i+3:=by omega
       by_cases h1:i+1<s.length
       · have f1:(i:Int)+1<(s.length:Int):=by omega
         obtain ⟨d,hd⟩:∃ d,s.getD (i+1) 0=d:=⟨_,rfl⟩
         have hdr1:=jf h1
         rw [hd] at hdr1
         rw [hdr1] at hb2
         by_cases hsp:d∈kL
         · rw [Du hsp] at hb2
           have f2:=(kF kL d).2 hsp
           clear hdr hdr1
           replace hb2:=hid hb2
           have kk1:=@hid _ @dF
           refine wk ?_
           rw [show u8s b++[AV.int IntKind.u8 (d.toNat:Int)]=u8s (b++[d]) by simp [u8s],show decide (((UInt8.toNat 92:Nat):Int)=32)=false from rfl]
           refine ak _ _ _ (by omega) (CutL (b:=by simp)) ⟨i+1+1,m+1,b++[d],false,rfl,h1,by omega,hid ⟨by simp [hb.out.1],hb2.out⟩,rfl,rfl⟩
         · have f2:¬ 0≤Lib.indexByte kL d:=fun e=>hsp ((kF kL d).1 e)
           by_cases h2:i+2<s.length
           · have f3:(i:Int)+2<(s.length:Int):=by omega
             have f4:(i:Int)+1≤(i:Int)+3:=by omega
             have f5:(i:Int)+3≤(s.length:Int):=by omega
             have f6:(0:Int)≤(i:Int)+1:=by omega
             obtain ⟨e,he⟩:∃ e,s.getD (i+2) 0=e:=⟨_,rfl⟩
             have hdr2:=jf h2
             rw [he] at hdr2
             rw [hdr2,Hs hsp] at hb2
             have hcut:(s.drop (i+1)).take (i+3 - (i+1))=[d,e]:=by
               rw [hdr1,hdr2,show i+3 - (i+1)=2 by omega];rfl
             clear hdr hdr1 hdr2
             replace hb2:=hid hb2
             have kk1:=@hid _ @dF
             refine wk ?_
             refine Tw ?_
             rcases hx:Ju d e with _|x
             · rw [show G4 d e=.tup [.str [],.bool false] by simp only [G4,hx]]
               have h':=h.out
               rw [← hb2.out,hx] at h'
               simp only [R3] at h'
               replace h':=hid h'
               clear hx
               refine sk ?_
               refine wk ?_
               exact ab rfl h'.out
             · rw [show G4 d e=.tup [.str [x],.bool true] by simp only [G4,hx]]
               have hb3:=hb2.out
               rw [hx] at hb3
               simp only at hb3
               replace hb3:=hid hb3
               have q1:[x].getD 0 0=x:=rfl
               clear hx hb2
               refine sk ?_
               refine wk ?_
               rw [show u8s b++[AV.int IntKind.u8 (x.toNat:Int)]=u8s (b++[x]) by simp [u8s],show decide (((UInt8.toNat 92:Nat):Int)=32)=false from rfl]
               refine ak _ _ _ (by omega) (CutL (b:=by simp)) ⟨i+2+1,m+1,b++[x],false,rfl,h2,by omega,hid ⟨by simp [hb.out.1],hb3.out⟩,rfl,rfl⟩
           · have f3:¬ (i:Int)+2<(s.length:Int):=by omega
             have hnil:s.drop (i+1+1)=[]:=List.drop_eq_nil_of_le (by omega)
             rw [hnil,Dt hsp] at hb2
             have h':=h.out
             rw [← hb2] at h'
             replace h':=hid h'
             clear hdr hdr1 hb2
             have kk1:=@hid _ @dF
             refine wk ?_
             exact ab rfl h'.out
       · have f1:¬ (i:Int)+1<(s.length:Int):=by omega
         have f3:¬ (i:Int)+2<(s.length:Int):=by omega
         have hnil:s.drop (i+1)=[]:=List.drop_eq_nil_of_le (by omega)
         rw [hnil,Dv] at hb2
         have h':=h.out
         rw [← hb2] at h'
         replace h':=hid h'
         clear hdr hb2
         have kk1:=@hid _ @dF
         refine wk ?_
         exact ab rfl h'.out
     · rw [kI hcc h92] at hb2
       have k3:¬ (c.toNat:Int)=92:=fun e=>h92 ((be c 92).1 e)
       clear hdr
       replace hb2:=hid hb2
       repeat' first
         | refine a8 ?_
         | (first|refine aP (by kernel_rfl) ?_|refine aB (by kernel_rfl) ?_|refine aC ?_|refine bj ?_|refine aX (fun _=>?_)|refine ay ?_|refine aS ?_|refine dF ?_|refine aK (dF ⟨rfl,rfl⟩) (dF ⟨rfl,rfl⟩) ?_|refine aq (dF ⟨rfl,rfl⟩) ?_)
           refine sm ?_
         | (first|refine aL (by kernel_rfl) ?_|refine aQ ?_|refine aR ?_|refine ba (ax ?_))
           refine sl ?_
         | exact aY
         | first|apply aZ|apply aM|apply a6|apply aN|apply a7|apply aO
         | refine aF ?_
         | first|refine aD rfl ?_|refine aE rfl ?_|refine ap rfl ?_ ?_|refine aH rfl (fun _=>?_) (fun _=>?_)|refine aG rfl (fun _=>?_) (fun _=>?_)
         | ((first|refine ao (fun _=>?_) (fun _=>?_)|refine aw (fun _=>?_) (fun _=>?_))<;>try refine sm ?_)
         | refine And.intro trivial ?_
         | refine And.intro (by omega) ?_
         | refine aI rfl (fun _=>?_) (fun _=>?_)
         | refine And.intro ?_ ?_
       · rename_i hx
         have hbad:c=0∨c∈([34,59,60,62]:List UInt8)∨(b=[]∧(c=32∨c=35)):=by
           rcases hx with (e|e)|⟨e,e'⟩
           · exact .inl ((be c 0).1 e)
           · exact .inr (.inl ((kF _ _).1 e))
           · refine .inr (.inr ⟨List.length_eq_zero_iff.1 ?_,e'.imp (be c 32).1 (be c 35).1⟩)
             have:=hb.out.1;omega
         have h':=h.out
         rw [← hb2.out,if_pos hbad] at h'
         exact ab rfl h'
       · rename_i hx
         have hbad:¬ (c=0∨c∈([34,59,60,62]:List UInt8)∨(b=[]∧(c=32∨c=35))):=fun e=>hx (by
           rcases e with e|e|⟨e,e'⟩
           · exact .inl (.inl ((be c 0).2 e))
           · exact .inl (.inr ((kF _ _).2 e))
           · refine .inr ⟨?_,e'.imp (be c 32).2 (be c 35).2⟩
             have:=hb.out.1;rw [e] at this;simp at this;omega)
         have hc32:decide ((c.toNat:Int)=32)=decide (c=32):=by
           have:=be c 32
           simp only [decide_eq_decide];exact this
         rw [show u8s b++[AV.int IntKind.u8 (c.toNat:Int)]=u8s (b++[c]) by simp [u8s],hc32]
         refine ak _ _ _ (by omega) (CutL (b:=by simp)) ⟨i+1,m+1,b++[c],decide (c=32),rfl,hlt,by omega,hid ⟨by simp [hb.out.1],?_⟩,rfl,rfl⟩
         rw [← hb2.out,if_neg hbad]
 · have hke:i=s.length:=by omega
   subst hke
   have g1:¬ (s.length:Int)<(s.length:Int):=by omega
   have h':=h.out
   rw [← hb.out.2,List.drop_length,kJ] at h'
   simp only [R3] at h'
   replace h':=hid h'
   have hds:(s.drop s.length).take (s.length - s.length)=[]:=by simp
   refine wk ?_
   exact ab rfl h'.out
def jO:List UInt8→Option (List UInt8×List UInt8)
 | []=>none
 | c::s=>if c=61 then some ([],s) else match jO s with
   | none=>none
   | some (a,b)=>some (c::a,b)
theorem MU:∀ s:List UInt8,(Lib.indexByte s 61=-1∧jO s=none)∨∃ n:Nat,n<s.length∧Lib.indexByte s 61=(n:Int)∧jO s=some (s.take n,s.drop (n+1))
 | []=>.inl ⟨rfl,rfl⟩
 | c::s=>by
   by_cases hc:c=61
   · subst hc
     exact .inr ⟨0,by simp,by simp [Lib.indexByte],by simp [jO]⟩
   · have e1:(c == 61)=false:=by simpa using hc
     unfold Lib.indexByte
     rw [e1]
     simp only [Bool.false_eq_true,if_false,jO,if_neg hc]
     rcases MU s with ⟨h1,h2⟩|⟨n,h0,h1,h2⟩
     · exact .inl ⟨by rw [h1];rfl,by rw [h2]⟩
     · refine .inr ⟨n+1,by simp;omega,?_,by rw [h2];simp⟩
       rw [h1]
       have:((n:Int) == -1)=false:=by simp
       rw [this];simp
def MT (s:List UInt8):AV:=match jO s with
 | some (a,b)=>.tup [.str a,.str b,.bool true]
 | none=>.tup [.str s,.str [],.bool false]
theorem PO {a:List UInt8} {c:UInt8} {L:List Blk} {K:AV→List Blk→Prop} (h:K (.int .i64 (Lib.indexByte a c)) L):ad Tryz.prog 135 [.str a,.str [c]] L K :=
 cE Tryz.func135 rfl (by kernel_rfl) (fun w0 S0 E w vs hR hv=>by
   simp only [VRL,VR] at hv
   obtain ⟨_,_,rfl,rfl,_,_,rfl,rfl,rfl⟩:=hv
   exact (Tryz.stringslite_Index_one ⟨⟨a⟩⟩ c w).mono fun e w' ⟨he,hw⟩=>⟨_,he,by simp [VR],by subst hw;exact Dm.refl _⟩) h
theorem U2 {s:List UInt8} (hs:s.length≤100000) (h:K (MT s) L):ad Tryz.prog 191 [.str s,.str [61]] L K:=by
 have hl:[(61:UInt8)].length=1:=rfl
 rcases MU s with ⟨h1,h2⟩|⟨n,h0,h1,h2⟩
 · simp only [MT,h2] at h
   replace h:=hid h
   clear h2
   refine ae dv (by simp [bF]) ?_
   simp only [bF,ar]
   have kk1:=@hid _ @PO
   refine wk ?_
   exact aa h.out
 · simp only [MT,h2] at h
   replace h:=hid h
   have g1:(0:Int)≤(n:Int):=by omega
   have g2:IntKind.i64.wrap ((n:Int)+1)=(n:Int)+1:=ac (by omega) (by omega)
   have g3:(n:Int)≤(s.length:Int):=by omega
   have g4:(n:Int)+1≤(s.length:Int):=by omega
   have g5:(0:Int)≤(n:Int)+1:=by omega
   have g6:((n:Int)+1).toNat=n+1:=by omega
   have g7:(s.drop (n+1)).take (s.length - (n+1))=s.drop (n+1):=List.take_of_length_le (by simp)
   clear h2
   refine ae dv (by simp [bF]) ?_
   simp only [bF,ar]
   have kk1:=@hid _ @PO
   refine wk ?_
   exact aa h.out
theorem Yf {s:List UInt8} (hs:s.length≤100000) (h:K (MT s) L):ad Tryz.prog 160 [.str s,.str [61]] L K:=by
 rcases hc:jO s with _|⟨a,b⟩
 all_goals
   simp only [MT,hc] at h
   replace h:=hid h
 · refine ae qW (by simp [eO]) ?_
   simp only [eO,ar]
   refine wk ?_
   refine U2 hs ?_
   simp only [MT,hc]
   refine sk ?_
   refine wk ?_
   exact aa h.out
 · refine ae qW (by simp [eO]) ?_
   simp only [eO,ar]
   refine wk ?_
   refine U2 hs ?_
   simp only [MT,hc]
   refine sk ?_
   refine wk ?_
   exact aa h.out
abbrev Rdn:=List Ava
abbrev bV (r:Rdn):AV:=QC r none
def qP:Nat→List Rdn→Rdn→List UInt8→List Rdn×Int
 | 0,_,_,_=>([],4)
 | f+1,out,now,s=>if out.length=32∨now.length=8 then ([],9) else match jO s with
   | none=>([],4)
   | some (typ,rest)=>if eS typ=false then ([],4) else if kA now typ=true then ([],21) else match fI [] false rest with
     | none=>([],4)
     | some (v,r2,ok)=>if ok=false then ([],4) else match r2 with
       | []=>(out++[now++[(typ,v)]],0)
       | c::s'=>if c=44 then qP f (out++[now++[(typ,v)]]) [] s' else qP f out (now++[(typ,v)]) s'
def DM (s:List UInt8):List Rdn×Int:=if 4096<s.length then ([],5) else if s=[] then ([],0) else qP (s.length+1) [] [] s
def QK (p:List Rdn×Int):AV:=.tup [.sl (p.1.map bV) p.1.length none,.int .i64 p.2]
theorem P4:∀ {s a b:List UInt8},jO s=some (a,b)→b.length<s.length∧a.length≤s.length
 | [],a,b,h=>by simp [jO] at h
 | c::s,a,b,h=>by
   simp only [jO] at h
   split at h
   · simp only [Option.some.injEq,Prod.mk.injEq] at h
     obtain ⟨rfl,rfl⟩:=h
     simp
   · split at h
     · cases h
     · rename_i a' b' hc
       simp only [Option.some.injEq,Prod.mk.injEq] at h
       obtain ⟨rfl,rfl⟩:=h
       have:=P4 hc
       simp;omega
theorem Tu:∀ (n:Nat) {s b:List UInt8} {bl:Bool} {v r:List UInt8} {ok:Bool},s.length≤n→fI b bl s=some (v,r,ok)→r.length≤s.length:=by
 intro n
 induction n with
 | zero =>
   intro s b bl v r ok hn h
   obtain rfl:=List.length_eq_zero_iff.1 (Nat.le_zero.1 hn)
   rw [kJ] at h;cases h;simp
 | succ n ih =>
   intro s b bl v r ok hn h
   cases s with
   | nil=>rw [kJ] at h;cases h;simp
   | cons c s =>
     simp only [List.length_cons] at hn
     by_cases hc:c=44∨c=43
     · rw [mU hc] at h;cases h;simp
     by_cases h92:c=92
     · subst h92
       cases s with
       | nil=>rw [Dv] at h;cases h
       | cons d s =>
         by_cases hd:d∈kL
         · rw [Du hd] at h
           have:=ih (by simp at hn;omega) h
           simp;omega
         · cases s with
           | nil=>rw [Dt hd] at h;cases h
           | cons e s =>
             rw [Hs hd] at h
             split at h
             · cases h
             · have:=ih (by simp at hn;omega) h
               simp;omega
     · rw [kI hc h92] at h
       split at h
       · cases h
       · have:=ih (by omega) h
         simp;omega
section
variable {P:Program} {N:Nat} {own:Nat→Nat→Nat} {Q:Exit→Tm→List Blk→Prop} {T:Tm} {L:List Blk}
theorem Pb {lc:cm} (t sz B:Nat) {l:List AV} {n:Nat} {v:AV} (ht:au T t=some v) (hB:B<L.length) (hv:(v=.sl [] 0 (some 0)∧l=[]∧n=0)∨∃ i,B<i∧v=.gsl l n i sz∧L[i]?=some (.spare n sz))
   (h:∀ i X,B<i→(L++X)[i]?=some (.spare n sz)→AW P N own lc Q ((t,.gsl l n i sz)::T) (L++X)):AW P N own lc Q T L:=by
 rcases hv with ⟨rfl,rfl,rfl⟩|⟨i,hBi,rfl,hi⟩
 · exact ch t sz ht (by simp) (h L.length [.spare 0 sz] hB (by simp))
 · have h':=h i [] hBi (by simpa using hi)
   rw [List.append_nil] at h'
   refine h'.weakT fun t' v' e=>?_
   simp only [au] at e
   split at e
   · rename_i e1;subst e1;cases e;exact ht
   · exact e
end
variable {L:List Blk} {K:AV→List Blk→Prop}
set_option maxHeartbeats 8000000
set_option maxRecDepth 100000
def XL (B:Nat) (r:Rdn) (v:AV) (L:List Blk):Prop:=(v=.sl [] 0 (some 0)∧aU r=[]∧r.length=0)∨∃ i,B<i∧v=.gsl (aU r) r.length i 2∧L[i]?=some (.spare r.length 2)
theorem Oj (r:Rdn) (t v:List UInt8):aU (r++[(t,v)])=aU r++[.str t,.str v]:=by simp [aU,lB]
theorem fF (r:Rdn):AV.frzL (aU r)=aU r:=by
 induction r with
 | nil=>rfl
 | cons a r ih=>simpa [aU,lB,AV.frzL,AV.frz] using ih
theorem dX {L0 X:List Blk} {e:Int} {K:AV→List Blk→Prop} (h:K (QK ([],e)) L0):Fin L0 (.tup [.sl [] 0 (some 0),.int .i64 e]) (L0++X) K:=bE (ab rfl h)
theorem mY (d:List Rdn):AV.frzL (d.map bV)=d.map bV:=by
 rw [AV.frzL_eq,List.map_map]
 refine List.map_congr_left fun r _=>?_
 simp only [Function.comp,AV.frz,fF]
theorem S6 (q:Nat→Bool) (r:Rdn):AV.refsL q (aU r)=true:=by
 induction r with
 | nil=>rfl
 | cons a r ih=>simpa [aU,lB,AV.refsL,AV.refs] using ih
theorem Dx (q:Nat→Bool):∀ d:List Rdn,AV.refsL q (d.map bV)=true
 | []=>rfl
 | r::d=>by simp only [List.map_cons,AV.refsL,AV.refs,S6,Dx q d,Bool.and_self]
theorem mV {s:List UInt8} (h:eS s=true):s.length≤32:=by
 simp only [eS,Bool.and_eq_true,decide_eq_true_eq] at h
 exact h.1.1.2
theorem Xr {r:Rdn} {typ:List UInt8} {i n:Nat} (hr:r.length=n) (hn:n≤8) (h1:∀ a∈r,a.1.length≤32) (h2:typ.length≤4096) (h:K (.bool (kA r typ)) L) :
   ad Tryz.prog 161 [.gsl (aU r) n i 2,.str typ] L K:=by
 subst hr
 exact fH (by simpa only [AV.frzL,AV.frz,fF] using WS (cap:=none) (by omega) (fun a ha=>by have:=h1 a ha;omega) (by omega) h)
theorem V0 {s:List UInt8} (h:K (QK (DM s)) L):ad Tryz.prog 128 [.str s] L K:=by
 refine ae NH (by simp [Hn]) ?_
 simp only [Hn,ar]
 by_cases h1:4096<s.length
 · have f1:(4096:Int)<(s.length:Int):=by omega
   rw [DM,if_pos h1] at h
   replace h:=hid h
   clear h1
   refine wk ?_
   exact bE (aa h.out)
 have f1:¬ (4096:Int)<(s.length:Int):=by omega
 rw [DM,if_neg h1] at h
 by_cases h2:s=[]
 · rw [if_pos h2] at h
   replace h:=hid h
   refine wk ?_
   exact bE (aa h.out)
 rw [if_neg h2] at h
 replace h:=hid h
 have hs:=hid (show s.length≤4096 by omega)
 clear h1
 obtain ⟨R,hR⟩:∃ R,qP (s.length+1) [] [] s=R:=⟨_,rfl⟩
 rw [hR] at h
 refine wk ?_
 refine ch (l:=[]) (n:=0) 4 1 rfl (Nat.zero_mul 1).symm ?_
 refine am (fun n T' L'=>∃ (f m:Nat) (out:List Rdn) (now:Rdn) (u:List UInt8) (v:AV) (X:List Blk),f=n∧u.length≤4096∧m=out.length∧m≤32∧now.length≤8∧Hid (u.length<f∧qP f out now u=R∧(∀ a∈now,a.1.length≤32)∧XL L.length now v L')∧L'[L.length]?=some (.spare m 1)∧T'=[(5,v),(4,.gsl (out.map bV) m L.length 1),(0,.str u)]∧L'=L++X) (CutS (b:=by simp)) ⟨s.length+1,0,[],[],s,_,[.spare 0 1],rfl,hs.out,rfl,by omega,by simp,hid ⟨by omega,hR,by simp,.inl ⟨rfl,rfl,rfl⟩⟩,by simp,rfl,rfl⟩ ?_
 clear h2
 clear hs
 rintro _ _ _ ⟨f,m,out,now,u,v,X,rfl,hu,hm,hm32,hn8,hI,ho,rfl,rfl⟩
 obtain ⟨hf,hp,ht,hv⟩:=hI.out
 clear hI
 clear hR
 obtain ⟨f,rfl⟩:∃ g,f=g+1:=⟨f - 1,by omega⟩
 have hB:L.length<(L++X).length:=(List.getElem?_eq_some_iff.1 ho).1
 refine Pb 5 2 L.length rfl hB hv fun i Y hBi hi=>?_
 rw [List.append_assoc] at hi ⊢
 have ho2:(L++(X++Y))[L.length]?=some (.spare m 1):=by rw [← List.append_assoc,List.getElem?_append_left hB];exact ho
 generalize X++Y=Z at hi ho2 ⊢
 clear ho hB hv
 have s5:∀ A,(L++Z).set i A=L++Z.set (i - L.length) A:=fun A=>List.set_append_right _ _ (by omega)
 have s4:∀ (W:List Blk) A,(L++W).set L.length A=L++W.set 0 A:=fun W A=>by rw [List.set_append_right _ _ (Nat.le_refl _),Nat.sub_self]
 have hz:i - L.length≠0:=by omega
 have s54:∀ A,(L++Z.set (i - L.length) A)[L.length]?=some (.spare m 1):=fun A=>by rw [← s5,List.getElem?_set_ne (by omega)];exact ho2
 have s55:∀ A,(L++Z.set (i - L.length) A)[i]?=some A:=fun A=>by rw [← s5,List.getElem?_set,if_pos rfl,if_pos (List.getElem?_eq_some_iff.1 hi).1]
 have hul:=hu
 obtain ⟨c,hc⟩:∃ c:Nat,now.length=c:=⟨_,rfl⟩
 rw [qP] at hp
 rw [hc] at hp hi hn8 ⊢
 by_cases hlim:out.length=32∨c=8
 · rw [if_pos hlim] at hp
   have h':=h.out
   rw [← hp] at h'
   replace h':=hid h'
   have k:(m:Int)=32∨(m:Int)≠32∧(c:Int)=8:=by omega
   clear hp hlim
   clear hm
   rcases k with k|⟨k,k'⟩
   · refine wk ?_
     exact dX h'.out
   · refine wk ?_
     exact dX h'.out
 rw [if_neg hlim] at hp
 have k1:¬ (m:Int)=32:=by omega
 have k2:¬ (c:Int)=8:=by omega
 replace hm:=hid hm
 clear hlim
 replace hp:=hid hp
 replace ht:=hid ht
 refine wk ?_
 refine Yf (by omega) ?_
 rcases hcut:jO u with _|⟨typ,rest⟩
 · rw [show MT u=.tup [.str u,.str [],.bool false] by simp only [MT,hcut]]
   have h':=h.out
   rw [← hp.out,hcut] at h'
   simp only at h'
   replace h':=hid h'
   refine sk ?_
   refine wk ?_
   exact dX h'.out
 rw [show MT u=.tup [.str typ,.str rest,.bool true] by simp only [MT,hcut]]
 have hp2:=hp.out
 rw [hcut] at hp2
 simp only at hp2
 have hlen:=P4 hcut
 replace hp2:=hid hp2
 clear hcut hp
 refine sk ?_
 cases hty:eS typ with
 | false =>
   have h':=h.out
   rw [← hp2.out,if_pos hty] at h'
   replace h':=hid h'
   have kk1:=@hid _ @Oo
   refine wk ?_
   exact dX h'.out
 | true =>
   have hp3:=hp2.out
   rw [if_neg (by rw [hty];simp)] at hp3
   replace hp3:=hid hp3
   clear hp2
   have kk1:=@hid _ @Oo
   refine wk ?_
   refine Xr hc hn8 ht.out (by omega) ?_
   cases hha:kA now typ with
   | true =>
     have h':=h.out
     rw [← hp3.out,if_pos hha] at h'
     replace h':=hid h'
     refine sk ?_
     refine wk ?_
     exact dX h'.out
   | false =>
     have hp4:=hp3.out
     rw [if_neg (by rw [hha];simp)] at hp4
     replace hp4:=hid hp4
     clear hp3
     refine sk ?_
     refine wk ?_
     refine Vy (by omega) ?_
     rcases hvl:fI [] false rest with _|⟨w,r2,okk⟩
     · have h':=h.out
       rw [← hp4.out,hvl] at h'
       simp only at h'
       replace h':=hid h'
       simp only [R3]
       refine sk ?_
       refine wk ?_
       exact dX h'.out
     · have hp5:=hp4.out
       rw [hvl] at hp5
       simp only at hp5
       have hl2:=Tu _ (Nat.le_refl _) hvl
       replace hp5:=hid hp5
       clear hp4 hvl
       simp only [R3]
       refine sk ?_
       cases okk with
       | false =>
         have h':=h.out
         rw [← hp5.out,if_pos rfl] at h'
         replace h':=hid h'
         refine wk ?_
         exact dX h'.out
       | true =>
         have hp6:=hp5.out
         rw [if_neg (by simp)] at hp6
         replace hp6:=hid hp6
         clear hp5
         have q1:(c+1) * 32≤140737488355328:=by omega
         have q2:c+1≤140737488355328:=by omega
         have q3:(m+1) * 24≤140737488355328:=by omega
         have q4:m+1≤140737488355328:=by omega
         have e1:aU now++[AV.str typ,AV.str w]=aU (now++[(typ,w)]):=(Oj _ _ _).symm
         have e2:out.map bV++[AV.sl (AV.frzL (aU now++[AV.str typ,AV.str w])) (c+1) none]=(out++[now++[(typ,w)]]).map bV:=by
           rw [e1,fF,List.map_append]
           simp [hc]
         have e3:(out++[now++[(typ,w)]]).length=m+1:=by simp [hm.out]
         have e4:(now++[(typ,w)]).length=c+1:=by simp [hc]
         have e5:∀ a∈now++[(typ,w)],a.1.length≤32:=fun a ha=>by
           rcases List.mem_append.1 ha with h|h
           · exact ht.out a h
           · rw [List.mem_singleton.1 h];exact mV hty
         replace e1:=hid e1
         replace e2:=hid e2
         replace e3:=hid e3
         replace e4:=hid e4
         replace e5:=hid e5
         cases r2 with
         | nil =>
           have h':=h.out
           rw [← hp6.out] at h'
           simp only at h'
           replace h':=hid h'
           refine wk ?_
           rw [e2.out]
           refine bE (ab ?_ ?_)
           · simp only [AV.frz,AV.frzL,mY,AV.refs,AV.refsL,Dx,Bool.and_self]
           · simp only [AV.frz,AV.frzL,mY]
             have:=h'.out
             simp only [QK,e3.out] at this
             exact this
         | cons x s' =>
           simp only at hp6
           have q5:¬ (x::s'=[]):=by simp
           have q7:((s'.length:Int)+1).toNat - 1=s'.length:=by omega
           have q8:s'.take (((s'.length:Int)+1).toNat - 1)=s':=by rw [q7,List.take_length]
           simp only [List.length_cons] at hl2
           clear q7
           replace q8:=hid q8
           by_cases hx:x=44
           · subst hx
             refine wk ?_
             rw [q8.out,e2.out]
             refine ak _ _ _ ?_ (CutS (b:=?_)) ⟨f,m+1,out++[now++[(typ,w)]],[],s',.sl [] 0 (some 0),_,rfl,by omega,e3.out.symm,by omega,by simp,hid ⟨by omega,?_,by simp,.inl ⟨rfl,rfl,rfl⟩⟩,?_,rfl,rfl⟩
             · omega
             · have:=(List.getElem?_eq_some_iff.1 ho2).1
               simp at this ⊢;omega
             · rw [← hp6.out,if_pos rfl]
             · have:=(List.getElem?_eq_some_iff.1 ho2).1
               rw [← s4,List.getElem?_set,if_pos rfl,if_pos (by simp at this ⊢;omega)]
           · have q6:¬ (x.toNat:Int)=44:=fun e=>hx ((be x 44).1 e)
             refine wk ?_
             rw [q8.out,e1.out]
             refine ak _ _ _ ?_ (CutS (b:=?_)) ⟨f,m,out,now++[(typ,w)],s',.gsl (aU (now++[(typ,w)])) (c+1) i 2,_,rfl,by omega,hm.out,hm32,by rw [e4.out];omega,hid ⟨by omega,?_,e5.out,.inr ⟨i,hBi,by rw [e4.out],by rw [e4.out];exact s55 _⟩⟩,s54 _,rfl,rfl⟩
             · omega
             · have:=(List.getElem?_eq_some_iff.1 ho2).1
               simp at this ⊢;omega
             · rw [← hp6.out,if_neg hx]
def d8:Rdn→Rdn→Int
 | _,[]=>0
 | done,a::t=>if done.length=8 then 9 else if eS a.1=false then 20 else if kA done a.1=true then 21 else d8 (done++[a]) t
def wR:Nat→List Rdn→Int
 | _,[]=>0
 | i,r::t=>if i=32 then 9 else if r=[] then 2 else if d8 [] r≠0 then d8 [] r else wR (i+1) t
theorem GZ {d:List Rdn} {k:Nat} (h:k<d.length):(d.map bV).getD k .undef=bV (d.getD k []):=by simp [h]
theorem Kn {r:Rdn} {k:Nat}:(aU r).take (k * 2)=aU (r.take k):=by
 induction r generalizing k with
 | nil=>simp [aU]
 | cons a r ih =>
   cases k with
   | zero=>simp [aU]
   | succ k =>
     have:=@ih k
     simp only [aU] at this
     rw [show (k+1) * 2=k * 2+1+1 by omega]
     simp [aU,lB,this]
theorem Xq {r:Rdn} {typ:List UInt8} {n:Nat} {cap:Option Nat} (hr:r.length=n) (hn:n≤8) (h1:∀ a∈r,a.1.length≤32) (h2:typ.length≤32) (h:K (.bool (kA r typ)) L) :
   ad Tryz.prog 161 [.sl (aU r) n cap,.str typ] L K:=by
 subst hr
 exact WS (by omega) (fun a ha=>by have:=h1 a ha;omega) (by omega) h
theorem Wo {d:List Rdn} {cap:Option Nat} (hn:d.length≤1100000) (hr:∀ r∈d,r.length≤1100000) (h:K (.int .i64 (wR 0 d)) L):ad Tryz.prog 195 [.sl (d.map bV) d.length cap] L K:=by
 replace h:=hid h
 have hat:=hid (fun k=>@GZ d k)
 replace hr:=hid hr
 refine ae NF (by simp [Hl]) ?_
 simp only [Hl,ar]
 refine wk ?_
 refine am (fun n T' L'=>∃ (i:Nat) (X:List Blk),n=d.length - i∧i≤d.length∧i≤32∧Hid (wR i (d.drop i)=wR 0 d)∧T'=[(9,.int .i64 (i:Int)),(8,.int .i64 d.length),(7,.sl (d.map bV) d.length cap)]∧L'=L++X) (CutS (b:=by simp)) ⟨0,[],rfl,Nat.zero_le _,by omega,hid rfl,rfl,by simp⟩ ?_
 rintro _ _ _ ⟨i,X,rfl,hi,hi32,he,rfl,rfl⟩
 by_cases hlt:i<d.length
 · have g1:(i:Int)<(d.length:Int):=by omega
   have g2:IntKind.i64.wrap ((i:Int)+1)=(i:Int)+1:=ac (by omega) (by omega)
   have e2:=hat.out i hlt
   have hrl:=hr.out (d.getD i []) (by rw [List.getD_eq_getElem?_getD,List.getElem?_eq_getElem hlt];exact List.getElem_mem _)
   obtain ⟨r,hri⟩:∃ r,d.getD i []=r:=⟨_,rfl⟩
   have hdr:d.drop i=r::d.drop (i+1):=by rw [List.drop_eq_getElem_cons hlt,← hri];simp [hlt]
   rw [hri] at e2 hrl
   have he2:=he.out
   rw [hdr,wR] at he2
   clear hdr hri
   by_cases h32:i=32
   · rw [if_pos h32] at he2
     have h':=h.out
     rw [← he2] at h'
     replace h':=hid h'
     have k1:(i:Int)=32:=by omega
     have g1':(32:Int)<(d.length:Int):=by omega
     clear h32 he2
     refine wk ?_
     exact ab rfl h'.out
   rw [if_neg h32] at he2
   have k1:¬ (i:Int)=32:=by omega
   by_cases hr0:r=[]
   · rw [if_pos hr0] at he2
     subst hr0
     have h':=h.out
     rw [← he2] at h'
     replace h':=hid h'
     clear h32 he2
     refine wk ?_
     exact ab rfl h'.out
   rw [if_neg hr0] at he2
   have k2:¬ (r.length:Int)=0:=by have:=List.length_pos_iff.2 hr0;omega
   have herr:∀ e:Int,d8 [] r=e→e≠0→K (.int .i64 e) L:=fun e a1 a2=>by
     rw [if_pos (by rw [a1];exact a2),a1] at he2
     rw [he2];exact h.out
   replace herr:=hid herr
   replace he2:=hid he2
   clear h32
   refine wk ?_
   refine am (fun n T' L'=>∃ (k:Nat) (Y:List Blk),n=r.length - k∧k≤r.length∧k≤8∧Hid (d8 (r.take k) (r.drop k)=d8 [] r∧∀ a∈r.take k,a.1.length≤32)∧T'=[(23,.int .i64 (k:Int)),(22,.int .i64 r.length),(21,bV r),(4,bV r),(9,.int .i64 (i:Int)),(8,.int .i64 d.length),(7,.sl (d.map bV) d.length cap)]∧L'=L++(X++Y)) (CutS (b:=by simp)) ⟨0,[],rfl,Nat.zero_le _,by omega,hid ⟨rfl,by simp⟩,rfl,by simp⟩ ?_
   rintro _ _ _ ⟨k,Y,rfl,hk,hk8,hrow,rfl,rfl⟩
   by_cases hkl:k<r.length
   · have g3:(k:Int)<(r.length:Int):=by omega
     have g4:IntKind.i64.wrap ((k:Int)+1)=(k:Int)+1:=ac (by omega) (by omega)
     have e3:=dT hkl
     have e4:k * 2+2≤(aU r).length:=by rw [cQ];omega
     obtain ⟨⟨ty,va⟩,ha⟩:∃ a,r.getD k ([],[])=a:=⟨_,rfl⟩
     have hdk:r.drop k=(ty,va)::r.drop (k+1):=by rw [List.drop_eq_getElem_cons hkl,← ha];simp [hkl]
     have htk:r.take (k+1)=r.take k++[(ty,va)]:=by rw [List.take_succ_eq_append_getElem hkl,← ha];simp [hkl]
     rw [ha] at e3
     simp only [lB] at e3
     obtain ⟨hr1,hr2⟩:=hrow.out
     rw [hdk,d8] at hr1
     have hlk:(r.take k).length=k:=by simp;omega
     rw [hlk] at hr1
     clear hdk ha hrow
     have e5:(aU r).take (k * 2)=aU (r.take k):=Kn
     have g5:(k:Int)≤(r.length:Int):=by omega
     replace hr1:=hid hr1
     replace hr2:=hid hr2
     replace htk:=hid htk
     have e6:=hid hlk
     clear hlk
     repeat' first
       | refine a8 ?_
       | (first|refine aP (by kernel_rfl) ?_|refine aB (by kernel_rfl) ?_|refine aC ?_|refine bj ?_|refine aX (fun _=>?_)|refine ay ?_|refine aS ?_)
         refine sm ?_
       | (first|refine aL (by kernel_rfl) ?_|refine aQ ?_|refine aR ?_|refine ba (ax ?_))
         refine sl ?_
       | exact aY
       | first|apply aZ|apply aM|apply a6|apply aN|apply a7|apply aO
       | refine aF ?_
       | first|refine aD rfl ?_|refine aE rfl ?_|refine ap rfl ?_ ?_|refine aH rfl (fun _=>?_) (fun _=>?_)|refine aG rfl (fun _=>?_) (fun _=>?_)
       | ((first|refine ao (fun _=>?_) (fun _=>?_)|refine aw (fun _=>?_) (fun _=>?_))<;>try refine sm ?_)
       | refine And.intro trivial ?_
       | refine And.intro (by omega) ?_
       | refine aI rfl (fun _=>?_) (fun _=>?_)
       | refine And.intro ?_ ?_
     · rename_i h8
       have h':=herr.out 9 (by rw [← hr1.out,if_pos (by omega)]) (by decide)
       exact ab rfl h'
     · rename_i h8
       have hr3:=hr1.out
       rw [if_neg (by omega)] at hr3
       refine Oo ?_
       cases hty:eS ty with
       | false =>
         have h':=hid (herr.out 20 (by rw [← hr3,if_pos hty]) (by decide))
         clear hr3
         refine sk ?_
         refine wk ?_
         exact ab rfl h'.out
       | true =>
         rw [if_neg (by rw [hty];simp)] at hr3
         replace hr3:=hid hr3
         have htl:=mV hty
         refine sk ?_
         repeat' first
           | refine a8 ?_
           | (first|refine aP (by kernel_rfl) ?_|refine aB (by kernel_rfl) ?_|refine aC ?_|refine bj ?_|refine aX (fun _=>?_)|refine ay ?_|refine aS ?_)
             refine sm ?_
           | (first|refine aL (by kernel_rfl) ?_|refine aQ ?_|refine aR ?_|refine ba (ax ?_))
             refine sl ?_
           | exact aY
           | first|apply aZ|apply aM|apply a6|apply aN|apply a7|apply aO
           | refine aF ?_
           | first|refine aD rfl ?_|refine aE rfl ?_|refine ap rfl ?_ ?_|refine aH rfl (fun _=>?_) (fun _=>?_)|refine aG rfl (fun _=>?_) (fun _=>?_)
           | ((first|refine ao (fun _=>?_) (fun _=>?_)|refine aw (fun _=>?_) (fun _=>?_))<;>try refine sm ?_)
           | refine And.intro trivial ?_
           | refine And.intro (by omega) ?_
           | refine aI rfl (fun _=>?_) (fun _=>?_)
           | refine And.intro ?_ ?_
         refine aq (Xq e6.out (by omega) hr2.out htl ⟨rfl,rfl⟩) ?_
         cases hha:kA (r.take k) ty with
         | true =>
           have h':=hid (herr.out 21 (by rw [← hr3.out,if_pos hha]) (by decide))
           refine sk ?_
           refine wk ?_
           exact ab rfl h'.out
         | false =>
           have hr4:=hr3.out
           rw [if_neg (by rw [hha];simp),← htk.out] at hr4
           replace hr4:=hid hr4
           clear hr3
           refine sk ?_
           refine wk ?_
           refine ak _ _ _ (by omega) (CutS (b:=by simp)) ⟨k+1,Y++[.cells [.str ty,.str va]],rfl,hkl,by omega,hid ⟨hr4.out,fun a ha=>?_⟩,rfl,by simp⟩
           rw [htk.out] at ha
           rcases List.mem_append.1 ha with h|h
           · exact hr2.out a h
           · rw [List.mem_singleton.1 h];exact htl
   · have hke:k=r.length:=by omega
     subst hke
     have g3:¬ (r.length:Int)<(r.length:Int):=by omega
     have hz:=hrow.out.1
     rw [List.drop_length,d8] at hz
     have he3:=he2.out
     rw [← hz] at he3
     simp only [ne_eq,not_true_eq_false,if_false] at he3
     replace he3:=hid he3
     clear hz
     refine wk ?_
     exact ak _ _ _ (by omega) (CutS (b:=by simp)) ⟨i+1,X++Y,rfl,hlt,by omega,hid he3.out,rfl,rfl⟩
 · have hke:i=d.length:=by omega
   subst hke
   have g1:¬ (d.length:Int)<(d.length:Int):=by omega
   have h':=h.out
   rw [← he.out,List.drop_length,wR] at h'
   replace h':=hid h'
   refine wk ?_
   exact ab rfl h'.out
end Go.Proofs.YtkkgmgmgcgiffaaGreatDoor.Av
