/- Joined texts of the walk, made small by a program. -/
import Derived.Test.YtcmfcpjnhephaaaGreatDoorJk4
import Derived.Test.YtcmfcpjnhephaaaGreatDoorRows
import Derived.KernelRfl
import Derived.Test.YtcmfcpjnhephaaaGreatDoorJk8
import Derived.Test.YtcmfcpjnhephaaaGreatDoorJk5
import Derived.Laws.RangeAny
import Derived.Laws.RangeString
import Derived.Test.YtcmfcpjnhephaaaGreatDoorJk6
set_option linter.unusedSimpArgs false
set_option linter.unusedVariables false
set_option maxRecDepth 100000
namespace Go.Proofs.YtcmfcpjnhephaaaGreatDoor.Av
open Go
def LE:LSO:=[Ae 2]
def LD:LSO:=[Aa 5 0,BV 6 5,Aa 7 6,.grp none 7 false
 [Ag 8 7 0,Bg 9 7 8,A8 10 7 9 32]
 11 (tm 10),Aa 12 11,.grp none 12 false
 [Ag 13 12 0,BQ 14 12 13 0,og 15 12 false (.conv .i32 (tm 14)),AL 16 12 191 15,AU 17 12 16]
 18 (tm 17)]
def LC:LSO:=[Ae 2]
def LB:LSO:=[Aa 19 0,o1 20 (.rangeS (tm 19))]
def LA:LSO:=[o1 21 (.nextS (tm 20)),Ar 22 21]
def Lz:LSO:=[Be 23 21,Aa 4 23]
def Ly:LSO:=[Aa 24 4,Ak 25 191 24,Az 26 25,Aa 27 26,.grp none 27 true
 [Af 28 27 4,og 29 27 true (.bin .lss (tm 28) (.av (.int .i32 48))),Af 30 27 29,.grp (some (27,true)) 30 false
 [Ag 31 30 4,og 32 30 false (.bin .gtr (tm 31) (.av (.int .i32 57)))]
 33 (tm 32)]
 34 (tm 33),Aa 35 34,.grp none 35 true
 [Af 36 35 4,og 37 35 true (.bin .neq (tm 36) (.av (.int .i32 45)))]
 38 (tm 37)]
def Lx:LSO:=[Ae 2]
def Lw:LSO:=[Ax 2]
def Lg:be:=⟨39,(.seq (.sreg LE [])
 (.seq (.seq (.sreg LD Cl)
 (.cond (tm 18) (.seq (.sreg LC [])
 .ret)
 .skip))
 (.seq (.seq (.sreg LB Ch)
 (.block 0 (.loop (.seq (.sreg LA [])
 (.seq (.cond (tm 22) .skip
 (.exit 0))
 (.block 1 (.seq (.sreg Lz Ch)
 (.seq (.sreg Ly Co)
 (.cond (tm 38) (.seq (.sreg Lx [])
 .ret)
 .skip)))))))))
 (.seq (.sreg Lw [])
 .ret)))),[(.tmp 2)]⟩
attribute [push_cast] LE LD LC LB LA Lz Ly Lx Lw
theorem Qr:br Tryz.prog (fun _ _=>1) 157=some Lg.raw:=by kernel_rfl
def Hf:LSO:=[Ae 2]
def He:LSO:=[Aa 3 0,o1 4 (.bin .geq (tm 3) (.av (.int .i32 97))),Aa 5 4,.grp none 5 true
 [Af 6 5 0,og 7 5 true (.bin .leq (tm 6) (.av (.int .i32 122)))]
 8 (tm 7),Aa 9 8,.grp none 9 false
 [Ag 10 9 0,og 11 9 false (.bin .geq (tm 10) (.av (.int .i32 65))),Ag 12 9 11,.grp (some (9,false)) 12 true
 [Af 13 12 0,og 14 12 true (.bin .leq (tm 13) (.av (.int .i32 90)))]
 15 (tm 14)]
 16 (tm 15),Aa 2 16]
def EF:be:=⟨17,(.seq (.sreg Hf [])
 (.seq (.sreg He Co)
 .ret)),[(.tmp 2)]⟩
attribute [push_cast] Hf He
theorem N2:br Tryz.prog (fun _ _=>1) 191=some EF.raw:=by kernel_rfl
def MU:LSO:=[A3 3 1,Ae 4]
def MT:LSO:=[Aa 5 0,o1 6 (.mkfn 209 [(tm 3)]),Aq 7 208 5 6,Aa 4 7]
def N3:be:=⟨8,(.seq (.sreg MU [])
 (.seq (.sreg MT Cj)
 .ret)),[(.tmp 4)]⟩
attribute [push_cast] MU MT
theorem RJ:br Tryz.prog (fun _ _=>1) 175=some N3.raw:=by kernel_rfl
def Jx:LSO:=[A3 2 0,Ae 3]
def Jw:LSO:=[Ad 4 0 2,Ac 5 1 4,Ak 6 38 5,Ac 7 1 1,Ak 8 38 7,A9 9 6 8,Aa 3 9]
def Im:be:=⟨10,(.seq (.sreg Jx [])
 (.seq (.sdreg Jw [.pure,(.read 0 0),(.read 0 0),(.read 0 0)] Co)
 .ret)),[(.tmp 3)]⟩
attribute [push_cast] Jx Jw
theorem OB:br Tryz.prog (fun _ _=>1) 209=some Im.raw:=by kernel_rfl
def Jn:LSO:=[An 2,An 3,Ae 4]
def Jm:LSO:=[Al 5]
def Jl:LSO:=[Ae 6]
def Jk:LSO:=[Ab 7 0]
def Jj:LSO:=[Aa 11 7,Aa 12 0,Ap 13 12,Aj 14 11 13,Aa 15 14,.grp none 15 true
 [Af 16 15 0,Af 17 15 7,AY 18 15 16 17,og 19 15 true (.bin .neq (tm 18) (.av (.int .u8 44)))]
 20 (tm 19),Aa 21 20,.grp none 21 true
 [Af 22 21 0,Af 23 21 7,AY 24 21 22 23,og 25 21 true (.bin .neq (tm 24) (.av (.int .u8 43)))]
 26 (tm 25)]
def Ji:LSO:=[Aa 27 0,Aa 28 7,A6 29 27 28,Aa 8 29]
def Jh:LSO:=[Aa 30 8,o1 31 (.bin .eql (tm 30) (.av (.int .u8 32))),Aa 6 31]
def Jg:LSO:=[Aa 33 8,o1 34 (.bin .neq (tm 33) (.av (.int .u8 92))),Aa 32 34]
def Jf:LSO:=[Aa 35 8,BC 36 35,Aa 37 36,.grp none 37 false
 [Ag 38 37 8,og 39 37 false (.call 210 [(.av (.str [34,59,60,62])),(tm 38)]),B9 40 37 39 0]
 41 (tm 40),Aa 42 41,.grp none 42 false
 [Ag 43 42 5,BD 44 42 43,AA 45 42 44 0,Ag 46 42 45,.grp (some (42,false)) 46 true
 [Af 47 46 8,Bj 48 46 47,Af 49 46 48,.grp (some (46,true)) 49 false
 [Ag 50 49 8,og 51 49 false (.bin .eql (tm 50) (.av (.int .u8 35)))]
 52 (tm 51)]
 53 (tm 52)]
 54 (tm 53)]
def Je:LSO:=[An 2,An 3,Ae 4]
def Hb:LSO:=[Aa 56 7,Ah 57 56 1,Aa 58 0,Ap 59 58,Aj 60 57 59,Aa 61 60,.grp none 61 true
 [Af 62 61 0,Af 63 61 7,og 64 61 true (.bin .add (tm 63) (iv 1)),AY 65 61 62 64,og 66 61 true (.call 210 [(.av (.str [34,43,44,59,60,62,92,32,35,61])),(tm 65)]),
 og 67 61 true (.bin .geq (tm 66) (iv 0))]
 68 (tm 67),Aa 55 68]
def Ha:LSO:=[Aa 69 7,Ah 70 69 1,Aa 7 70]
def G9:LSO:=[Aa 71 0,Aa 72 7,A6 73 71 72,Aa 8 73]
def G8:LSO:=[Aa 75 7,Ah 76 75 2,Aa 77 0,Ap 78 77,Aj 79 76 78,Aa 74 79]
def G7:LSO:=[Aa 81 0,Aa 82 7,Ah 83 82 1,Aa 84 7,Ah 85 84 3,Br 86 81 83 85,Ak 87 211 86,Aa 80 87,Ar 88 80,Aw 89 80,Aa 9 88,Aa 10 89]
def G6:LSO:=[Aa 90 10,Az 91 90]
def G5:LSO:=[An 2,An 3,Ae 4]
def G4:LSO:=[Aa 92 9,B8 93 92 0,Aa 8 93]
def G3:LSO:=[Aa 94 7,Ah 95 94 2,Aa 7 95]
def G2:LSO:=[An 2,An 3,Ae 4]
def G1:LSO:=[Aa 96 5,Aa 97 8,AM 98 97,AD 99 96 98,Aa 5 99]
def G0:LSO:=[Aa 100 7,Ah 101 100 1,Aa 7 101]
def GZ:LSO:=[Aa 102 5,AO 103 102,Aa 104 0,Aa 105 7,BA 106 104 105,Aa 107 6,Az 108 107,Aa 2 103,Aa 3 106,Aa 4 108]
def Il:be:=⟨109,(.seq (.sreg Jn [])
 (.seq (.sreg Jm [])
 (.seq (.sreg Jl [])
 (.seq (.sreg Jk [])
 (.seq (.block 0 (.loop (.seq (.seq (.sreg Jj Cr)
 (.cond (tm 26) .skip
 (.exit 0)))
 (.block 1 (.seq (.sreg Ji Cj)
 (.seq (.sreg Jh Ci)
 (.seq (.block 2 (.seq (.sreg Jg Ci)
 (.cond (tm 32) (.seq (.sreg Jf Cl)
 (.cond (tm 54) (.seq (.sreg Je [])
 .ret)
 .skip))
 (.seq (.sreg Hb Cr)
 (.cond (tm 55) (.seq (.sreg Ha Ci)
 (.sreg G9 Cj))
 (.seq (.sreg G8 Cl)
 (.cond (tm 74) (.seq (.sreg G7 CG)
 (.seq (.seq (.sreg G6 Ch)
 (.cond (tm 91) (.seq (.sreg G5 [])
 .ret)
 .skip))
 (.seq (.sreg G4 Ci)
 (.sreg G3 Ci))))
 (.seq (.sreg G2 [])
 .ret))))))))
 (.seq (.sreg G1 Ck)
 (.sreg G0 Ci)))))))))
 (.seq (.sdreg GZ [.pure,(.read 0 0),.pure,.pure,(.read 0 0),.pure,.pure,.pure,.pure] [true,true,true,false,false,false,false,false,false,false])
 .ret)))))),[(.tmp 2),(.tmp 3),(.tmp 4)]⟩
attribute [push_cast] Jn Jm Jl Jk Jj Ji Jh Jg Jf Je Hb Ha G9 G8 G7 G6 G5 G4 G3 G2 G1 G0 GZ
theorem OA:br Tryz.prog (fun _ _=>1) 176=some Il.raw:=by kernel_rfl
def J2:LSO:=[Al 2,Ab 3 0]
def J1:LSO:=[Aa 10 0,Ap 11 10,A0 12 11 4096]
def J0:LSO:=[Al 2,Ab 3 5]
def JZ:LSO:=[Aa 13 0,BV 14 13]
def JY:LSO:=[Al 2,Ab 3 0]
def JW:LSO:=[Al 4]
def JV:LSO:=[Al 5]
def JU:LSO:=[Aa 15 4,Ai 16 15,Au 17 16 32,Aa 18 17,.grp none 18 false
 [Ag 19 18 5,BD 20 18 19,AA 21 18 20 8]
 22 (tm 21)]
def JT:LSO:=[Al 2,Ab 3 9]
def JS:LSO:=[Aa 24 0,o1 25 (.call 174 [(tm 24),(.av (.str [61]))]),Aa 23 25,Ar 26 23,Aw 27 23,Be 28 23,Aa 6 26,Aa 7 27,Aa 8 28]
def HM:LSO:=[Aa 29 8,Az 30 29,Aa 31 30,.grp none 31 false
 [Ag 32 31 6,AL 33 31 157 32,AU 34 31 33]
 35 (tm 34)]
def HL:LSO:=[Al 2,Ab 3 4]
def HK:LSO:=[Aa 36 5,Aa 37 6,Aq 38 175 36 37]
def HJ:LSO:=[Al 2,Ab 3 21]
def HI:LSO:=[Aa 40 7,Ak 41 176 40,Aa 39 41,Ar 42 39,Aw 43 39,Be 44 39,Aa 9 42,Aa 7 43,Aa 8 44]
def HH:LSO:=[Aa 45 8,Az 46 45]
def HG:LSO:=[Al 2,Ab 3 4]
def HF:LSO:=[Aa 47 5,Aa 48 6,Aa 49 9,o1 50 (.build [(.str []),(.str [])] [(0,(1,(tm 48))),(1,(1,(tm 49)))]),BW 51 50,Bt 52 47 51,Aa 5 52]
def HE:LSO:=[Aa 53 7,BV 54 53]
def HD:LSO:=[Aa 55 4,Aa 56 5,BE 57 56,BF 58 55 57,Aa 2 58,Ab 3 0]
def HC:LSO:=[Aa 59 7,B8 60 59 0,o1 61 (.bin .eql (tm 60) (.av (.int .u8 44)))]
def HB:LSO:=[Aa 62 4,Aa 63 5,BE 64 63,BF 65 62 64,Aa 4 65,Al 5]
def HA:LSO:=[Aa 66 7,o1 67 (.slS (tm 66) (some (iv 1)) none),Aa 0 67]
def Iq:be:=⟨68,(.seq (.sreg J2 [])
 (.seq (.seq (.sreg J1 Ci)
 (.cond (tm 12) (.seq (.sreg J0 [])
 .ret)
 .skip))
 (.seq (.seq (.sreg JZ Ch)
 (.cond (tm 14) (.seq (.sreg JY [])
 .ret)
 .skip))
 (.seq (.sreg JW [])
 (.seq (.sreg JV [])
 (.block 0 (.loop (.block 1 (.seq (.seq (.sreg JU Ck)
 (.cond (tm 22) (.seq (.sreg JT [])
 .ret)
 .skip))
 (.seq (.sreg JS CC)
 (.seq (.seq (.sreg HM Cj)
 (.cond (tm 35) (.seq (.sreg HL [])
 .ret)
 .skip))
 (.seq (.seq (.sreg HK Ci)
 (.cond (tm 38) (.seq (.sreg HJ [])
 .ret)
 .skip))
 (.seq (.sreg HI CC)
 (.seq (.seq (.sreg HH Ch)
 (.cond (tm 46) (.seq (.sreg HG [])
 .ret)
 .skip))
 (.seq (.sreg HF Co)
 (.seq (.seq (.sreg HE Ch)
 (.cond (tm 54) (.seq (.sreg HD C4)
 .ret)
 .skip))
 (.seq (.seq (.sreg HC Ci)
 (.cond (tm 61) (.sreg HB C4)
 .skip))
 (.sreg HA Ci)))))))))))))))))),[(.tmp 2),(.tmp 3)]⟩
attribute [push_cast] J2 J1 J0 JZ JY JW JV JU JT JS HM HL HK HJ HI HH HG HF HE HD HC HB HA
theorem OE:br Tryz.prog (fun _ _=>1) 139=some Iq.raw:=by kernel_rfl
def D9:LSO:=[An 2]
def D8:LSO:=[Al 3]
def D7:LSO:=[Aa 7 0,o1 8 (.s2b (tm 7)),Ai 9 8,Ab 10 0]
def D6:LSO:=[Aj 11 10 9]
def D5:LSO:=[Aa 12 10,Am 13 1 8 10,Ac 14 1 13,Aa 4 12,Aa 5 14]
def D4:LSO:=[Aa 15 4,Au 16 15 0,Aa 17 16,.grp none 17 true
 [Af 18 17 5,Bj 19 17 18,Af 20 17 19,.grp (some (17,true)) 20 false
 [Ag 21 20 5,og 22 20 false (.bin .eql (tm 21) (.av (.int .u8 35)))]
 23 (tm 22)]
 24 (tm 23),Aa 25 24,.grp none 25 false
 [Ag 26 25 4,Ag 27 25 0,Bg 28 25 27,BX 29 25 28 1,og 30 25 false (.bin .eql (tm 26) (tm 29)),Ag 31 25 30,.grp (some (25,false)) 31 true
 [Af 32 31 5,Bj 33 31 32]
 34 (tm 33)]
 35 (tm 34),Aa 6 35]
def D3:LSO:=[Aa 37 5,BC 38 37,Aa 36 38]
def D2:LSO:=[Aa 39 3,o1 40 (.app 1 1 1 [(.int .u8 0)] (tm 39) (.av (.str [92,48,48]))),Aa 3 40]
def D1:LSO:=[Aa 42 6,Aa 43 42,.grp none 43 false
 [Ag 44 43 5,og 45 43 false (.call 210 [(.av (.str [34,43,44,59,60,62,92])),(tm 44)]),B9 46 43 45 0]
 47 (tm 46),Aa 41 47]
def DZ:LSO:=[Aa 48 3,o1 49 (.bslice false 1 1 [(.int .u8 0)] [(0,(1,(.av (.int .u8 92))))]),AD 50 48 49,Aa 3 50]
def xe:LSO:=[Aa 51 3,Aa 52 5,AM 53 52,AD 54 51 53,Aa 3 54]
def xd:LSO:=[Ah 55 10 1,Aa 10 55]
def xc:LSO:=[Aa 56 3,AO 57 56,Aa 2 57]
def sW:be:=⟨58,(.seq (.sreg D9 [])
 (.seq (.sreg D8 [])
 (.seq (.seq (.sreg D7 Cx)
 (.block 0 (.loop (.seq (.sreg D6 [])
 (.seq (.cond (tm 11) .skip
 (.exit 0))
 (.seq (.block 1 (.seq (.sreg D5 Cp)
 (.seq (.sreg D4 Co)
 (.seq (.block 2 (.seq (.sreg D3 Ci)
 (.cond (tm 36) (.seq (.sreg D2 Ci)
 (.exit 1))
 (.seq (.sreg D1 Cj)
 (.cond (tm 41) (.sreg DZ Cj)
 .skip)))))
 (.sreg xe Ck)))))
 (.sreg xd Ch)))))))
 (.seq (.sreg xc Ci)
 .ret)))),[(.tmp 2)]⟩
attribute [push_cast] D9 D8 D7 D6 D5 D4 D3 D2 D1 DZ xe xd xc
theorem Mu:br Tryz.prog (fun _ _=>1) 213=some sW.raw:=by kernel_rfl
def JH:LSO:=[Ab 2 0]
def JG:LSO:=[Aa 7 0,Ai 8 7,Ab 9 0]
def JF:LSO:=[Aj 10 9 8]
def JE:LSO:=[Aa 11 9,Am 12 1 7 9,Ac 13 1 12,Aa 3 11,Aa 4 13]
def JD:LSO:=[Aa 15 3,Au 16 15 32,Aa 14 16]
def JC:LSO:=[Ab 2 9]
def JB:LSO:=[Aa 18 4,Ai 19 18,Au 20 19 0,Aa 17 20]
def JA:LSO:=[Ab 2 2]
def Jz:LSO:=[Aa 21 4,Ai 22 21,Ab 23 0]
def Jy:LSO:=[Aj 24 23 22]
def Hp:LSO:=[Aa 25 23,Am 26 2 21 23,As 27 2 26,Bb 6,Aa 5 25,Ao 2 6 27]
def Ho:LSO:=[Aa 29 5,Au 30 29 8,Aa 28 30]
def Hn:LSO:=[Ab 2 9]
def Hm:LSO:=[Ad 32 0 6,Ac 33 1 32,Ak 34 157 33,Az 35 34,Aa 31 35]
def Hl:LSO:=[Ab 2 20]
def Hk:LSO:=[Aa 37 4,Aa 38 5,BY 39 37 38,Ad 40 0 6,Ac 41 1 40,Aq 42 175 39 41,Aa 36 42]
def Hj:LSO:=[Ab 2 21]
def Hi:LSO:=[Ah 43 23 1,Aa 23 43]
def Hh:LSO:=[Ah 44 9 1,Aa 9 44]
def Hg:LSO:=[Ab 2 0]
def Io:be:=⟨45,(.seq (.sreg JH [])
 (.seq (.seq (.sreg JG [])
 (.block 0 (.loop (.seq (.sreg JF [])
 (.seq (.cond (tm 10) .skip
 (.exit 0))
 (.seq (.block 1 (.seq (.sreg JE Cp)
 (.seq (.block 2 (.seq (.sreg JD Ci)
 (.cond (tm 14) (.seq (.sreg JC [])
 .ret)
 (.seq (.sreg JB Cj)
 (.cond (tm 17) (.seq (.sreg JA [])
 .ret)
 .skip)))))
 (.seq (.sreg Jz [])
 (.block 3 (.loop (.seq (.sreg Jy [])
 (.seq (.cond (tm 24) .skip
 (.exit 3))
 (.seq (.block 4 (.seq (.sreg Hp Cp)
 (.block 5 (.seq (.sreg Ho Ci)
 (.cond (tm 28) (.seq (.sreg Hn [])
 .ret)
 (.seq (.sreg Hm Ck)
 (.cond (tm 31) (.seq (.sreg Hl [])
 .ret)
 (.seq (.sdreg Hk [.pure,.pure,(.read 0 0),.pure,(.read 0 0)] Co)
 (.cond (tm 36) (.seq (.sreg Hj [])
 .ret)
 .skip)))))))))
 (.sreg Hi Ch))))))))))
 (.sreg Hh Ch)))))))
 (.seq (.sreg Hg [])
 .ret))),[(.tmp 2)]⟩
attribute [push_cast] JH JG JF JE JD JC JB JA Jz Jy Hp Ho Hn Hm Hl Hk Hj Hi Hh Hg
theorem OC:br Tryz.prog (fun _ _=>1) 212=some Io.raw:=by kernel_rfl
def JR:LSO:=[An 2,Ab 3 0]
def JQ:LSO:=[Aa 11 0,Ak 12 212 11,Aa 4 12]
def JP:LSO:=[Aa 13 4,AC 14 13 0]
def JO:LSO:=[Aa 15 4,An 2,Aa 3 15]
def JN:LSO:=[Ab 5 0]
def JM:LSO:=[Aa 16 0,Ai 17 16,Ab 18 0]
def JL:LSO:=[Aj 19 18 17]
def JK:LSO:=[Am 20 1 16 18,Ac 21 1 20,Aa 7 21]
def JJ:LSO:=[Aa 22 7,Ai 23 22,Ab 24 0]
def JI:LSO:=[Aj 25 24 23]
def Hz:LSO:=[Am 26 2 22 24,As 27 2 26,Bb 9,Ao 2 9 27]
def Hy:LSO:=[Ad 28 1 9,Ac 29 1 28,Ap 30 29,A0 31 30 4096]
def Hx:LSO:=[An 2,Ab 3 5]
def Hw:LSO:=[Aa 32 5,Ah 33 32 1,Aa 5 33]
def Hv:LSO:=[Ah 34 24 1,Aa 24 34]
def Hu:LSO:=[Ah 35 18 1,Aa 18 35]
def Ht:LSO:=[Aa 36 0,o1 37 (.call 178 [(tm 36),(.av (.bool false))]),Aa 10 37]
def Hs:LSO:=[Aa 38 10,Ap 39 38,A0 40 39 4096]
def Hr:LSO:=[An 2,Ab 3 5]
def Hq:LSO:=[Aa 41 10,Aa 2 41,Ab 3 0]
def Ip:be:=⟨42,(.seq (.sreg JR [])
 (.seq (.seq (.sreg JQ Ci)
 (.seq (.sreg JP Ch)
 (.cond (tm 14) (.seq (.sreg JO Cm)
 .ret)
 .skip)))
 (.seq (.sreg JN [])
 (.seq (.seq (.sreg JM [])
 (.block 0 (.loop (.seq (.sreg JL [])
 (.seq (.cond (tm 19) .skip
 (.exit 0))
 (.seq (.block 1 (.seq (.sreg JK Ci)
 (.seq (.sreg JJ [])
 (.block 2 (.loop (.seq (.sreg JI [])
 (.seq (.cond (tm 25) .skip
 (.exit 2))
 (.seq (.block 3 (.seq (.sreg Hz Ci)
 (.seq (.seq (.sreg Hy Cj)
 (.cond (tm 31) (.seq (.sreg Hx [])
 .ret)
 .skip))
 (.sreg Hw Ci))))
 (.sreg Hv Ch)))))))))
 (.sreg Hu Ch)))))))
 (.seq (.sreg Ht Ci)
 (.seq (.seq (.sreg Hs Ci)
 (.cond (tm 40) (.seq (.sreg Hr [])
 .ret)
 .skip))
 (.seq (.sreg Hq Cm)
 .ret))))))),[(.tmp 2),(.tmp 3)]⟩
attribute [push_cast] JR JQ JP JO JN JM JL JK JJ JI Hz Hy Hx Hw Hv Hu Ht Hs Hr Hq
theorem OD:br Tryz.prog (fun _ _=>1) 177=some Ip.raw:=by kernel_rfl
def LJ:LSO:=[An 2,Ab 3 0]
def LI:LSO:=[Aa 7 0,Ak 8 177 7,Aa 6 8,Ar 9 6,Aw 10 6,Aa 4 9,Aa 5 10]
def LH:LSO:=[Aa 11 5,AC 12 11 0]
def LG:LSO:=[Aa 13 5,An 2,Aa 3 13]
def LF:LSO:=[Aa 14 0,o1 15 (.call 178 [(tm 14),(.av (.bool true))]),Aa 2 15,Ab 3 0]
def Lh:be:=⟨16,(.seq (.sreg LJ [])
 (.seq (.seq (.sreg LI Co)
 (.seq (.sreg LH Ch)
 (.cond (tm 12) (.seq (.sreg LG Cm)
 .ret)
 .skip)))
 (.seq (.sreg LF Cs)
 .ret))),[(.tmp 2),(.tmp 3)]⟩
attribute [push_cast] LJ LI LH LG LF
theorem Qs:br Tryz.prog (fun _ _=>1) 140=some Lh.raw:=by kernel_rfl
def MZ:LSO:=[An 2,Ab 3 0]
def MY:LSO:=[Aa 7 0,Ak 8 139 7,Aa 6 8,Ar 9 6,Aw 10 6,Aa 4 9,Aa 5 10]
def MX:LSO:=[Aa 11 5,AC 12 11 0]
def MW:LSO:=[Aa 13 5,An 2,Aa 3 13]
def MV:LSO:=[Aa 14 4,Ak 15 140 14,Ar 16 15,Aw 17 15,Aa 2 16,Aa 3 17]
def N4:be:=⟨18,(.seq (.sreg MZ [])
 (.seq (.sreg MY Cw)
 (.seq (.seq (.sreg MX Ch)
 (.cond (tm 12) (.seq (.sreg MW Cm)
 .ret)
 .skip))
 (.seq (.sreg MV C4)
 .ret)))),[(.tmp 2),(.tmp 3)]⟩
attribute [push_cast] MZ MY MX MW MV
theorem RK:br Tryz.prog (fun _ _=>1) 100=some N4.raw:=by kernel_rfl
def cO:LSO:=[Ae 4]
def cN:LSO:=[Aa 5 0,Aa 6 1,Aq 7 233 5 6,Bf 8 7 0,Aa 4 8]
def cc:be:=⟨9,(.seq (.sreg cO [])
 (.seq (.sreg cN Ck)
 .ret)),[(.tmp 4)]⟩
attribute [push_cast] cO cN
theorem eD:br Tryz.prog (fun _ _=>1) 208=some cc.raw:=by kernel_rfl
def dl:LSO:=[Ab 4 0]
def dk:LSO:=[Aa 6 0,Ai 7 6,Ab 8 0]
def dj:LSO:=[Aj 9 8 7]
def di:LSO:=[Aa 10 8,Aa 5 10]
def dh:LSO:=[Aa 11 1,Aa 12 0,Aa 13 5,Am 14 2 12 13,As 15 2 14,Bo 16 11 15]
def df:LSO:=[Aa 17 5,Aa 4 17]
def de:LSO:=[Ah 18 8 1,Aa 8 18]
def dd:LSO:=[Ab 4 (-1)]
def cw:be:=⟨19,(.seq (.sreg dl [])
 (.seq (.seq (.sreg dk Cm)
 (.block 0 (.loop (.seq (.sreg dj [])
 (.seq (.cond (tm 9) .skip
 (.exit 0))
 (.seq (.block 1 (.seq (.sreg di Ch)
 (.seq (.sreg dh Cl)
 (.cond (tm 16) (.seq (.sreg df Ch)
 .ret)
 .skip))))
 (.sreg de Ch)))))))
 (.seq (.sreg dd [])
 .ret))),[(.tmp 4)]⟩
attribute [push_cast] dl dk dj di dh df de dd
theorem eT:br Tryz.prog (fun _ _=>1) 233=some cw.raw:=by kernel_rfl
def tu:LSO:=[An 4,An 5,Ae 6]
def tt:LSO:=[Aa 7 0,Aa 8 1,Aq 9 207 7 8,Ar 10 9,Aw 11 9,Be 12 9,Aa 4 10,Aa 5 11,Aa 6 12]
def fm:be:=⟨13,(.seq (.sreg tu [])
 (.seq (.sreg tt CC)
 .ret)),[(.tmp 4),(.tmp 5),(.tmp 6)]⟩
attribute [push_cast] tu tt
theorem rU:br Tryz.prog (fun _ _=>1) 174=some fm.raw:=by kernel_rfl
def eh:LSO:=[An 4,An 5,Ae 6]
def eg:LSO:=[Aa 8 0,Aa 9 1,Aq 10 159 8 9,Aa 7 10]
def ef:LSO:=[Aa 11 7,Bf 12 11 0]
def ee:LSO:=[Aa 13 0,Aa 14 7,o1 15 (.slS (tm 13) none (some (tm 14))),Aa 16 0,Aa 17 7,Aa 18 1,Ap 19 18,AE 20 17 19,BA 21 16 20,Aa 4 15,Aa 5 21,Ax 6]
def ed:LSO:=[Aa 22 0,Aa 4 22,An 5,Ae 6]
def bZ:be:=⟨23,(.seq (.sreg eh [])
 (.seq (.seq (.sreg eg Cj)
 (.seq (.sreg ef Ch)
 (.cond (tm 12) (.seq (.sdreg ee [.pure,.pure,(.read 0 0),.pure,.pure,.pure,(.read 0 0),.pure,(.read 0 0),.pure] CF)
 .ret)
 .skip)))
 (.seq (.sreg ed Cx)
 .ret))),[(.tmp 4),(.tmp 5),(.tmp 6)]⟩
attribute [push_cast] eh eg ef ee ed
theorem dW:br Tryz.prog (fun _ _=>1) 207=some bZ.raw:=by kernel_rfl
attribute [push_cast] EF N3 Il sW Io Ip Lh N4 cc cw fm
set_option maxHeartbeats 8000000
set_option maxRecDepth 100000
theorem MJ {n:Int} (h0 : -2147483648<=n) (h1:n<2147483648):IntKind.i32.wrap n=n:=by
 simp only [IntKind.wrap,IntKind.bits,IntKind.signed];simp;omega
theorem NK {s:List UInt8} {p:Nat} (h:p<s.length) (ha:(s.getD p 0).toNat<128):Mc s p=((s.getD p 0).toNat,1):=by
 have e:s.getD p 0=s[p]:=by simp [h]
 rw [e] at ha ⊢;exact decode_ascii ⟨⟨s⟩⟩ p h ha
theorem Pw {s:List UInt8} {p:Nat} (h:p<s.length) (ha:128<=(s.getD p 0).toNat):128<=(Mc s p).1:=by
 have e:s.getD p 0=s[p]:=by simp [h]
 rw [e] at ha;exact (decode_high ⟨⟨s⟩⟩ p h ha).1
def kZ (x:Int):Bool:=(decide (97<=x) && decide (x<=122)) || (decide (65<=x) && decide (x<=90))
theorem kX {x:Int} {L:List Blk} {K:abD} (h:K (.bool (kZ x)) L):abC 191 [.int .i32 x] L K:=by
 refine abB N2 ?_
 all_goals (first|refine ae rfl (Kto h ?_)|refine aa (Kto h ?_)|refine ae (by simp only [AV.refs,AV.refsL, *];rfl) (Kto h ?_)|refine bv (ae rfl (Kto h ?_))|(trace_state;fail))
 all_goals (first|(simp [kZ, *];done)|(simp [kZ, *];omega)|(simp [kZ, *];intros;omega)|(simp_all [Hid,kZ];done)|(simp_all [Hid,kZ];omega))
def Iy (x:Int):Bool:=kZ x || (decide (48<=x) && decide (x<=57)) || decide (x=45)
def fc (s:List UInt8):Bool:=decide (1<=s.length) && decide (s.length<=32) && kZ ((s.getD 0 0).toNat:Int) && s.all fun c=>Iy (c.toNat:Int)
theorem OM {x:Int} (h:128<=x):Iy x=false:=by
 simp only [Iy,kZ,ad1,ad2,decide_eq_false_iff_not];omega
theorem R5 {s:List UInt8} {L:List Blk} {K:abD} (h:K (.bool (fc s)) L):abC 157 [.str s] L K:=by
 have no:fc s=false->K (.bool false) L:=fun e=>by rw [<- e];exact h
 replace no:=hid no;replace h:=hid h;refine ad Qr (by simp [Lg]) ?_;simp only [Lg,ao];by_cases h0:s=[]
 ·subst h0;refine wk ?_;exact aa (no.out rfl)
 have hlen:0<s.length:=acQ.2 h0;by_cases h1:(32:Int)<(s.length:Int)
 ·refine wk ?_;exact aa (no.out (by simp [fc];omega))
 obtain ⟨c0,hc0⟩:=aby (s.getD 0 0);have hr:=c0.toNat_lt;have w0:IntKind.i32.wrap (c0.toNat:Int)=(c0.toNat:Int):=MJ (by omega) (by omega);cases hl0:kZ (c0.toNat:Int) with
 | false =>
   have kk1:=@hid _ @kX;refine wk ?_;refine aa (no.out ?_);simp only [fc,hc0,hl0,Bool.and_false,adb]
 | true =>
   have kk1:=@hid _ @kX;refine wk ?_;refine ak (fun n T' L'=>∃ p,n=s.length - p/\p<=s.length/\Hid (∀ c∈s.take p,Iy (c.toNat:Int)=true)/\T'=[(20,.ptr L.length 0)]/\L'=L++[.siter s p]) (CutS (b:=by simp)) ⟨0,rfl,abL _,hid (by simp),rfl,rfl⟩ ?_;rintro _ _ _ ⟨p,rfl,hp,hall,rfl,rfl⟩;by_cases hlt:p<s.length
   ·obtain ⟨c,hc⟩:=aby (s.getD p 0);have hmem:c∈s:=by rw [<- hc];simp [hlt]
    have htk:s.take (p+1)=s.take p++[c]:=by rw [ab2 hlt,<- hc];simp [hlt]
    replace htk:=hid htk;have bad:Iy (c.toNat:Int)=false->K (.bool false) L:=fun e=>no.out (by
     have:(s.all fun c=>Iy (c.toNat:Int))=false:=aej.2 ⟨c,hmem,by rw [e];simp⟩;simp only [fc,this,Bool.and_false])
    replace bad:=hid bad;by_cases ha:c.toNat<128
    ·have hd:=NK hlt (by rw [hc];exact ha);rw [hc] at hd;obtain ⟨x,hx⟩:∃ x:Nat,c.toNat=x:=⟨_,rfl⟩;rw [hx] at hd bad;have hx':=hid hx;clear hx hc hmem ha hr w0;cases hxl:kZ (x:Int) with
     | true =>
       have kk1:=@hid _ @kX;refine wk ?_;refine ai _ _ _ (by omega) (CutS (b:=by simp)) ⟨p+1,rfl,hlt,hid fun d hd'=>?_,rfl,rfl⟩;rw [htk.out] at hd';rcases abH.1 hd' with h|h
       ·exact hall.out d h
       ·rw [abZ.1 h,hx'.out,Iy,hxl];rfl
     | false =>
       repeat' first
        | refine a8 ?_
        | (first|refine aU (by kernel_rfl) ?_|refine aB (by kernel_rfl) ?_|refine aE ?_|refine bI ?_|refine bf (fun _=>?_)|refine ay ?_|refine aW ?_|refine kX ?_|refine bo (kX ⟨rfl,rfl⟩) (kX ⟨rfl,rfl⟩) ?_|refine aN (kX ⟨rfl,rfl⟩) ?_)
          refine sm ?_
        | (first|refine aO (by kernel_rfl) ?_|refine aP ?_|refine aD ?_|refine aV ?_|refine bp (ax ?_))
          refine sl ?_
        | exact bg
        | first|apply bh|apply aR|apply bj|apply aS|apply bm|apply aT
        | refine aH ?_
        | refine aC ?_
        | first|refine aF rfl ?_|refine aG rfl ?_|refine an rfl ?_ ?_|refine aJ rfl (fun _=>?_) (fun _=>?_)|refine aI rfl (fun _=>?_) (fun _=>?_)
        | ((first|refine am (fun _=>?_) (fun _=>?_)|refine aw (fun _=>?_) (fun _=>?_))<;>try refine sm ?_)
        | refine And.intro trivial ?_
        | refine And.intro (by omega) ?_
        | refine aM rfl (fun _=>?_) (fun _=>?_)
        | refine And.intro ?_ ?_
       ·rename_i hb
        refine ae rfl (bad.out ?_);simp only [Iy,hxl,ac8,ad1,ad2,decide_eq_false_iff_not];omega
       ·rename_i hb
        refine ai _ _ _ (by omega) (CutS (b:=by simp)) ⟨p+1,rfl,hlt,hid fun d hd'=>?_,rfl,rfl⟩;rw [htk.out] at hd';rcases abH.1 hd' with h|h
        ·exact hall.out d h
        ·rw [abZ.1 h,hx'.out];simp only [Iy,hxl,ac8,ace,abK,decide_eq_true_eq];omega
    ·have hh:=Pw hlt (by rw [hc];omega);obtain ⟨⟨x,wd⟩,hd⟩:∃ q,Mc s p=q:=⟨_,rfl⟩;rw [hd] at hh;simp only at hh;have bad':=hid (bad.out (OM (show (128:Int)<=(c.toNat:Int) by omega)));have hxl:kZ (x:Int)=false:=by
      have:=OM (show (128:Int)<=(x:Int) by omega);simp only [Iy,ad1] at this;exact this.1.1
     have f1:¬ (x:Int)<48:=by omega
     have f2:(57:Int)<(x:Int):=by omega
     have f3:¬ (x:Int)=45:=by omega
     clear hc hmem hr w0;have kk1:=@hid _ @kX;refine wk ?_;exact ae rfl bad'.out
   ·have hke:p=s.length:=by omega
    subst hke;have h':=h.out;have e:fc s=true:=by
     have e1:(s.all fun c=>Iy (c.toNat:Int))=true:=abO.2 fun c hcm=>hall.out c (by rw [abY];exact hcm)
     simp only [fc,e1,hc0,hl0,ady];simp;omega
    rw [e] at h';replace h':=hid h';clear e;refine wk ?_;exact ae rfl h'.out
variable {L:List Blk} {K:abD}
abbrev Ava:=List UInt8×List UInt8
def mY (a:Ava):List AV:=[.str a.1,.str a.2]
def aZ (r:List Ava):List AV:=r.flatMap mY
abbrev Sf (r:List Ava) (cap:Option Nat):AV:=.sl (aZ r) r.length cap
def gT (r:List Ava) (typ:List UInt8):Bool:=r.any fun a=>decide (ab a.1=ab typ)
theorem aaq {a:Ava} {typ:List UInt8} {ip:Nat} (h1:(a.1.length:Int)<=100000) (h2:(typ.length:Int)<=100000) (hL:L[ip]?=some (.cells [.str typ])) (h:K (.bool (decide (ab a.1=ab typ))) L) :
  abC 209 [.agg (mY a),.ptr ip 0] L K:=by
 obtain ⟨t,v⟩:=a;replace h:=hid h;have hip:ip<L.length:=(abE.1 hL).1;have g1:(L++[Blk.cells [.str t,.str v]])[ip]?=some (.cells [.str typ]):=by rw [abQ hip];exact hL
 simp only [mY];refine ad OB (by simp [Im]) ?_;simp only [Im,ao];have kk1:=@hid _ (fun L K=>Em h1 (L:=L) (K:=K));have kk2:=@hid _ (fun L K=>Em h2 (L:=L) (K:=K));refine wk ?_;exact ae rfl h.out
theorem dw (r:List Ava):(aZ r).length=r.length * 2:=by
 induction r with
 | nil=>rfl
 | cons a r ih=>simp only [aZ,acU,abW,mY,abR,acD] at ih ⊢;omega
theorem eM:∀ {r:List Ava} {k:Nat},k<r.length->((aZ r).drop (k * 2)).take 2=mY (r.getD k ([],[]))
 | a::r,0,_=>rfl
 | a::r,k+1,h=>by
   have ih:=@eM r k (by simpa using h);rw [show (k+1) * 2=k * 2+1+1 by omega];simpa [aZ,mY] using ih
theorem Xa {r:List Ava} {typ:List UInt8} {cap:Option Nat} {ip:Nat} (hn:r.length<=100000) (h1:∀ a∈r,(a.1.length:Int)<=100000) (h2:(typ.length:Int)<=100000) (hL:L[ip]?=some (.cells [.str typ]))
  (hno:gT r typ=false->K (.int .i64 (-1)) L) (hyes:∀ k:Nat,gT r typ=true->K (.int .i64 k) L):abC 233 [Sf r cap,.func 209 [.ptr ip 0]] L K:=by
 replace hno:=hid hno;replace hyes:=hid hyes;replace h1:=hid h1;refine abB eT ?_;refine ak (fun n T' L'=>∃ (k:Nat),n=r.length - k/\k<=r.length/\Hid (gT (r.take k) typ=false)/\T'=[(8,.int .i64 (k:Int)),(7,.int .i64 r.length),(0,Sf r cap),(1,.func 209 [.ptr ip 0])]/\L=L') (CutS (b:=abF _)) ⟨0,rfl,abL _,hid rfl,rfl,rfl⟩ ?_;rintro _ _ _ ⟨k,rfl,hk,hf,rfl,rfl⟩;by_cases hlt:k<r.length
 ·have g1:(k:Int)<(r.length:Int):=by omega
  have g2:=abA k (by omega);have e1:=eM hlt;have e2:k * 2+2<=(aZ r).length:=by rw [dw];omega
  obtain ⟨a,ha⟩:=aby (r.getD k ([],[]));have ham:a∈r:=by rw [<- ha];simp [hlt]
  have htk:r.take (k+1)=r.take k++[a]:=by rw [ab2 hlt,<- ha];simp [hlt]
  rw [ha] at e1;have hs:gT (r.take (k+1)) typ=decide (ab a.1=ab typ):=by
   have:=hf.out;simp only [gT] at this ⊢;rw [htk,aek,this];simp
  have hall:decide (ab a.1=ab typ)=true->gT r typ=true:=fun e=>ad3.2 ⟨a,ham,e⟩
  replace hall:=hid hall;replace hs:=hid hs;replace htk:=hid htk;have ha1:=hid (h1.out a ham);clear ha ham;refine wk ?_;refine aaq ha1.out h2 hL ?_;refine sk ?_;cases hd:decide (ab a.1=ab typ) with
  | true =>
    have hy:=hid (hyes.out k (hall.out hd));replace hd:=hid hd;refine wk ?_;exact aa hy.out
  | false =>
    replace hd:=hid hd;refine wk ?_;exact ai _ _ _ (by omega) (CutS (b:=abF _)) ⟨k+1,rfl,hlt,hid (by rw [hs.out,hd.out]),rfl,rfl⟩
 ·have hke:k=r.length:=by omega
  subst hke;have g1:¬ (r.length:Int)<(r.length:Int):=by omega
  have hn':=hf.out;rw [abY] at hn';have hy:=hid (hno.out hn');clear hn';refine wk ?_;exact aa hy.out
theorem RI {r:List Ava} {typ:List UInt8} {cap:Option Nat} {ip:Nat} (hn:r.length<=100000) (h1:∀ a∈r,(a.1.length:Int)<=100000) (h2:(typ.length:Int)<=100000) (hL:L[ip]?=some (.cells [.str typ])) (h:K (.bool (gT r typ)) L) :
  abC 208 [Sf r cap,.func 209 [.ptr ip 0]] L K:=by
 replace h:=hid h;refine abB eD ?_;refine Xa hn h1 h2 hL (fun e=>?_) (fun k e=>?_)
 ·have h':=h.out;rw [e] at h';replace h':=hid h';refine sk ?_;refine wk ?_;exact aa h'.out
 ·have h':=h.out;rw [e] at h';replace h':=hid h';have g:(0:Int)<=(k:Int):=by omega
  refine sk ?_;refine wk ?_;exact aa h'.out
theorem ZJ {r:List Ava} {typ:List UInt8} {cap:Option Nat} (hn:r.length<=100000) (h1:∀ a∈r,(a.1.length:Int)<=100000) (h2:(typ.length:Int)<=100000) (h:K (.bool (gT r typ)) L) :
  abC 175 [Sf r cap,.str typ] L K:=by
 replace h:=hid h;refine abB RJ ?_;refine RI hn h1 h2 (by simp) ?_;refine sk ?_;refine wk ?_;exact ae rfl h.out
theorem eo {a:List UInt8} {c:UInt8} {L:List Blk} {K:abD} (h:K (.int .i64 (Lib.indexByte a c)) L):abC 210 [.str a,.int .u8 c.toNat] L K :=
 d8 Tryz.func210 rfl (by kernel_rfl) (fun w0 S0 E w vs hR hv=>by
  simp only [VRL,VR] at hv;obtain ⟨_,_,rfl,rfl,_,_,rfl,rfl,rfl⟩:=hv;exact (Tryz.strings_IndexByte ⟨⟨a⟩⟩ c.toNat w).mono fun e w' ⟨he,hw⟩=>⟨_,he,by simp [VR],by subst hw;exact EH.refl _⟩) h
theorem mi (a:List UInt8) (c:UInt8):(0<=Lib.indexByte a c)↔c∈a:=by
 induction a with
 | nil=>simp [Lib.indexByte]
 | cons b l ih =>
   have hge:=Lib.indexByte_ge l c;unfold Lib.indexByte;by_cases hb:b=c
   ·simp [hb]
   ·have e1:(b == c)=false:=by simpa using hb
    rw [e1];simp only [abU,if_false];have e2:c∈b::l↔c∈l:=by simp [Ne.symm hb]
    rw [e2,<- ih];split
    ·rename_i h;simp at h;omega
    ·rename_i h;simp at h;omega
theorem bu (c d:UInt8):(c.toNat:Int)=(d.toNat:Int)↔c=d:=by
 constructor
 ·intro h;exact adm.1 (by omega)
 ·rintro rfl;rfl
def wrB (i n:Nat) (c:UInt8):List UInt8 :=
 if c=0 then [92,48,48] else if (i=0/\(c=32\/c=35))\/(i+1=n/\c=32)\/c∈[34,43,44,59,60,62,92] then [92,c] else [c]
def wrL (n:Nat):Nat->List UInt8->List UInt8
 | _,[]=>[]
 | i,c::s=>wrB i n c++wrL n (i+1) s
def dU (s:List UInt8):List UInt8:=wrL s.length 0 s
theorem Ys (i n:Nat) (c:UInt8):(wrB i n c).length<=3:=by
 unfold wrB;split
 ·simp
 ·split<;>simp
theorem eu {s:List UInt8} (hs:s.length<=100000) (h:K (.str (dU s)) L):abC 213 [.str s] L K:=by
 replace h:=hid h;have g0:IntKind.i64.wrap ((s.length:Int) - 1)=(s.length:Int) - 1:=ac (by omega) (by omega);refine abB Mu ?_;refine cH (l:=[]) (n:=0) 3 1 rfl (acf 1).symm ?_;refine ak (fun n T' L'=>∃ (i m:Nat) (b:List UInt8),n=s.length - i/\i<=s.length/\m<=3 * i/\Hid (m=b.length/\b++wrL s.length i (s.drop i)=dU s)/\T'=[(10,.int .i64 (i:Int)),(9,.int .i64 s.length),(8,.sl (u8s s) s.length none),(3,.gsl (u8s b) m L.length 1),(0,.str s)]/\L'=L++[.spare m 1]) (CutS (b:=by simp)) ⟨0,0,[],rfl,abL _,by omega,hid ⟨rfl,rfl⟩,rfl,rfl⟩ ?_;rintro _ _ _ ⟨i,m,b,rfl,hi,hm,hb,rfl,rfl⟩;by_cases hlt:i<s.length
 ·have g1:(i:Int)<(s.length:Int):=by omega
  have g2:=abA i (by omega);obtain ⟨c,hc⟩:=aby (s.getD i 0);have g3:(u8s s).getD i .undef=.int .u8 c.toNat:=by rw [<- hc];simp [u8s,hlt]
  have hdr:s.drop i=c::s.drop (i+1):=by rw [acp hlt,<- hc];simp [hlt]
  have hb2:=hb.out.2;rw [hdr] at hb2;simp only [wrL] at hb2;have g4:=fM;have g5:(u8s s).length=s.length:=by simp [u8s]
  clear hc hdr;replace hb2:=hid hb2
  repeat' first
   | refine a8 ?_
   | (first|refine aU (by kernel_rfl) ?_|refine aB (by kernel_rfl) ?_|refine aE ?_|refine bI ?_|refine bf (fun _=>?_)|refine ay ?_|refine aW ?_|refine eo ?_|refine bo (eo ⟨rfl,rfl⟩) (eo ⟨rfl,rfl⟩) ?_|refine aN (eo ⟨rfl,rfl⟩) ?_)
     refine sm ?_
   | (first|refine aO (by kernel_rfl) ?_|refine aP ?_|refine aD ?_|refine aV ?_|refine bp (ax ?_))
     refine sl ?_
   | exact bg
   | first|apply bh|apply aR|apply bj|apply aS|apply bm|apply aT
   | refine aH ?_
   | refine aC ?_
   | first|refine aF rfl ?_|refine aG rfl ?_|refine an rfl ?_ ?_|refine aJ rfl (fun _=>?_) (fun _=>?_)|refine aI rfl (fun _=>?_) (fun _=>?_)
   | ((first|refine am (fun _=>?_) (fun _=>?_)|refine aw (fun _=>?_) (fun _=>?_))<;>try refine sm ?_)
   | refine And.intro trivial ?_
   | refine And.intro (by omega) ?_
   | refine aM rfl (fun _=>?_) (fun _=>?_)
   | refine And.intro ?_ ?_
  ·rfl
  ·omega
  ·rename_i h0
   have hc0:=(bu c 0).1 h0;rw [show u8s b++AV.frzL (u8s [92,48,48])=u8s (b++[92,48,48]) by simp [u8s,AV.frzL,AV.frz]];refine ai _ _ _ (by omega) (CutL (b:=by simp)) ⟨i+1,m+3,b++[92,48,48],rfl,hlt,by omega,hid ⟨by simp [hb.out.1],?_⟩,rfl,rfl⟩;rw [<- hb2.out,wrB,if_pos hc0,abT]
  ·rename_i h0 h1
   have hc0:¬ c=0:=fun e=>h0 ((bu c 0).2 e)
   have hq:(i=0/\(c=32\/c=35))\/(i+1=s.length/\c=32)\/c∈[34,43,44,59,60,62,92]:=by
    rcases h1 with (⟨e1,e2⟩|⟨e1,e2⟩)|e
    ·exact .inl ⟨by omega,e2.imp (bu c 32).1 (bu c 35).1⟩
    ·exact .inr (.inl ⟨by omega,(bu c 32).1 e2⟩)
    ·exact .inr (.inr ((mi _ _).1 e))
   rw [show u8s b++[AV.int IntKind.u8 92,AV.int IntKind.u8 (c.toNat:Int)]=u8s (b++[92,c]) by simp [u8s]];refine ai _ _ _ (by omega) (CutL (b:=by simp)) ⟨i+1,m+1+1,b++[92,c],rfl,hlt,by omega,hid ⟨by simp [hb.out.1],?_⟩,rfl,rfl⟩;rw [<- hb2.out,wrB,if_neg hc0,if_pos hq,abT]
  ·rename_i h0 h1
   have hc0:¬ c=0:=fun e=>h0 ((bu c 0).2 e)
   have hq:¬ ((i=0/\(c=32\/c=35))\/(i+1=s.length/\c=32)\/c∈[34,43,44,59,60,62,92]):=fun hq=>h1 (by
    rcases hq with ⟨e1,e2⟩|⟨e1,e2⟩|e
    ·exact .inl (.inl ⟨by omega,e2.imp (bu c 32).2 (bu c 35).2⟩)
    ·exact .inl (.inr ⟨by omega,(bu c 32).2 e2⟩)
    ·exact .inr ((mi _ _).2 e))
   rw [show u8s b++[AV.int IntKind.u8 (c.toNat:Int)]=u8s (b++[c]) by simp [u8s]];refine ai _ _ _ (by omega) (CutL (b:=by simp)) ⟨i+1,m+1,b++[c],rfl,hlt,by omega,hid ⟨by simp [hb.out.1],?_⟩,rfl,rfl⟩;rw [<- hb2.out,wrB,if_neg hc0,if_neg hq,abT]
 ·have hke:i=s.length:=by omega
  subst hke;have g1:¬ (s.length:Int)<(s.length:Int):=by omega
  have e1:=fM b;have e2:=fa b;have e:=hb.out.2;rw [acm,wrL,acj] at e;have h':=h.out;rw [<- e] at h';replace h':=hid h';clear e;refine wk ?_;exact ae rfl h'.out
abbrev mo:List UInt8:=[34,43,44,59,60,62,92,32,35,61]
def eH:List UInt8->Bool->List UInt8->Option (List UInt8×List UInt8×Bool)
 | b,bl,[]=>some (b,[], !bl)
 | b,bl,c::s=>if c=44\/c=43 then some (b,c::s, !bl)
   else if c≠92 then (if c=0\/c∈([34,59,60,62]:List UInt8)\/(b=[]/\(c=32\/c=35)) then none else eH (b++[c]) (decide (c=32)) s)
   else match s with
    | []=>none
    | d::s1=>if d∈mo then eH (b++[d]) false s1 else match s1 with
      | []=>none
      | e::s2=>match Ke d e with
        | none=>none
        | some x=>eH (b++[x]) false s2
def Uc (o:Option (List UInt8×List UInt8×Bool)):AV:=match o with
 | none=>.tup [.str [],.str [],.bool false]
 | some (v,r,f)=>.tup [.str v,.str r,.bool f]
theorem jv {b:List UInt8} {bl:Bool}:eH b bl []=some (b,[], !bl):=by rw [eH.eq_def]
theorem me {b:List UInt8} {bl:Bool} {c:UInt8} {s:List UInt8} (h:c=44\/c=43):eH b bl (c::s)=some (b,c::s, !bl):=by rw [eH.eq_def];simp only [if_pos h]
theorem jc {b:List UInt8} {bl:Bool} {c:UInt8} {s:List UInt8} (h:¬ (c=44\/c=43)) (h2:c≠92):eH b bl (c::s)=if c=0\/c∈([34,59,60,62]:List UInt8)\/(b=[]/\(c=32\/c=35)) then none else eH (b++[c]) (decide (c=32)) s:=by
 rw [eH.eq_def];simp only [if_neg h,if_pos h2]
theorem EO {b:List UInt8} {bl:Bool}:eH b bl [92]=none:=by rw [eH.eq_def];rfl
theorem oz {b:List UInt8} {bl:Bool} {d:UInt8} {s:List UInt8} (h:d∈mo):eH b bl (92::d::s)=eH (b++[d]) false s:=by
 rw [eH.eq_def];simp only [show ¬ ((92:UInt8)=44\/(92:UInt8)=43) by decide,if_false,ne_eq,not_true_eq_false,if_pos h]
theorem EN {b:List UInt8} {bl:Bool} {d:UInt8} (h:¬ d∈mo):eH b bl [92,d]=none:=by
 rw [eH.eq_def];simp only [show ¬ ((92:UInt8)=44\/(92:UInt8)=43) by decide,if_false,ne_eq,not_true_eq_false,if_neg h]
theorem xw {b:List UInt8} {bl:Bool} {d e:UInt8} {s:List UInt8} (h:¬ d∈mo):eH b bl (92::d::e::s)=match Ke d e with|none=>none|some x=>eH (b++[x]) false s:=by
 rw [eH.eq_def];simp only [show ¬ ((92:UInt8)=44\/(92:UInt8)=43) by decide,if_false,ne_eq,not_true_eq_false,if_neg h]
theorem iZ {s:List UInt8} {i:Nat} (h:i<s.length):s.drop i=s.getD i 0::s.drop (i+1):=by
 rw [acp h];simp [h]
theorem Yt {s:List UInt8} (hs:s.length<=100000) (h:K (Uc (eH [] false s)) L):abC 176 [.str s] L K:=by
 replace h:=hid h;refine abB OA ?_;refine cH (l:=[]) (n:=0) 5 1 rfl (acf 1).symm ?_;refine ak (fun n T' L'=>∃ (i m:Nat) (b:List UInt8) (bl:Bool),n=s.length - i/\i<=s.length/\m<=i/\Hid (m=b.length/\eH b bl (s.drop i)=eH [] false s)/\T'=[(7,.int .i64 (i:Int)),(6,.bool bl),(5,.gsl (u8s b) m L.length 1),(0,.str s)]/\L'=L++[.spare m 1]) (CutS (b:=by simp)) ⟨0,0,[],false,rfl,abL _,by omega,hid ⟨rfl,rfl⟩,rfl,rfl⟩ ?_;rintro _ _ _ ⟨i,m,b,bl,rfl,hi,hm,hb,rfl,rfl⟩;have e1:=fM b;have e2:=fa b;by_cases hlt:i<s.length
 ·have g1:(i:Int)<(s.length:Int):=by omega
  have g2:=abA i (by omega);obtain ⟨c,hc⟩:=aby (s.getD i 0);have hdr:=iZ hlt;rw [hc] at hdr;have hb2:=hb.out.2;rw [hdr] at hb2;have hds:(s.drop i).take (s.length - i)=s.drop i:=acW (by simp);have hl1:(i:Int)<=(s.length:Int):=by omega
  by_cases hcc:c=44\/c=43
  ·rw [me hcc] at hb2;have h':=h.out;rw [<- hb2] at h';simp only [Uc] at h';rw [<- hdr] at h';replace h':=hid h';have k1:((c.toNat:Int)=44)\/((c.toNat:Int)=43):=hcc.imp (bu c 44).2 (bu c 43).2;clear hb2 hcc hdr;rcases k1 with k1|k1
   ·refine wk ?_;exact ae rfl h'.out
   ·refine wk ?_;exact ae rfl h'.out
  ·have k1:¬ (c.toNat:Int)=44:=fun e=>hcc (.inl ((bu c 44).1 e))
   have k2:¬ (c.toNat:Int)=43:=fun e=>hcc (.inr ((bu c 43).1 e))
   by_cases h92:c=92
   ·subst h92;have g3:IntKind.i64.wrap ((i:Int)+2)=(i:Int)+2:=ac (by omega) (by omega);have g4:IntKind.i64.wrap ((i:Int)+3)=(i:Int)+3:=ac (by omega) (by omega);have g5:IntKind.i64.wrap ((i:Int)+1+1)=(i:Int)+1+1:=ac (by omega) (by omega);have g6:IntKind.i64.wrap ((i:Int)+2+1)=(i:Int)+2+1:=ac (by omega) (by omega);have t1:((i:Int)+1).toNat=i+1:=by omega
    have t3:((i:Int)+3).toNat=i+3:=by omega
    by_cases h1:i+1<s.length
    ·have f1:(i:Int)+1<(s.length:Int):=by omega
     obtain ⟨d,hd⟩:=aby (s.getD (i+1) 0);have hdr1:=iZ h1;rw [hd] at hdr1;rw [hdr1] at hb2;by_cases hsp:d∈mo
     ·rw [oz hsp] at hb2;have f2:=(mi mo d).2 hsp;clear hdr hdr1;replace hb2:=hid hb2;have kk1:=@hid _ @eo;refine wk ?_;rw [show u8s b++[AV.int IntKind.u8 (d.toNat:Int)]=u8s (b++[d]) by simp [u8s],show decide (((UInt8.toNat 92:Nat):Int)=32)=false from rfl];refine ai _ _ _ (by omega) (CutL (b:=by simp)) ⟨i+1+1,m+1,b++[d],false,rfl,h1,by omega,hid ⟨by simp [hb.out.1],hb2.out⟩,rfl,rfl⟩
     ·have f2:¬ 0<=Lib.indexByte mo d:=fun e=>hsp ((mi mo d).1 e)
      by_cases h2:i+2<s.length
      ·have f3:(i:Int)+2<(s.length:Int):=by omega
       have f4:(i:Int)+1<=(i:Int)+3:=by omega
       have f5:(i:Int)+3<=(s.length:Int):=by omega
       have f6:(0:Int)<=(i:Int)+1:=by omega
       obtain ⟨e,he⟩:=aby (s.getD (i+2) 0);have hdr2:=iZ h2;rw [he] at hdr2;rw [hdr2,xw hsp] at hb2;have hcut:(s.drop (i+1)).take (i+3 - (i+1))=[d,e]:=by
        rw [hdr1,hdr2,show i+3 - (i+1)=2 by omega];rfl
       clear hdr hdr1 hdr2;replace hb2:=hid hb2;have kk1:=@hid _ @eo;refine wk ?_;refine V1 ?_;rcases hx:Ke d e with _|x
       ·rw [show H5 d e=.tup [.str [],.bool false] by simp only [H5,hx]];have h':=h.out;rw [<- hb2.out,hx] at h';simp only [Uc] at h';replace h':=hid h';clear hx;refine sk ?_;refine wk ?_;exact ae rfl h'.out
       ·rw [show H5 d e=.tup [.str [x],.bool true] by simp only [H5,hx]];have hb3:=hb2.out;rw [hx] at hb3;simp only at hb3;replace hb3:=hid hb3;have q1:[x].getD 0 0=x:=rfl;clear hx hb2;refine sk ?_;refine wk ?_;rw [show u8s b++[AV.int IntKind.u8 (x.toNat:Int)]=u8s (b++[x]) by simp [u8s],show decide (((UInt8.toNat 92:Nat):Int)=32)=false from rfl];refine ai _ _ _ (by omega) (CutL (b:=by simp)) ⟨i+2+1,m+1,b++[x],false,rfl,h2,by omega,hid ⟨by simp [hb.out.1],hb3.out⟩,rfl,rfl⟩
      ·have f3:¬ (i:Int)+2<(s.length:Int):=by omega
       have hnil:s.drop (i+1+1)=[]:=adl (by omega);rw [hnil,EN hsp] at hb2;have h':=h.out;rw [<- hb2] at h';replace h':=hid h';clear hdr hdr1 hb2;have kk1:=@hid _ @eo;refine wk ?_;exact ae rfl h'.out
    ·have f1:¬ (i:Int)+1<(s.length:Int):=by omega
     have f3:¬ (i:Int)+2<(s.length:Int):=by omega
     have hnil:s.drop (i+1)=[]:=adl (by omega);rw [hnil,EO] at hb2;have h':=h.out;rw [<- hb2] at h';replace h':=hid h';clear hdr hb2;have kk1:=@hid _ @eo;refine wk ?_;exact ae rfl h'.out
   ·rw [jc hcc h92] at hb2;have k3:¬ (c.toNat:Int)=92:=fun e=>h92 ((bu c 92).1 e)
    clear hdr;replace hb2:=hid hb2
    repeat' first
     | refine a8 ?_
     | (first|refine aU (by kernel_rfl) ?_|refine aB (by kernel_rfl) ?_|refine aE ?_|refine bI ?_|refine bf (fun _=>?_)|refine ay ?_|refine aW ?_|refine eo ?_|refine bo (eo ⟨rfl,rfl⟩) (eo ⟨rfl,rfl⟩) ?_|refine aN (eo ⟨rfl,rfl⟩) ?_)
       refine sm ?_
     | (first|refine aO (by kernel_rfl) ?_|refine aP ?_|refine aD ?_|refine aV ?_|refine bp (ax ?_))
       refine sl ?_
     | exact bg
     | first|apply bh|apply aR|apply bj|apply aS|apply bm|apply aT
     | refine aH ?_
     | refine aC ?_
     | first|refine aF rfl ?_|refine aG rfl ?_|refine an rfl ?_ ?_|refine aJ rfl (fun _=>?_) (fun _=>?_)|refine aI rfl (fun _=>?_) (fun _=>?_)
     | ((first|refine am (fun _=>?_) (fun _=>?_)|refine aw (fun _=>?_) (fun _=>?_))<;>try refine sm ?_)
     | refine And.intro trivial ?_
     | refine And.intro (by omega) ?_
     | refine aM rfl (fun _=>?_) (fun _=>?_)
     | refine And.intro ?_ ?_
    ·rename_i hx
     have hbad:c=0\/c∈([34,59,60,62]:List UInt8)\/(b=[]/\(c=32\/c=35)):=by
      rcases hx with (e|e)|⟨e,e'⟩
      ·exact .inl ((bu c 0).1 e)
      ·exact .inr (.inl ((mi _ _).1 e))
      ·refine .inr (.inr ⟨ack.1 ?_,e'.imp (bu c 32).1 (bu c 35).1⟩);have:=hb.out.1;omega
     have h':=h.out;rw [<- hb2.out,if_pos hbad] at h';exact ae rfl h'
    ·rename_i hx
     have hbad:¬ (c=0\/c∈([34,59,60,62]:List UInt8)\/(b=[]/\(c=32\/c=35))):=fun e=>hx (by
      rcases e with e|e|⟨e,e'⟩
      ·exact .inl (.inl ((bu c 0).2 e))
      ·exact .inl (.inr ((mi _ _).2 e))
      ·refine .inr ⟨?_,e'.imp (bu c 32).2 (bu c 35).2⟩;have:=hb.out.1;rw [e] at this;simp at this;omega)
     have hc32:decide ((c.toNat:Int)=32)=decide (c=32):=by
      have:=bu c 32;simp only [decide_eq_decide];exact this
     rw [show u8s b++[AV.int IntKind.u8 (c.toNat:Int)]=u8s (b++[c]) by simp [u8s],hc32];refine ai _ _ _ (by omega) (CutL (b:=by simp)) ⟨i+1,m+1,b++[c],decide (c=32),rfl,hlt,by omega,hid ⟨by simp [hb.out.1],?_⟩,rfl,rfl⟩;rw [<- hb2.out,if_neg hbad]
 ·have hke:i=s.length:=by omega
  subst hke;have g1:¬ (s.length:Int)<(s.length:Int):=by omega
  have h':=h.out;rw [<- hb.out.2,acm,jv] at h';simp only [Uc] at h';replace h':=hid h';have hds:(s.drop s.length).take (s.length - s.length)=[]:=by simp
  refine wk ?_;exact ae rfl h'.out
def gJ:List UInt8->Option (List UInt8×List UInt8)
 | []=>none
 | c::s=>if c=61 then some ([],s) else match gJ s with
   | none=>none
   | some (a,b)=>some (c::a,b)
theorem NM:∀ s:List UInt8,(Lib.indexByte s 61=-1/\gJ s=none)\/∃ n:Nat,n<s.length/\Lib.indexByte s 61=(n:Int)/\gJ s=some (s.take n,s.drop (n+1))
 | []=>.inl ⟨rfl,rfl⟩
 | c::s=>by
   by_cases hc:c=61
   ·subst hc;exact .inr ⟨0,by simp,by simp [Lib.indexByte],by simp [gJ]⟩
   ·have e1:(c == 61)=false:=by simpa using hc
    unfold Lib.indexByte;rw [e1];simp only [abU,if_false,gJ,if_neg hc];rcases NM s with ⟨h1,h2⟩|⟨n,h0,h1,h2⟩
    ·exact .inl ⟨by rw [h1];rfl,by rw [h2]⟩
    ·refine .inr ⟨n+1,by simp;omega,?_,by rw [h2];simp⟩;rw [h1];have:((n:Int) == -1)=false:=by simp
     rw [this];simp
def NL (s:List UInt8):AV:=match gJ s with
 | some (a,b)=>.tup [.str a,.str b,.bool true]
 | none=>.tup [.str s,.str [],.bool false]
theorem Rl {a:List UInt8} {c:UInt8} {L:List Blk} {K:abD} (h:K (.int .i64 (Lib.indexByte a c)) L):abC 159 [.str a,.str [c]] L K :=
 d8 Tryz.func159 rfl (by kernel_rfl) (fun w0 S0 E w vs hR hv=>by
  simp only [VRL,VR] at hv;obtain ⟨_,_,rfl,rfl,_,_,rfl,rfl,rfl⟩:=hv;exact (Tryz.stringslite_Index_one ⟨⟨a⟩⟩ c w).mono fun e w' ⟨he,hw⟩=>⟨_,he,by simp [VR],by subst hw;exact EH.refl _⟩) h
theorem XI {s:List UInt8} (hs:s.length<=100000) (h:K (NL s) L):abC 207 [.str s,.str [61]] L K:=by
 have hl:[(61:UInt8)].length=1:=rfl;rcases NM s with ⟨h1,h2⟩|⟨n,h0,h1,h2⟩
 ·simp only [NL,h2] at h;replace h:=hid h;clear h2;refine ad dW (by simp [bZ]) ?_;simp only [bZ,ao];have kk1:=@hid _ @Rl;refine wk ?_;exact aa h.out
 ·simp only [NL,h2] at h;replace h:=hid h;have g1:(0:Int)<=(n:Int):=by omega
  have g2:=abA n (by omega);have g3:(n:Int)<=(s.length:Int):=by omega
  have g4:(n:Int)+1<=(s.length:Int):=by omega
  have g5:(0:Int)<=(n:Int)+1:=by omega
  have g6:((n:Int)+1).toNat=n+1:=by omega
  have g7:(s.drop (n+1)).take (s.length - (n+1))=s.drop (n+1):=acW (by simp);clear h2;refine ad dW (by simp [bZ]) ?_;simp only [bZ,ao];have kk1:=@hid _ @Rl;refine wk ?_;exact aa h.out
theorem abb {s:List UInt8} (hs:s.length<=100000) (h:K (NL s) L):abC 174 [.str s,.str [61]] L K:=by
 rcases hc:gJ s with _|⟨a,b⟩
 all_goals
  simp only [NL,hc] at h;replace h:=hid h
 ·refine abB rU ?_;refine XI hs ?_;simp only [NL,hc];refine sk ?_;refine wk ?_;exact aa h.out
 ·refine abB rU ?_;refine XI hs ?_;simp only [NL,hc];refine sk ?_;refine wk ?_;exact aa h.out
abbrev Rdn:=List Ava
abbrev ci (r:Rdn):AV:=Sf r none
def mX:Nat->List Rdn->Rdn->List UInt8->List Rdn×Int
 | 0,_,_,_=>([],4)
 | f+1,out,now,s=>if out.length=32\/now.length=8 then ([],9) else match gJ s with
   | none=>([],4)
   | some (typ,rest)=>if fc typ=false then ([],4) else if gT now typ=true then ([],21) else match eH [] false rest with
     | none=>([],4)
     | some (v,r2,ok)=>if ok=false then ([],4) else match r2 with
       | []=>(out++[now++[(typ,v)]],0)
       | c::s'=>if c=44 then mX f (out++[now++[(typ,v)]]) [] s' else mX f out (now++[(typ,v)]) s'
def rC (s:List UInt8):List Rdn×Int:=if 4096<s.length then ([],5) else if s=[] then ([],0) else mX (s.length+1) [] [] s
def Sm (p:List Rdn×Int):AV:=.tup [.sl (p.1.map ci) p.1.length none,.int .i64 p.2]
theorem RF:∀ {s a b:List UInt8},gJ s=some (a,b)->b.length<s.length/\a.length<=s.length
 | [],a,b,h=>by simp [gJ] at h
 | c::s,a,b,h=>by
   simp only [gJ] at h;split at h
   ·simp only [abG,abP] at h;obtain ⟨rfl,rfl⟩:=h;simp
   ·split at h
    ·cases h
    ·rename_i a' b' hc
     simp only [abG,abP] at h;obtain ⟨rfl,rfl⟩:=h;have:=RF hc;simp;omega
theorem V0:∀ (n:Nat) {s b:List UInt8} {bl:Bool} {v r:List UInt8} {ok:Bool},s.length<=n->eH b bl s=some (v,r,ok)->r.length<=s.length:=by
 intro n
 induction n with
 | zero =>
   intro s b bl v r ok hn h;obtain rfl:=ack.1 (Nat.le_zero.1 hn);rw [jv] at h;cases h;simp
 | succ n ih =>
   intro s b bl v r ok hn h;cases s with
   | nil=>rw [jv] at h;cases h;simp
   | cons c s =>
     simp only [abR] at hn;by_cases hc:c=44\/c=43
     ·rw [me hc] at h;cases h;simp
     by_cases h92:c=92
     ·subst h92;cases s with
      | nil=>rw [EO] at h;cases h
      | cons d s =>
        by_cases hd:d∈mo
        ·rw [oz hd] at h;have:=ih (by simp at hn;omega) h;simp;omega
        ·cases s with
         | nil=>rw [EN hd] at h;cases h
         | cons e s =>
           rw [xw hd] at h;split at h
           ·cases h
           ·have:=ih (by simp at hn;omega) h;simp;omega
     ·rw [jc hc h92] at h;split at h
      ·cases h
      ·have:=ih (by omega) h;simp;omega
section
variable {P:Program} {N:Nat} {own:Nat->Nat->Nat} {Q:Exit->Tm->List Blk->Prop} {T:Tm} {L:List Blk}
theorem Qy {lc:bW} (t sz B:Nat) {l:List AV} {n:Nat} {v:AV} (ht:aq T t=some v) (hB:B<L.length) (hv:(v=.sl [] 0 (some 0)/\l=[]/\n=0)\/∃ i,B<i/\v=.gsl l n i sz/\L[i]?=some (.spare n sz))
  (h:∀ i X,B<i->(L++X)[i]?=some (.spare n sz)->AW P N own lc Q ((t,.gsl l n i sz)::T) (L++X)):AW P N own lc Q T L:=by
 rcases hv with ⟨rfl,rfl,rfl⟩|⟨i,hBi,rfl,hi⟩
 ·exact cH t sz ht (by simp) (h L.length [.spare 0 sz] hB (by simp))
 ·have h':=h i [] hBi (by simpa using hi);rw [acj] at h';refine h'.weakT fun t' v' e=>?_
  simp only [aq] at e;split at e
  ·rename_i e1;subst e1;cases e;exact ht
  ·exact e
end
variable {L:List Blk} {K:abD}
set_option maxHeartbeats 8000000
set_option maxRecDepth 100000
def aaL (B:Nat) (r:Rdn) (v:AV) (L:List Blk):Prop:=(v=.sl [] 0 (some 0)/\aZ r=[]/\r.length=0)\/∃ i,B<i/\v=.gsl (aZ r) r.length i 2/\L[i]?=some (.spare r.length 2)
theorem PD (r:Rdn) (t v:List UInt8):aZ (r++[(t,v)])=aZ r++[.str t,.str v]:=by simp [aZ,mY]
theorem fH (r:Rdn):AV.frzL (aZ r)=aZ r:=by
 induction r with
 | nil=>rfl
 | cons a r ih=>simpa [aZ,mY,AV.frzL,AV.frz] using ih
theorem eS {L0 X:List Blk} {e:Int} {K:abD} (h:K (Sm ([],e)) L0):Fin L0 (.tup [.sl [] 0 (some 0),.int .i64 e]) (L0++X) K:=bv (ae rfl h)
theorem oD (d:List Rdn):AV.frzL (d.map ci)=d.map ci:=by
 rw [AV.frzL_eq,ab9];refine adc fun r _=>?_
 simp only [Function.comp,AV.frz,fH]
theorem Vy (q:Nat->Bool) (r:Rdn):AV.refsL q (aZ r)=true:=by
 induction r with
 | nil=>rfl
 | cons a r ih=>simpa [aZ,mY,AV.refsL,AV.refs] using ih
theorem EU (q:Nat->Bool):∀ d:List Rdn,AV.refsL q (d.map ci)=true
 | []=>rfl
 | r::d=>by simp only [abS,AV.refsL,AV.refs,Vy,EU q d,adv]
theorem oB {s:List UInt8} (h:fc s=true):s.length<=32:=by
 simp only [fc,abK,decide_eq_true_eq] at h;exact h.1.1.2
theorem aap {r:Rdn} {typ:List UInt8} {i n:Nat} (hr:r.length=n) (hn:n<=8) (h1:∀ a∈r,a.1.length<=32) (h2:typ.length<=4096) (h:K (.bool (gT r typ)) L) :
  abC 175 [.gsl (aZ r) n i 2,.str typ] L K:=by
 subst hr;exact mm (by simpa only [AV.frzL,AV.frz,fH] using ZJ (cap:=none) (by omega) (fun a ha=>by have:=h1 a ha;omega) (by omega) h)
theorem YW {s:List UInt8} (h:K (Sm (rC s)) L):abC 139 [.str s] L K:=by
 refine ad OE (by simp [Iq]) ?_;simp only [Iq,ao];by_cases h1:4096<s.length
 ·have f1:(4096:Int)<(s.length:Int):=by omega
  rw [rC,if_pos h1] at h;replace h:=hid h;clear h1;refine wk ?_;exact bv (aa h.out)
 have f1:¬ (4096:Int)<(s.length:Int):=by omega
 rw [rC,if_neg h1] at h;by_cases h2:s=[]
 ·rw [if_pos h2] at h;replace h:=hid h;refine wk ?_;exact bv (aa h.out)
 rw [if_neg h2] at h;replace h:=hid h;have hs:=hid (show s.length<=4096 by omega);clear h1;obtain ⟨R,hR⟩:=aby (mX (s.length+1) [] [] s);rw [hR] at h;refine wk ?_;refine cH (l:=[]) (n:=0) 4 1 rfl (acf 1).symm ?_;refine ak (fun n T' L'=>∃ (f m:Nat) (out:List Rdn) (now:Rdn) (u:List UInt8) (v:AV) (X:List Blk),f=n/\u.length<=4096/\m=out.length/\m<=32/\now.length<=8/\Hid (u.length<f/\mX f out now u=R/\(∀ a∈now,a.1.length<=32)/\aaL L.length now v L')/\L'[L.length]?=some (.spare m 1)/\T'=[(5,v),(4,.gsl (out.map ci) m L.length 1),(0,.str u)]/\L'=L++X) (CutS (b:=by simp)) ⟨s.length+1,0,[],[],s,_,[.spare 0 1],rfl,hs.out,rfl,by omega,by simp,hid ⟨by omega,hR,by simp,.inl ⟨rfl,rfl,rfl⟩⟩,by simp,rfl,rfl⟩ ?_;clear h2;clear hs;rintro _ _ _ ⟨f,m,out,now,u,v,X,rfl,hu,hm,hm32,hn8,hI,ho,rfl,rfl⟩;obtain ⟨hf,hp,ht,hv⟩:=hI.out;clear hI;clear hR;obtain ⟨f,rfl⟩:∃ g,f=g+1:=⟨f - 1,by omega⟩;have hB:L.length<(L++X).length:=(abE.1 ho).1;refine Qy 5 2 L.length rfl hB hv fun i Y hBi hi=>?_
 rw [abT] at hi ⊢;have ho2:(L++(X++Y))[L.length]?=some (.spare m 1):=by rw [<- abT,abQ hB];exact ho
 generalize X++Y=Z at hi ho2 ⊢;clear ho hB hv;have s5:∀ A,(L++Z).set i A=L++Z.set (i - L.length) A:=fun A=>acE _ _ (by omega)
 have s4:∀ (W:List Blk) A,(L++W).set L.length A=L++W.set 0 A:=fun W A=>by rw [acE _ _ (abF _),ac5]
 have hz:i - L.length≠0:=by omega
 have s54:∀ A,(L++Z.set (i - L.length) A)[L.length]?=some (.spare m 1):=fun A=>by rw [<- s5,ab0 (by omega)];exact ho2
 have s55:∀ A,(L++Z.set (i - L.length) A)[i]?=some A:=fun A=>by rw [<- s5,ab3,if_pos rfl,if_pos (abE.1 hi).1]
 have hul:=hu;obtain ⟨c,hc⟩:∃ c:Nat,now.length=c:=⟨_,rfl⟩;rw [mX] at hp;rw [hc] at hp hi hn8 ⊢;by_cases hlim:out.length=32\/c=8
 ·rw [if_pos hlim] at hp;have h':=h.out;rw [<- hp] at h';replace h':=hid h';have k:(m:Int)=32\/(m:Int)≠32/\(c:Int)=8:=by omega
  clear hp hlim;clear hm;rcases k with k|⟨k,k'⟩
  ·refine wk ?_;exact eS h'.out
  ·refine wk ?_;exact eS h'.out
 rw [if_neg hlim] at hp;have k1:¬ (m:Int)=32:=by omega
 have k2:¬ (c:Int)=8:=by omega
 replace hm:=hid hm;clear hlim;replace hp:=hid hp;replace ht:=hid ht;refine wk ?_;refine abb (by omega) ?_;rcases hcut:gJ u with _|⟨typ,rest⟩
 ·rw [show NL u=.tup [.str u,.str [],.bool false] by simp only [NL,hcut]];have h':=h.out;rw [<- hp.out,hcut] at h';simp only at h';replace h':=hid h';refine sk ?_;refine wk ?_;exact eS h'.out
 rw [show NL u=.tup [.str typ,.str rest,.bool true] by simp only [NL,hcut]];have hp2:=hp.out;rw [hcut] at hp2;simp only at hp2;have hlen:=RF hcut;replace hp2:=hid hp2;clear hcut hp;refine sk ?_;cases hty:fc typ with
 | false =>
   have h':=h.out;rw [<- hp2.out,if_pos hty] at h';replace h':=hid h';have kk1:=@hid _ @R5;refine wk ?_;exact eS h'.out
 | true =>
   have hp3:=hp2.out;rw [if_neg (by rw [hty];simp)] at hp3;replace hp3:=hid hp3;clear hp2;have kk1:=@hid _ @R5;refine wk ?_;refine aap hc hn8 ht.out (by omega) ?_;cases hha:gT now typ with
   | true =>
     have h':=h.out;rw [<- hp3.out,if_pos hha] at h';replace h':=hid h';refine sk ?_;refine wk ?_;exact eS h'.out
   | false =>
     have hp4:=hp3.out;rw [if_neg (by rw [hha];simp)] at hp4;replace hp4:=hid hp4;clear hp3;refine sk ?_;refine wk ?_;refine Yt (by omega) ?_;rcases hvl:eH [] false rest with _|⟨w,r2,okk⟩
     ·have h':=h.out;rw [<- hp4.out,hvl] at h';simp only at h';replace h':=hid h';simp only [Uc];refine sk ?_;refine wk ?_;exact eS h'.out
     ·have hp5:=hp4.out;rw [hvl] at hp5;simp only at hp5;have hl2:=V0 _ (abF _) hvl;replace hp5:=hid hp5;clear hp4 hvl;simp only [Uc];refine sk ?_;cases okk with
      | false =>
        have h':=h.out;rw [<- hp5.out,if_pos rfl] at h';replace h':=hid h';refine wk ?_;exact eS h'.out
      | true =>
        have hp6:=hp5.out;rw [if_neg (by simp)] at hp6;replace hp6:=hid hp6;clear hp5;have q1:(c+1) * 32<=140737488355328:=by omega
        have q2:c+1<=140737488355328:=by omega
        have q3:(m+1) * 24<=140737488355328:=by omega
        have q4:m+1<=140737488355328:=by omega
        have e1:aZ now++[AV.str typ,AV.str w]=aZ (now++[(typ,w)]):=(PD _ _ _).symm;have e2:out.map ci++[AV.sl (AV.frzL (aZ now++[AV.str typ,AV.str w])) (c+1) none]=(out++[now++[(typ,w)]]).map ci:=by
         rw [e1,fH,aca];simp [hc]
        have e3:(out++[now++[(typ,w)]]).length=m+1:=by simp [hm.out]
        have e4:(now++[(typ,w)]).length=c+1:=by simp [hc]
        have e5:∀ a∈now++[(typ,w)],a.1.length<=32:=fun a ha=>by
         rcases abH.1 ha with h|h
         ·exact ht.out a h
         ·rw [abZ.1 h];exact oB hty
        replace e1:=hid e1;replace e2:=hid e2;replace e3:=hid e3;replace e4:=hid e4;replace e5:=hid e5;cases r2 with
        | nil =>
          have h':=h.out;rw [<- hp6.out] at h';simp only at h';replace h':=hid h';refine wk ?_;rw [e2.out];refine bv (ae ?_ ?_)
          ·simp only [AV.frz,AV.frzL,oD,AV.refs,AV.refsL,EU,adv]
          ·simp only [AV.frz,AV.frzL,oD];have:=h'.out;simp only [Sm,e3.out] at this;exact this
        | cons x s' =>
          simp only at hp6;have q5:¬ (x::s'=[]):=by simp
          have q7:((s'.length:Int)+1).toNat - 1=s'.length:=by omega
          have q8:s'.take (((s'.length:Int)+1).toNat - 1)=s':=by rw [q7,abY]
          simp only [abR] at hl2;clear q7;replace q8:=hid q8;by_cases hx:x=44
          ·subst hx;refine wk ?_;rw [q8.out,e2.out];refine ai _ _ _ ?_ (CutS (b:=?_)) ⟨f,m+1,out++[now++[(typ,w)]],[],s',.sl [] 0 (some 0),_,rfl,by omega,e3.out.symm,by omega,by simp,hid ⟨by omega,?_,by simp,.inl ⟨rfl,rfl,rfl⟩⟩,?_,rfl,rfl⟩
           ·omega
           ·have:=(abE.1 ho2).1;simp at this ⊢;omega
           ·rw [<- hp6.out,if_pos rfl]
           ·have:=(abE.1 ho2).1;rw [<- s4,ab3,if_pos rfl,if_pos (by simp at this ⊢;omega)]
          ·have q6:¬ (x.toNat:Int)=44:=fun e=>hx ((bu x 44).1 e)
           refine wk ?_;rw [q8.out,e1.out];refine ai _ _ _ ?_ (CutS (b:=?_)) ⟨f,m,out,now++[(typ,w)],s',.gsl (aZ (now++[(typ,w)])) (c+1) i 2,_,rfl,by omega,hm.out,hm32,by rw [e4.out];omega,hid ⟨by omega,?_,e5.out,.inr ⟨i,hBi,by rw [e4.out],by rw [e4.out];exact s55 _⟩⟩,s54 _,rfl,rfl⟩
           ·omega
           ·have:=(abE.1 ho2).1;simp at this ⊢;omega
           ·rw [<- hp6.out,if_neg hx]
def dy:Rdn->Rdn->Int
 | _,[]=>0
 | done,a::t=>if done.length=8 then 9 else if fc a.1=false then 20 else if gT done a.1=true then 21 else dy (done++[a]) t
def gU:Nat->List Rdn->Int
 | _,[]=>0
 | i,r::t=>if i=32 then 9 else if r=[] then 2 else if dy [] r≠0 then dy [] r else gU (i+1) t
theorem HV {d:List Rdn} {k:Nat} (h:k<d.length):(d.map ci).getD k .undef=ci (d.getD k []):=by simp [h]
theorem Li {r:Rdn} {k:Nat}:(aZ r).take (k * 2)=aZ (r.take k):=by
 induction r generalizing k with
 | nil=>simp [aZ]
 | cons a r ih =>
   cases k with
   | zero=>simp [aZ]
   | succ k =>
     have:=@ih k;simp only [aZ] at this;rw [show (k+1) * 2=k * 2+1+1 by omega];simp [aZ,mY,this]
theorem aao {r:Rdn} {typ:List UInt8} {n:Nat} {cap:Option Nat} (hr:r.length=n) (hn:n<=8) (h1:∀ a∈r,a.1.length<=32) (h2:typ.length<=32) (h:K (.bool (gT r typ)) L) :
  abC 175 [.sl (aZ r) n cap,.str typ] L K:=by
 subst hr;exact ZJ (by omega) (fun a ha=>by have:=h1 a ha;omega) (by omega) h
theorem Zk {d:List Rdn} {cap:Option Nat} (hn:d.length<=1100000) (hr:∀ r∈d,r.length<=1100000) (h:K (.int .i64 (gU 0 d)) L):abC 212 [.sl (d.map ci) d.length cap] L K:=by
 replace h:=hid h;have hat:=hid (fun k=>@HV d k);replace hr:=hid hr;refine abB OC ?_;refine ak (fun n T' L'=>∃ (i:Nat) (X:List Blk),n=d.length - i/\i<=d.length/\i<=32/\Hid (gU i (d.drop i)=gU 0 d)/\T'=[(9,.int .i64 (i:Int)),(8,.int .i64 d.length),(7,.sl (d.map ci) d.length cap)]/\L'=L++X) (CutS (b:=by simp)) ⟨0,[],rfl,abL _,by omega,hid rfl,rfl,by simp⟩ ?_;rintro _ _ _ ⟨i,X,rfl,hi,hi32,he,rfl,rfl⟩;by_cases hlt:i<d.length
 ·have g1:(i:Int)<(d.length:Int):=by omega
  have g2:=abA i (by omega);have e2:=hat.out i hlt;have hrl:=hr.out (d.getD i []) (by rw [ab5,abV hlt];exact acN _);obtain ⟨r,hri⟩:=aby (d.getD i []);have hdr:d.drop i=r::d.drop (i+1):=by rw [acp hlt,<- hri];simp [hlt]
  rw [hri] at e2 hrl;have he2:=he.out;rw [hdr,gU] at he2;clear hdr hri;by_cases h32:i=32
  ·rw [if_pos h32] at he2;have h':=h.out;rw [<- he2] at h';replace h':=hid h';have k1:(i:Int)=32:=by omega
   have g1':(32:Int)<(d.length:Int):=by omega
   clear h32 he2;refine wk ?_;exact ae rfl h'.out
  rw [if_neg h32] at he2;have k1:¬ (i:Int)=32:=by omega
  by_cases hr0:r=[]
  ·rw [if_pos hr0] at he2;subst hr0;have h':=h.out;rw [<- he2] at h';replace h':=hid h';clear h32 he2;refine wk ?_;exact ae rfl h'.out
  rw [if_neg hr0] at he2;have k2:¬ (r.length:Int)=0:=by have:=acQ.2 hr0;omega
  have herr:∀ e:Int,dy [] r=e->e≠0->K (.int .i64 e) L:=fun e a1 a2=>by
   rw [if_pos (by rw [a1];exact a2),a1] at he2;rw [he2];exact h.out
  replace herr:=hid herr;replace he2:=hid he2;clear h32;refine wk ?_;refine ak (fun n T' L'=>∃ (k:Nat) (Y:List Blk),n=r.length - k/\k<=r.length/\k<=8/\Hid (dy (r.take k) (r.drop k)=dy [] r/\∀ a∈r.take k,a.1.length<=32)/\T'=[(23,.int .i64 (k:Int)),(22,.int .i64 r.length),(21,ci r),(4,ci r),(9,.int .i64 (i:Int)),(8,.int .i64 d.length),(7,.sl (d.map ci) d.length cap)]/\L'=L++(X++Y)) (CutS (b:=by simp)) ⟨0,[],rfl,abL _,by omega,hid ⟨rfl,by simp⟩,rfl,by simp⟩ ?_;rintro _ _ _ ⟨k,Y,rfl,hk,hk8,hrow,rfl,rfl⟩;by_cases hkl:k<r.length
  ·have g3:(k:Int)<(r.length:Int):=by omega
   have g4:=abA k (by omega);have e3:=eM hkl;have e4:k * 2+2<=(aZ r).length:=by rw [dw];omega
   obtain ⟨⟨ty,va⟩,ha⟩:∃ a,r.getD k ([],[])=a:=⟨_,rfl⟩;have hdk:r.drop k=(ty,va)::r.drop (k+1):=by rw [acp hkl,<- ha];simp [hkl]
   have htk:r.take (k+1)=r.take k++[(ty,va)]:=by rw [ab2 hkl,<- ha];simp [hkl]
   rw [ha] at e3;simp only [mY] at e3;obtain ⟨hr1,hr2⟩:=hrow.out;rw [hdk,dy] at hr1;have hlk:(r.take k).length=k:=by simp;omega
   rw [hlk] at hr1;clear hdk ha hrow;have e5:(aZ r).take (k * 2)=aZ (r.take k):=Li;have g5:(k:Int)<=(r.length:Int):=by omega
   replace hr1:=hid hr1;replace hr2:=hid hr2;replace htk:=hid htk;have e6:=hid hlk;clear hlk
   repeat' first
    | refine a8 ?_
    | (first|refine aU (by kernel_rfl) ?_|refine aB (by kernel_rfl) ?_|refine aE ?_|refine bI ?_|refine bf (fun _=>?_)|refine ay ?_|refine aW ?_)
      refine sm ?_
    | (first|refine aO (by kernel_rfl) ?_|refine aP ?_|refine aD ?_|refine aV ?_|refine bp (ax ?_))
      refine sl ?_
    | exact bg
    | first|apply bh|apply aR|apply bj|apply aS|apply bm|apply aT
    | refine aH ?_
    | refine aC ?_
    | first|refine aF rfl ?_|refine aG rfl ?_|refine an rfl ?_ ?_|refine aJ rfl (fun _=>?_) (fun _=>?_)|refine aI rfl (fun _=>?_) (fun _=>?_)
    | ((first|refine am (fun _=>?_) (fun _=>?_)|refine aw (fun _=>?_) (fun _=>?_))<;>try refine sm ?_)
    | refine And.intro trivial ?_
    | refine And.intro (by omega) ?_
    | refine aM rfl (fun _=>?_) (fun _=>?_)
    | refine And.intro ?_ ?_
   ·rename_i h8
    have h':=herr.out 9 (by rw [<- hr1.out,if_pos (by omega)]) (by decide);exact ae rfl h'
   ·rename_i h8
    have hr3:=hr1.out;rw [if_neg (by omega)] at hr3;refine R5 ?_;cases hty:fc ty with
    | false =>
      have h':=hid (herr.out 20 (by rw [<- hr3,if_pos hty]) (by decide));clear hr3;refine sk ?_;refine wk ?_;exact ae rfl h'.out
    | true =>
      rw [if_neg (by rw [hty];simp)] at hr3;replace hr3:=hid hr3;have htl:=oB hty;refine sk ?_
      repeat' first
       | refine a8 ?_
       | (first|refine aU (by kernel_rfl) ?_|refine aB (by kernel_rfl) ?_|refine aE ?_|refine bI ?_|refine bf (fun _=>?_)|refine ay ?_|refine aW ?_)
         refine sm ?_
       | (first|refine aO (by kernel_rfl) ?_|refine aP ?_|refine aD ?_|refine aV ?_|refine bp (ax ?_))
         refine sl ?_
       | exact bg
       | first|apply bh|apply aR|apply bj|apply aS|apply bm|apply aT
       | refine aH ?_
       | refine aC ?_
       | first|refine aF rfl ?_|refine aG rfl ?_|refine an rfl ?_ ?_|refine aJ rfl (fun _=>?_) (fun _=>?_)|refine aI rfl (fun _=>?_) (fun _=>?_)
       | ((first|refine am (fun _=>?_) (fun _=>?_)|refine aw (fun _=>?_) (fun _=>?_))<;>try refine sm ?_)
       | refine And.intro trivial ?_
       | refine And.intro (by omega) ?_
       | refine aM rfl (fun _=>?_) (fun _=>?_)
       | refine And.intro ?_ ?_
      refine aN (aao e6.out (by omega) hr2.out htl ⟨rfl,rfl⟩) ?_;cases hha:gT (r.take k) ty with
      | true =>
        have h':=hid (herr.out 21 (by rw [<- hr3.out,if_pos hha]) (by decide));refine sk ?_;refine wk ?_;exact ae rfl h'.out
      | false =>
        have hr4:=hr3.out;rw [if_neg (by rw [hha];simp),<- htk.out] at hr4;replace hr4:=hid hr4;clear hr3;refine sk ?_;refine wk ?_;refine ai _ _ _ (by omega) (CutS (b:=by simp)) ⟨k+1,Y++[.cells [.str ty,.str va]],rfl,hkl,by omega,hid ⟨hr4.out,fun a ha=>?_⟩,rfl,by simp⟩;rw [htk.out] at ha;rcases abH.1 ha with h|h
        ·exact hr2.out a h
        ·rw [abZ.1 h];exact htl
  ·have hke:k=r.length:=by omega
   subst hke;have g3:¬ (r.length:Int)<(r.length:Int):=by omega
   have hz:=hrow.out.1;rw [acm,dy] at hz;have he3:=he2.out;rw [<- hz] at he3;simp only [ne_eq,not_true_eq_false,if_false] at he3;replace he3:=hid he3;clear hz;refine wk ?_;exact ai _ _ _ (by omega) (CutS (b:=by simp)) ⟨i+1,X++Y,rfl,hlt,by omega,hid he3.out,rfl,rfl⟩
 ·have hke:i=d.length:=by omega
  subst hke;have g1:¬ (d.length:Int)<(d.length:Int):=by omega
  have h':=h.out;rw [<- he.out,acm,gU] at h';replace h':=hid h';refine wk ?_;exact ae rfl h'.out
end Go.Proofs.YtcmfcpjnhephaaaGreatDoor.Av
