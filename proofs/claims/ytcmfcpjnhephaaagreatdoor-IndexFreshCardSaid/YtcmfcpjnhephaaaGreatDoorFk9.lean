/- Joined texts of the walk, made small by a program. -/
import Derived.Test.YtcmfcpjnhephaaaGreatDoorFk4
import Derived.Test.YtcmfcpjnhephaaaGreatDoorRows
import Derived.KernelRfl
import Derived.Test.YtcmfcpjnhephaaaGreatDoorFk8
import Derived.Test.YtcmfcpjnhephaaaGreatDoorFk5
import Derived.Laws.RangeAny
import Derived.Laws.RangeString
import Derived.Test.YtcmfcpjnhephaaaGreatDoorFk6
set_option linter.unusedSimpArgs false
set_option linter.unusedVariables false
set_option maxRecDepth 100000
namespace Go.Proofs.YtcmfcpjnhephaaaGreatDoor.Av
open Go
def J4:LSO:=[Af 2]
def J3:LSO:=[Aa 5 0,BS 6 5,Aa 7 6,.grp none 7 false
 [Ae 8 7 0,Bh 9 7 8,A8 10 7 9 32]
 11 (tm 10),Aa 12 11,.grp none 12 false
 [Ae 13 12 0,BO 14 12 13 0,og 15 12 false (.conv .i32 (tm 14)),AI 16 12 191 15,AP 17 12 16]
 18 (tm 17)]
def J2:LSO:=[Af 2]
def J1:LSO:=[Aa 19 0,o1 20 (.rangeS (tm 19))]
def J0:LSO:=[o1 21 (.nextS (tm 20)),Ar 22 21]
def JZ:LSO:=[Bc 23 21,Aa 4 23]
def JY:LSO:=[Aa 24 4,Ai 25 191 24,Az 26 25,Aa 27 26,.grp none 27 true
 [Ag 28 27 4,og 29 27 true (.bin .lss (tm 28) (.av (.int .i32 48))),Ag 30 27 29,.grp (some (27,true)) 30 false
 [Ae 31 30 4,og 32 30 false (.bin .gtr (tm 31) (.av (.int .i32 57)))]
 33 (tm 32)]
 34 (tm 33),Aa 35 34,.grp none 35 true
 [Ag 36 35 4,og 37 35 true (.bin .neq (tm 36) (.av (.int .i32 45)))]
 38 (tm 37)]
def JW:LSO:=[Af 2]
def JV:LSO:=[Ay 2]
def JE:br:=⟨39,(.seq (.sreg J4 [])
 (.seq (.seq (.sreg J3 Ch)
 (.cond (tm 18) (.seq (.sreg J2 [])
 .ret)
 .skip))
 (.seq (.seq (.sreg J1 Cd)
 (.block 0 (.loop (.seq (.sreg J0 [])
 (.seq (.cond (tm 22) .skip
 (.exit 0))
 (.block 1 (.seq (.sreg JZ Cd)
 (.seq (.sreg JY Ci)
 (.cond (tm 38) (.seq (.sreg JW [])
 .ret)
 .skip)))))))))
 (.seq (.sreg JV [])
 .ret)))),[(.tmp 2)]⟩
attribute [push_cast] J4 J3 J2 J1 J0 JZ JY JW JV
theorem ON:bt Tryz.prog (fun _ _=>1) 157=some JE.raw:=by kernel_rfl
def FG:LSO:=[Af 2]
def FF:LSO:=[Aa 3 0,o1 4 (.bin .geq (tm 3) (.av (.int .i32 97))),Aa 5 4,.grp none 5 true
 [Ag 6 5 0,og 7 5 true (.bin .leq (tm 6) (.av (.int .i32 122)))]
 8 (tm 7),Aa 9 8,.grp none 9 false
 [Ae 10 9 0,og 11 9 false (.bin .geq (tm 10) (.av (.int .i32 65))),Ae 12 9 11,.grp (some (9,false)) 12 true
 [Ag 13 12 0,og 14 12 true (.bin .leq (tm 13) (.av (.int .i32 90)))]
 15 (tm 14)]
 16 (tm 15),Aa 2 16]
def Db:br:=⟨17,(.seq (.sreg FG [])
 (.seq (.sreg FF Ci)
 .ret)),[(.tmp 2)]⟩
attribute [push_cast] FG FF
theorem Mp:bt Tryz.prog (fun _ _=>1) 191=some Db.raw:=by kernel_rfl
def Lg:LSO:=[A5 3 1,Af 4]
def Lf:LSO:=[Aa 5 0,o1 6 (.mkfn 209 [(tm 3)]),Aq 7 208 5 6,Aa 4 7]
def Mq:br:=⟨8,(.seq (.sreg Lg [])
 (.seq (.sreg Lf Cf)
 .ret)),[(.tmp 4)]⟩
attribute [push_cast] Lg Lf
theorem PW:bt Tryz.prog (fun _ _=>1) 175=some Mq.raw:=by kernel_rfl
def HV:LSO:=[A5 2 0,Af 3]
def HU:LSO:=[Ad 4 0 2,Ac 5 1 4,Ai 6 38 5,Ac 7 1 1,Ai 8 38 7,AA 9 6 8,Aa 3 9]
def GR:br:=⟨10,(.seq (.sreg HV [])
 (.seq (.sdreg HU [.pure,(.read 0 0),(.read 0 0),(.read 0 0)] Ci)
 .ret)),[(.tmp 3)]⟩
attribute [push_cast] HV HU
theorem MY:bt Tryz.prog (fun _ _=>1) 209=some GR.raw:=by kernel_rfl
def HL:LSO:=[Am 2,Am 3,Af 4]
def HK:LSO:=[Aj 5]
def HJ:LSO:=[Af 6]
def HI:LSO:=[Ab 7 0]
def HH:LSO:=[Aa 11 7,Aa 12 0,Ap 13 12,Ak 14 11 13,Aa 15 14,.grp none 15 true
 [Ag 16 15 0,Ag 17 15 7,AT 18 15 16 17,og 19 15 true (.bin .neq (tm 18) (.av (.int .u8 44)))]
 20 (tm 19),Aa 21 20,.grp none 21 true
 [Ag 22 21 0,Ag 23 21 7,AT 24 21 22 23,og 25 21 true (.bin .neq (tm 24) (.av (.int .u8 43)))]
 26 (tm 25)]
def HG:LSO:=[Aa 27 0,Aa 28 7,A6 29 27 28,Aa 8 29]
def HF:LSO:=[Aa 30 8,o1 31 (.bin .eql (tm 30) (.av (.int .u8 32))),Aa 6 31]
def HE:LSO:=[Aa 33 8,o1 34 (.bin .neq (tm 33) (.av (.int .u8 92))),Aa 32 34]
def HD:LSO:=[Aa 35 8,BA 36 35,Aa 37 36,.grp none 37 false
 [Ae 38 37 8,og 39 37 false (.call 210 [(.av (.str [34,59,60,62])),(tm 38)]),B9 40 37 39 0]
 41 (tm 40),Aa 42 41,.grp none 42 false
 [Ae 43 42 5,BB 44 42 43,AE 45 42 44 0,Ae 46 42 45,.grp (some (42,false)) 46 true
 [Ag 47 46 8,Bi 48 46 47,Ag 49 46 48,.grp (some (46,true)) 49 false
 [Ae 50 49 8,og 51 49 false (.bin .eql (tm 50) (.av (.int .u8 35)))]
 52 (tm 51)]
 53 (tm 52)]
 54 (tm 53)]
def HC:LSO:=[Am 2,Am 3,Af 4]
def FC:LSO:=[Aa 56 7,Ah 57 56 1,Aa 58 0,Ap 59 58,Ak 60 57 59,Aa 61 60,.grp none 61 true
 [Ag 62 61 0,Ag 63 61 7,og 64 61 true (.bin .add (tm 63) (iv 1)),AT 65 61 62 64,og 66 61 true (.call 210 [(.av (.str [34,43,44,59,60,62,92,32,35,61])),(tm 65)]),
 og 67 61 true (.bin .geq (tm 66) (iv 0))]
 68 (tm 67),Aa 55 68]
def FB:LSO:=[Aa 69 7,Ah 70 69 1,Aa 7 70]
def FA:LSO:=[Aa 71 0,Aa 72 7,A6 73 71 72,Aa 8 73]
def Fz:LSO:=[Aa 75 7,Ah 76 75 2,Aa 77 0,Ap 78 77,Ak 79 76 78,Aa 74 79]
def Fy:LSO:=[Aa 81 0,Aa 82 7,Ah 83 82 1,Aa 84 7,Ah 85 84 3,BC 86 81 83 85,Ai 87 211 86,Aa 80 87,Ar 88 80,Au 89 80,Aa 9 88,Aa 10 89]
def Fx:LSO:=[Aa 90 10,Az 91 90]
def Fw:LSO:=[Am 2,Am 3,Af 4]
def Fv:LSO:=[Aa 92 9,B8 93 92 0,Aa 8 93]
def Fu:LSO:=[Aa 94 7,Ah 95 94 2,Aa 7 95]
def Fs:LSO:=[Am 2,Am 3,Af 4]
def Fq:LSO:=[Aa 96 5,Aa 97 8,AH 98 97,AB 99 96 98,Aa 5 99]
def Fp:LSO:=[Aa 100 7,Ah 101 100 1,Aa 7 101]
def Fo:LSO:=[Aa 102 5,AJ 103 102,Aa 104 0,Aa 105 7,BQ 106 104 105,Aa 107 6,Az 108 107,Aa 2 103,Aa 3 106,Aa 4 108]
def GP:br:=⟨109,(.seq (.sreg HL [])
 (.seq (.sreg HK [])
 (.seq (.sreg HJ [])
 (.seq (.sreg HI [])
 (.seq (.block 0 (.loop (.seq (.seq (.sreg HH Cm)
 (.cond (tm 26) .skip
 (.exit 0)))
 (.block 1 (.seq (.sreg HG Cf)
 (.seq (.sreg HF Ce)
 (.seq (.block 2 (.seq (.sreg HE Ce)
 (.cond (tm 32) (.seq (.sreg HD Ch)
 (.cond (tm 54) (.seq (.sreg HC [])
 .ret)
 .skip))
 (.seq (.sreg FC Cm)
 (.cond (tm 55) (.seq (.sreg FB Ce)
 (.sreg FA Cf))
 (.seq (.sreg Fz Ch)
 (.cond (tm 74) (.seq (.sreg Fy [true,true,false,false,false,false,false,false,false,false,false,false])
 (.seq (.seq (.sreg Fx Cd)
 (.cond (tm 91) (.seq (.sreg Fw [])
 .ret)
 .skip))
 (.seq (.sreg Fv Ce)
 (.sreg Fu Ce))))
 (.seq (.sreg Fs [])
 .ret))))))))
 (.seq (.sreg Fq Cg)
 (.sreg Fp Ce)))))))))
 (.seq (.sdreg Fo [.pure,(.read 0 0),.pure,.pure,(.read 0 0),.pure,.pure,.pure,.pure] [true,true,true,false,false,false,false,false,false,false])
 .ret)))))),[(.tmp 2),(.tmp 3),(.tmp 4)]⟩
attribute [push_cast] HL HK HJ HI HH HG HF HE HD HC FC FB FA Fz Fy Fx Fw Fv Fu Fs Fq Fp Fo
theorem MX:bt Tryz.prog (fun _ _=>1) 176=some GP.raw:=by kernel_rfl
def Ir:LSO:=[Aj 2,Ab 3 0]
def Iq:LSO:=[Aa 10 0,Ap 11 10,A3 12 11 4096]
def Ip:LSO:=[Aj 2,Ab 3 5]
def Io:LSO:=[Aa 13 0,BS 14 13]
def Im:LSO:=[Aj 2,Ab 3 0]
def Il:LSO:=[Aj 4]
def Ik:LSO:=[Aj 5]
def Ij:LSO:=[Aa 15 4,Al 16 15,As 17 16 32,Aa 18 17,.grp none 18 false
 [Ae 19 18 5,BB 20 18 19,AE 21 18 20 8]
 22 (tm 21)]
def Ii:LSO:=[Aj 2,Ab 3 9]
def Ih:LSO:=[Aa 24 0,o1 25 (.call 174 [(tm 24),(.av (.str [61]))]),Aa 23 25,Ar 26 23,Au 27 23,Bc 28 23,Aa 6 26,Aa 7 27,Aa 8 28]
def Gd:LSO:=[Aa 29 8,Az 30 29,Aa 31 30,.grp none 31 false
 [Ae 32 31 6,AI 33 31 157 32,AP 34 31 33]
 35 (tm 34)]
def Gc:LSO:=[Aj 2,Ab 3 4]
def Gb:LSO:=[Aa 36 5,Aa 37 6,Aq 38 175 36 37]
def Ga:LSO:=[Aj 2,Ab 3 21]
def F9:LSO:=[Aa 40 7,Ai 41 176 40,Aa 39 41,Ar 42 39,Au 43 39,Bc 44 39,Aa 9 42,Aa 7 43,Aa 8 44]
def F8:LSO:=[Aa 45 8,Az 46 45]
def F7:LSO:=[Aj 2,Ab 3 4]
def F6:LSO:=[Aa 47 5,Aa 48 6,Aa 49 9,o1 50 (.build [(.str []),(.str [])] [(0,(1,(tm 48))),(1,(1,(tm 49)))]),BT 51 50,Bq 52 47 51,Aa 5 52]
def F5:LSO:=[Aa 53 7,BS 54 53]
def F4:LSO:=[Aa 55 4,Aa 56 5,BD 57 56,BE 58 55 57,Aa 2 58,Ab 3 0]
def F3:LSO:=[Aa 59 7,B8 60 59 0,o1 61 (.bin .eql (tm 60) (.av (.int .u8 44)))]
def F2:LSO:=[Aa 62 4,Aa 63 5,BD 64 63,BE 65 62 64,Aa 4 65,Aj 5]
def F1:LSO:=[Aa 66 7,o1 67 (.slS (tm 66) (some (iv 1)) none),Aa 0 67]
def GV:br:=⟨68,(.seq (.sreg Ir [])
 (.seq (.seq (.sreg Iq Ce)
 (.cond (tm 12) (.seq (.sreg Ip [])
 .ret)
 .skip))
 (.seq (.seq (.sreg Io Cd)
 (.cond (tm 14) (.seq (.sreg Im [])
 .ret)
 .skip))
 (.seq (.sreg Il [])
 (.seq (.sreg Ik [])
 (.block 0 (.loop (.block 1 (.seq (.seq (.sreg Ij Cg)
 (.cond (tm 22) (.seq (.sreg Ii [])
 .ret)
 .skip))
 (.seq (.sreg Ih C4)
 (.seq (.seq (.sreg Gd Cf)
 (.cond (tm 35) (.seq (.sreg Gc [])
 .ret)
 .skip))
 (.seq (.seq (.sreg Gb Ce)
 (.cond (tm 38) (.seq (.sreg Ga [])
 .ret)
 .skip))
 (.seq (.sreg F9 C4)
 (.seq (.seq (.sreg F8 Cd)
 (.cond (tm 46) (.seq (.sreg F7 [])
 .ret)
 .skip))
 (.seq (.sreg F6 Ci)
 (.seq (.seq (.sreg F5 Cd)
 (.cond (tm 54) (.seq (.sreg F4 Cz)
 .ret)
 .skip))
 (.seq (.seq (.sreg F3 Ce)
 (.cond (tm 61) (.sreg F2 Cz)
 .skip))
 (.sreg F1 Ce)))))))))))))))))),[(.tmp 2),(.tmp 3)]⟩
attribute [push_cast] Ir Iq Ip Io Im Il Ik Ij Ii Ih Gd Gc Gb Ga F9 F8 F7 F6 F5 F4 F3 F2 F1
theorem M1:bt Tryz.prog (fun _ _=>1) 139=some GV.raw:=by kernel_rfl
def zV:LSO:=[Am 2]
def zU:LSO:=[Aj 3]
def zT:LSO:=[Aa 7 0,o1 8 (.s2b (tm 7)),Al 9 8,Ab 10 0]
def zS:LSO:=[Ak 11 10 9]
def zR:LSO:=[Aa 12 10,An 13 1 8 10,Ac 14 1 13,Aa 4 12,Aa 5 14]
def zQ:LSO:=[Aa 15 4,As 16 15 0,Aa 17 16,.grp none 17 true
 [Ag 18 17 5,Bi 19 17 18,Ag 20 17 19,.grp (some (17,true)) 20 false
 [Ae 21 20 5,og 22 20 false (.bin .eql (tm 21) (.av (.int .u8 35)))]
 23 (tm 22)]
 24 (tm 23),Aa 25 24,.grp none 25 false
 [Ae 26 25 4,Ae 27 25 0,Bh 28 25 27,BU 29 25 28 1,og 30 25 false (.bin .eql (tm 26) (tm 29)),Ae 31 25 30,.grp (some (25,false)) 31 true
 [Ag 32 31 5,Bi 33 31 32]
 34 (tm 33)]
 35 (tm 34),Aa 6 35]
def zP:LSO:=[Aa 37 5,BA 38 37,Aa 36 38]
def zO:LSO:=[Aa 39 3,o1 40 (.app 1 1 1 [(.int .u8 0)] (tm 39) (.av (.str [92,48,48]))),Aa 3 40]
def zN:LSO:=[Aa 42 6,Aa 43 42,.grp none 43 false
 [Ae 44 43 5,og 45 43 false (.call 210 [(.av (.str [34,43,44,59,60,62,92])),(tm 44)]),B9 46 43 45 0]
 47 (tm 46),Aa 41 47]
def zM:LSO:=[Aa 48 3,o1 49 (.bslice false 1 1 [(.int .u8 0)] [(0,(1,(.av (.int .u8 92))))]),AB 50 48 49,Aa 3 50]
def vP:LSO:=[Aa 51 3,Aa 52 5,AH 53 52,AB 54 51 53,Aa 3 54]
def vO:LSO:=[Ah 55 10 1,Aa 10 55]
def vN:LSO:=[Aa 56 3,AJ 57 56,Aa 2 57]
def rS:br:=⟨58,(.seq (.sreg zV [])
 (.seq (.sreg zU [])
 (.seq (.seq (.sreg zT Cu)
 (.block 0 (.loop (.seq (.sreg zS [])
 (.seq (.cond (tm 11) .skip
 (.exit 0))
 (.seq (.block 1 (.seq (.sreg zR Cl)
 (.seq (.sreg zQ Ci)
 (.seq (.block 2 (.seq (.sreg zP Ce)
 (.cond (tm 36) (.seq (.sreg zO Ce)
 (.exit 1))
 (.seq (.sreg zN Cf)
 (.cond (tm 41) (.sreg zM Cf)
 .skip)))))
 (.sreg vP Cg)))))
 (.sreg vO Cd)))))))
 (.seq (.sreg vN Ce)
 .ret)))),[(.tmp 2)]⟩
attribute [push_cast] zV zU zT zS zR zQ zP zO zN zM vP vO vN
theorem KR:bt Tryz.prog (fun _ _=>1) 213=some rS.raw:=by kernel_rfl
def H5:LSO:=[Ab 2 0]
def H4:LSO:=[Aa 7 0,Al 8 7,Ab 9 0]
def H3:LSO:=[Ak 10 9 8]
def H2:LSO:=[Aa 11 9,An 12 1 7 9,Ac 13 1 12,Aa 3 11,Aa 4 13]
def H1:LSO:=[Aa 15 3,As 16 15 32,Aa 14 16]
def H0:LSO:=[Ab 2 9]
def HZ:LSO:=[Aa 18 4,Al 19 18,As 20 19 0,Aa 17 20]
def HY:LSO:=[Ab 2 2]
def HX:LSO:=[Aa 21 4,Al 22 21,Ab 23 0]
def HW:LSO:=[Ak 24 23 22]
def FQ:LSO:=[Aa 25 23,An 26 2 21 23,Aw 27 2 26,AZ 6,Aa 5 25,Ao 2 6 27]
def FP:LSO:=[Aa 29 5,As 30 29 8,Aa 28 30]
def FO:LSO:=[Ab 2 9]
def FN:LSO:=[Ad 32 0 6,Ac 33 1 32,Ai 34 157 33,Az 35 34,Aa 31 35]
def FM:LSO:=[Ab 2 20]
def FL:LSO:=[Aa 37 4,Aa 38 5,BV 39 37 38,Ad 40 0 6,Ac 41 1 40,Aq 42 175 39 41,Aa 36 42]
def FK:LSO:=[Ab 2 21]
def FJ:LSO:=[Ah 43 23 1,Aa 23 43]
def FI:LSO:=[Ah 44 9 1,Aa 9 44]
def FH:LSO:=[Ab 2 0]
def GT:br:=⟨45,(.seq (.sreg H5 [])
 (.seq (.seq (.sreg H4 [])
 (.block 0 (.loop (.seq (.sreg H3 [])
 (.seq (.cond (tm 10) .skip
 (.exit 0))
 (.seq (.block 1 (.seq (.sreg H2 Cl)
 (.seq (.block 2 (.seq (.sreg H1 Ce)
 (.cond (tm 14) (.seq (.sreg H0 [])
 .ret)
 (.seq (.sreg HZ Cf)
 (.cond (tm 17) (.seq (.sreg HY [])
 .ret)
 .skip)))))
 (.seq (.sreg HX [])
 (.block 3 (.loop (.seq (.sreg HW [])
 (.seq (.cond (tm 24) .skip
 (.exit 3))
 (.seq (.block 4 (.seq (.sreg FQ Cl)
 (.block 5 (.seq (.sreg FP Ce)
 (.cond (tm 28) (.seq (.sreg FO [])
 .ret)
 (.seq (.sreg FN Cg)
 (.cond (tm 31) (.seq (.sreg FM [])
 .ret)
 (.seq (.sdreg FL [.pure,.pure,(.read 0 0),.pure,(.read 0 0)] Ci)
 (.cond (tm 36) (.seq (.sreg FK [])
 .ret)
 .skip)))))))))
 (.sreg FJ Cd))))))))))
 (.sreg FI Cd)))))))
 (.seq (.sreg FH [])
 .ret))),[(.tmp 2)]⟩
attribute [push_cast] H5 H4 H3 H2 H1 H0 HZ HY HX HW FQ FP FO FN FM FL FK FJ FI FH
theorem MZ:bt Tryz.prog (fun _ _=>1) 212=some GT.raw:=by kernel_rfl
def Ig:LSO:=[Am 2,Ab 3 0]
def If:LSO:=[Aa 11 0,Ai 12 212 11,Aa 4 12]
def Ie:LSO:=[Aa 13 4,AC 14 13 0]
def Ic:LSO:=[Aa 15 4,Am 2,Aa 3 15]
def Ib:LSO:=[Ab 5 0]
def Ia:LSO:=[Aa 16 0,Al 17 16,Ab 18 0]
def H9:LSO:=[Ak 19 18 17]
def H8:LSO:=[An 20 1 16 18,Ac 21 1 20,Aa 7 21]
def H7:LSO:=[Aa 22 7,Al 23 22,Ab 24 0]
def H6:LSO:=[Ak 25 24 23]
def F0:LSO:=[An 26 2 22 24,Aw 27 2 26,AZ 9,Ao 2 9 27]
def FZ:LSO:=[Ad 28 1 9,Ac 29 1 28,Ap 30 29,A3 31 30 4096]
def FY:LSO:=[Am 2,Ab 3 5]
def FX:LSO:=[Aa 32 5,Ah 33 32 1,Aa 5 33]
def FW:LSO:=[Ah 34 24 1,Aa 24 34]
def FV:LSO:=[Ah 35 18 1,Aa 18 35]
def FU:LSO:=[Aa 36 0,o1 37 (.call 178 [(tm 36),(.av (.bool false))]),Aa 10 37]
def FT:LSO:=[Aa 38 10,Ap 39 38,A3 40 39 4096]
def FS:LSO:=[Am 2,Ab 3 5]
def FR:LSO:=[Aa 41 10,Aa 2 41,Ab 3 0]
def GU:br:=⟨42,(.seq (.sreg Ig [])
 (.seq (.seq (.sreg If Ce)
 (.seq (.sreg Ie Cd)
 (.cond (tm 14) (.seq (.sreg Ic Cj)
 .ret)
 .skip)))
 (.seq (.sreg Ib [])
 (.seq (.seq (.sreg Ia [])
 (.block 0 (.loop (.seq (.sreg H9 [])
 (.seq (.cond (tm 19) .skip
 (.exit 0))
 (.seq (.block 1 (.seq (.sreg H8 Ce)
 (.seq (.sreg H7 [])
 (.block 2 (.loop (.seq (.sreg H6 [])
 (.seq (.cond (tm 25) .skip
 (.exit 2))
 (.seq (.block 3 (.seq (.sreg F0 Ce)
 (.seq (.seq (.sreg FZ Cf)
 (.cond (tm 31) (.seq (.sreg FY [])
 .ret)
 .skip))
 (.sreg FX Ce))))
 (.sreg FW Cd)))))))))
 (.sreg FV Cd)))))))
 (.seq (.sreg FU Ce)
 (.seq (.seq (.sreg FT Ce)
 (.cond (tm 40) (.seq (.sreg FS [])
 .ret)
 .skip))
 (.seq (.sreg FR Cj)
 .ret))))))),[(.tmp 2),(.tmp 3)]⟩
attribute [push_cast] Ig If Ie Ic Ib Ia H9 H8 H7 H6 F0 FZ FY FX FW FV FU FT FS FR
theorem M0:bt Tryz.prog (fun _ _=>1) 177=some GU.raw:=by kernel_rfl
def J9:LSO:=[Am 2,Ab 3 0]
def J8:LSO:=[Aa 7 0,Ai 8 177 7,Aa 6 8,Ar 9 6,Au 10 6,Aa 4 9,Aa 5 10]
def J7:LSO:=[Aa 11 5,AC 12 11 0]
def J6:LSO:=[Aa 13 5,Am 2,Aa 3 13]
def J5:LSO:=[Aa 14 0,o1 15 (.call 178 [(tm 14),(.av (.bool true))]),Aa 2 15,Ab 3 0]
def JF:br:=⟨16,(.seq (.sreg J9 [])
 (.seq (.seq (.sreg J8 Ci)
 (.seq (.sreg J7 Cd)
 (.cond (tm 12) (.seq (.sreg J6 Cj)
 .ret)
 .skip)))
 (.seq (.sreg J5 Cq)
 .ret))),[(.tmp 2),(.tmp 3)]⟩
attribute [push_cast] J9 J8 J7 J6 J5
theorem OO:bt Tryz.prog (fun _ _=>1) 140=some JF.raw:=by kernel_rfl
def Ll:LSO:=[Am 2,Ab 3 0]
def Lk:LSO:=[Aa 7 0,Ai 8 139 7,Aa 6 8,Ar 9 6,Au 10 6,Aa 4 9,Aa 5 10]
def Lj:LSO:=[Aa 11 5,AC 12 11 0]
def Li:LSO:=[Aa 13 5,Am 2,Aa 3 13]
def Lh:LSO:=[Aa 14 4,Ai 15 140 14,Ar 16 15,Au 17 15,Aa 2 16,Aa 3 17]
def Mr:br:=⟨18,(.seq (.sreg Ll [])
 (.seq (.sreg Lk Cs)
 (.seq (.seq (.sreg Lj Cd)
 (.cond (tm 12) (.seq (.sreg Li Cj)
 .ret)
 .skip))
 (.seq (.sreg Lh Cz)
 .ret)))),[(.tmp 2),(.tmp 3)]⟩
attribute [push_cast] Ll Lk Lj Li Lh
theorem PX:bt Tryz.prog (fun _ _=>1) 100=some Mr.raw:=by kernel_rfl
def cM:LSO:=[Af 4]
def cL:LSO:=[Aa 5 0,Aa 6 1,Aq 7 233 5 6,AY 8 7 0,Aa 4 8]
def bZ:br:=⟨9,(.seq (.sreg cM [])
 (.seq (.sreg cL Cg)
 .ret)),[(.tmp 4)]⟩
attribute [push_cast] cM cL
theorem eB:bt Tryz.prog (fun _ _=>1) 208=some bZ.raw:=by kernel_rfl
def dk:LSO:=[Ab 4 0]
def dj:LSO:=[Aa 6 0,Al 7 6,Ab 8 0]
def di:LSO:=[Ak 9 8 7]
def dh:LSO:=[Aa 10 8,Aa 5 10]
def df:LSO:=[Aa 11 1,Aa 12 0,Aa 13 5,An 14 2 12 13,Aw 15 2 14,Bo 16 11 15]
def de:LSO:=[Aa 17 5,Aa 4 17]
def dd:LSO:=[Ah 18 8 1,Aa 8 18]
def db:LSO:=[Ab 4 (-1)]
def cq:br:=⟨19,(.seq (.sreg dk [])
 (.seq (.seq (.sreg dj Cj)
 (.block 0 (.loop (.seq (.sreg di [])
 (.seq (.cond (tm 9) .skip
 (.exit 0))
 (.seq (.block 1 (.seq (.sreg dh Cd)
 (.seq (.sreg df Ch)
 (.cond (tm 16) (.seq (.sreg de Cd)
 .ret)
 .skip))))
 (.sreg dd Cd)))))))
 (.seq (.sreg db [])
 .ret))),[(.tmp 4)]⟩
attribute [push_cast] dk dj di dh df de dd db
theorem eT:bt Tryz.prog (fun _ _=>1) 233=some cq.raw:=by kernel_rfl
def sf:LSO:=[Am 4,Am 5,Af 6]
def se:LSO:=[Aa 7 0,Aa 8 1,Aq 9 207 7 8,Ar 10 9,Au 11 9,Bc 12 9,Aa 4 10,Aa 5 11,Aa 6 12]
def fk:br:=⟨13,(.seq (.sreg sf [])
 (.seq (.sreg se C4)
 .ret)),[(.tmp 4),(.tmp 5),(.tmp 6)]⟩
attribute [push_cast] sf se
theorem qX:bt Tryz.prog (fun _ _=>1) 174=some fk.raw:=by kernel_rfl
def ef:LSO:=[Am 4,Am 5,Af 6]
def ee:LSO:=[Aa 8 0,Aa 9 1,Aq 10 159 8 9,Aa 7 10]
def ed:LSO:=[Aa 11 7,AY 12 11 0]
def d9:LSO:=[Aa 13 0,Aa 14 7,o1 15 (.slS (tm 13) none (some (tm 14))),Aa 16 0,Aa 17 7,Aa 18 1,Ap 19 18,AM 20 17 19,BQ 21 16 20,Aa 4 15,Aa 5 21,Ay 6]
def d8:LSO:=[Aa 22 0,Aa 4 22,Am 5,Af 6]
def bY:br:=⟨23,(.seq (.sreg ef [])
 (.seq (.seq (.sreg ee Cf)
 (.seq (.sreg ed Cd)
 (.cond (tm 12) (.seq (.sdreg d9 [.pure,.pure,(.read 0 0),.pure,.pure,.pure,(.read 0 0),.pure,(.read 0 0),.pure] CB)
 .ret)
 .skip)))
 (.seq (.sreg d8 Cu)
 .ret))),[(.tmp 4),(.tmp 5),(.tmp 6)]⟩
attribute [push_cast] ef ee ed d9 d8
theorem dU:bt Tryz.prog (fun _ _=>1) 207=some bY.raw:=by kernel_rfl
attribute [push_cast] Db Mq GP rS GT GU JF Mr bZ cq fk
set_option maxHeartbeats 8000000
set_option maxRecDepth 100000
theorem K5 {n:Int} (h0 : -2147483648<=n) (h1:n<2147483648):IntKind.i32.wrap n=n:=by
 simp only [IntKind.wrap,IntKind.bits,IntKind.signed];simp;omega
theorem L7 {s:List UInt8} {p:Nat} (h:p<s.length) (ha:(s.getD p 0).toNat<128):KB s p=((s.getD p 0).toNat,1):=by
 have e:s.getD p 0=s[p]:=by simp [h]
 rw [e] at ha ⊢;exact decode_ascii ⟨⟨s⟩⟩ p h ha
theorem NP {s:List UInt8} {p:Nat} (h:p<s.length) (ha:128<=(s.getD p 0).toNat):128<=(KB s p).1:=by
 have e:s.getD p 0=s[p]:=by simp [h]
 rw [e] at ha;exact (decode_high ⟨⟨s⟩⟩ p h ha).1
def kJ (x:Int):Bool:=(decide (97<=x) && decide (x<=122)) || (decide (65<=x) && decide (x<=90))
theorem kI {x:Int} {L:List Blk} {K:Zy} (h:K (.bool (kJ x)) L):Zx 191 [.int .i32 x] L K:=by
 refine Zw Mp ?_
 all_goals (first|refine ae rfl (Kto h ?_)|refine aa (Kto h ?_)|refine ae (by simp only [AV.refs,AV.refsL, *];rfl) (Kto h ?_)|refine bv (ae rfl (Kto h ?_))|(trace_state;fail))
 all_goals (first|(simp [kJ, *];done)|(simp [kJ, *];omega)|(simp [kJ, *];intros;omega)|(simp_all [Hid,kJ];done)|(simp_all [Hid,kJ];omega))
def G4 (x:Int):Bool:=kJ x || (decide (48<=x) && decide (x<=57)) || decide (x=45)
def fq (s:List UInt8):Bool:=decide (1<=s.length) && decide (s.length<=32) && kJ ((s.getD 0 0).toNat:Int) && s.all fun c=>G4 (c.toNat:Int)
theorem Na {x:Int} (h:128<=x):G4 x=false:=by
 simp only [G4,kJ,abX,abY,decide_eq_false_iff_not];omega
theorem Qg {s:List UInt8} {L:List Blk} {K:Zy} (h:K (.bool (fq s)) L):Zx 157 [.str s] L K:=by
 have no:fq s=false->K (.bool false) L:=fun e=>by rw [<- e];exact h
 replace no:=hid no;replace h:=hid h;refine ad ON (by simp [JE]) ?_;simp only [JE,aq];by_cases h0:s=[]
 ·subst h0;refine wk ?_;exact aa (no.out rfl)
 have hlen:0<s.length:=aaQ.2 h0;by_cases h1:(32:Int)<(s.length:Int)
 ·refine wk ?_;exact aa (no.out (by simp [fq];omega))
 obtain ⟨c0,hc0⟩:=Zt (s.getD 0 0);have hr:=c0.toNat_lt;have w0:IntKind.i32.wrap (c0.toNat:Int)=(c0.toNat:Int):=K5 (by omega) (by omega);cases hl0:kJ (c0.toNat:Int) with
 | false =>
   have kk1:=@hid _ @kI;refine wk ?_;refine aa (no.out ?_);simp only [fq,hc0,hl0,Bool.and_false,aa5]
 | true =>
   have kk1:=@hid _ @kI;refine wk ?_;refine ak (fun n T' L'=>∃ p,n=s.length - p/\p<=s.length/\Hid (∀ c∈s.take p,G4 (c.toNat:Int)=true)/\T'=[(20,.ptr L.length 0)]/\L'=L++[.siter s p]) (CutS (b:=by simp)) ⟨0,rfl,ZI _,hid (by simp),rfl,rfl⟩ ?_;rintro _ _ _ ⟨p,rfl,hp,hall,rfl,rfl⟩;by_cases hlt:p<s.length
   ·obtain ⟨c,hc⟩:=Zt (s.getD p 0);have hmem:c∈s:=by rw [<- hc];simp [hlt]
    have htk:s.take (p+1)=s.take p++[c]:=by rw [ZY hlt,<- hc];simp [hlt]
    replace htk:=hid htk;have bad:G4 (c.toNat:Int)=false->K (.bool false) L:=fun e=>no.out (by
     have:(s.all fun c=>G4 (c.toNat:Int))=false:=acg.2 ⟨c,hmem,by rw [e];simp⟩;simp only [fq,this,Bool.and_false])
    replace bad:=hid bad;by_cases ha:c.toNat<128
    ·have hd:=L7 hlt (by rw [hc];exact ha);rw [hc] at hd;obtain ⟨x,hx⟩:∃ x:Nat,c.toNat=x:=⟨_,rfl⟩;rw [hx] at hd bad;have hx':=hid hx;clear hx hc hmem ha hr w0;cases hxl:kJ (x:Int) with
     | true =>
       have kk1:=@hid _ @kI;refine wk ?_;refine aj _ _ _ (by omega) (CutS (b:=by simp)) ⟨p+1,rfl,hlt,hid fun d hd'=>?_,rfl,rfl⟩;rw [htk.out] at hd';rcases ZD.1 hd' with h|h
       ·exact hall.out d h
       ·rw [ZS.1 h,hx'.out,G4,hxl];rfl
     | false =>
       repeat' first
        | refine bb ?_
        | (first|refine aU (by kernel_rfl) ?_|refine aA (by kernel_rfl) ?_|refine aD ?_|refine bS ?_|refine bh (fun _=>?_)|refine ay ?_|refine aW ?_|refine kI ?_|refine bg (kI ⟨rfl,rfl⟩) (kI ⟨rfl,rfl⟩) ?_|refine aL (kI ⟨rfl,rfl⟩) ?_)
          refine sm ?_
        | (first|refine aP (by kernel_rfl) ?_|refine aQ ?_|refine aC ?_|refine aV ?_|refine bq (ax ?_))
          refine sl ?_
        | exact bj
        | first|apply bm|apply aR|apply bo|apply aS|apply bp|apply aT
        | refine aG ?_
        | refine aB ?_
        | first|refine aE rfl ?_|refine aF rfl ?_|refine an rfl ?_ ?_|refine aI rfl (fun _=>?_) (fun _=>?_)|refine aH rfl (fun _=>?_) (fun _=>?_)
        | ((first|refine am (fun _=>?_) (fun _=>?_)|refine aw (fun _=>?_) (fun _=>?_))<;>try refine sm ?_)
        | refine And.intro trivial ?_
        | refine And.intro (by omega) ?_
        | refine aM rfl (fun _=>?_) (fun _=>?_)
        | refine And.intro ?_ ?_
       ·rename_i hb
        refine ae rfl (bad.out ?_);simp only [G4,hxl,aa2,abX,abY,decide_eq_false_iff_not];omega
       ·rename_i hb
        refine aj _ _ _ (by omega) (CutS (b:=by simp)) ⟨p+1,rfl,hlt,hid fun d hd'=>?_,rfl,rfl⟩;rw [htk.out] at hd';rcases ZD.1 hd' with h|h
        ·exact hall.out d h
        ·rw [ZS.1 h,hx'.out];simp only [G4,hxl,aa2,aaa,ZE,decide_eq_true_eq];omega
    ·have hh:=NP hlt (by rw [hc];omega);obtain ⟨⟨x,wd⟩,hd⟩:∃ q,KB s p=q:=⟨_,rfl⟩;rw [hd] at hh;simp only at hh;have bad':=hid (bad.out (Na (show (128:Int)<=(c.toNat:Int) by omega)));have hxl:kJ (x:Int)=false:=by
      have:=Na (show (128:Int)<=(x:Int) by omega);simp only [G4,abX] at this;exact this.1.1
     have f1:¬ (x:Int)<48:=by omega
     have f2:(57:Int)<(x:Int):=by omega
     have f3:¬ (x:Int)=45:=by omega
     clear hc hmem hr w0;have kk1:=@hid _ @kI;refine wk ?_;exact ae rfl bad'.out
   ·have hke:p=s.length:=by omega
    subst hke;have h':=h.out;have e:fq s=true:=by
     have e1:(s.all fun c=>G4 (c.toNat:Int))=true:=ZJ.2 fun c hcm=>hall.out c (by rw [ZW];exact hcm)
     simp only [fq,e1,hc0,hl0,abv];simp;omega
    rw [e] at h';replace h':=hid h';clear e;refine wk ?_;exact ae rfl h'.out
variable {L:List Blk} {K:Zy}
abbrev Ava:=List UInt8×List UInt8
def mL (a:Ava):List AV:=[.str a.1,.str a.2]
def a7 (r:List Ava):List AV:=r.flatMap mL
abbrev Qp (r:List Ava) (cap:Option Nat):AV:=.sl (a7 r) r.length cap
def gw (r:List Ava) (typ:List UInt8):Bool:=r.any fun a=>decide (ab a.1=ab typ)
theorem Yo {a:Ava} {typ:List UInt8} {ip:Nat} (h1:(a.1.length:Int)<=100000) (h2:(typ.length:Int)<=100000) (hL:L[ip]?=some (.cells [.str typ])) (h:K (.bool (decide (ab a.1=ab typ))) L) :
  Zx 209 [.agg (mL a),.ptr ip 0] L K:=by
 obtain ⟨t,v⟩:=a;replace h:=hid h;have hip:ip<L.length:=(Zz.1 hL).1;have g1:(L++[Blk.cells [.str t,.str v]])[ip]?=some (.cells [.str typ]):=by rw [ZM hip];exact hL
 simp only [mL];refine ad MY (by simp [GR]) ?_;simp only [GR,aq];have kk1:=@hid _ (fun L K=>CI h1 (L:=L) (K:=K));have kk2:=@hid _ (fun L K=>CI h2 (L:=L) (K:=K));refine wk ?_;exact ae rfl h.out
theorem dt (r:List Ava):(a7 r).length=r.length * 2:=by
 induction r with
 | nil=>rfl
 | cons a r ih=>simp only [a7,aaO,ZQ,mL,ZN,aav] at ih ⊢;omega
theorem eM:∀ {r:List Ava} {k:Nat},k<r.length->((a7 r).drop (k * 2)).take 2=mL (r.getD k ([],[]))
 | a::r,0,_=>rfl
 | a::r,k+1,h=>by
   have ih:=@eM r k (by simpa using h);rw [show (k+1) * 2=k * 2+1+1 by omega];simpa [a7,mL] using ih
theorem Vh {r:List Ava} {typ:List UInt8} {cap:Option Nat} {ip:Nat} (hn:r.length<=100000) (h1:∀ a∈r,(a.1.length:Int)<=100000) (h2:(typ.length:Int)<=100000) (hL:L[ip]?=some (.cells [.str typ]))
  (hno:gw r typ=false->K (.int .i64 (-1)) L) (hyes:∀ k:Nat,gw r typ=true->K (.int .i64 k) L):Zx 233 [Qp r cap,.func 209 [.ptr ip 0]] L K:=by
 replace hno:=hid hno;replace hyes:=hid hyes;replace h1:=hid h1;refine Zw eT ?_;refine ak (fun n T' L'=>∃ (k:Nat),n=r.length - k/\k<=r.length/\Hid (gw (r.take k) typ=false)/\T'=[(8,.int .i64 (k:Int)),(7,.int .i64 r.length),(0,Qp r cap),(1,.func 209 [.ptr ip 0])]/\L=L') (CutS (b:=ZA _)) ⟨0,rfl,ZI _,hid rfl,rfl,rfl⟩ ?_;rintro _ _ _ ⟨k,rfl,hk,hf,rfl,rfl⟩;by_cases hlt:k<r.length
 ·have g1:(k:Int)<(r.length:Int):=by omega
  have g2:=Zv k (by omega);have e1:=eM hlt;have e2:k * 2+2<=(a7 r).length:=by rw [dt];omega
  obtain ⟨a,ha⟩:=Zt (r.getD k ([],[]));have ham:a∈r:=by rw [<- ha];simp [hlt]
  have htk:r.take (k+1)=r.take k++[a]:=by rw [ZY hlt,<- ha];simp [hlt]
  rw [ha] at e1;have hs:gw (r.take (k+1)) typ=decide (ab a.1=ab typ):=by
   have:=hf.out;simp only [gw] at this ⊢;rw [htk,ach,this];simp
  have hall:decide (ab a.1=ab typ)=true->gw r typ=true:=fun e=>abZ.2 ⟨a,ham,e⟩
  replace hall:=hid hall;replace hs:=hid hs;replace htk:=hid htk;have ha1:=hid (h1.out a ham);clear ha ham;refine wk ?_;refine Yo ha1.out h2 hL ?_;refine sk ?_;cases hd:decide (ab a.1=ab typ) with
  | true =>
    have hy:=hid (hyes.out k (hall.out hd));replace hd:=hid hd;refine wk ?_;exact aa hy.out
  | false =>
    replace hd:=hid hd;refine wk ?_;exact aj _ _ _ (by omega) (CutS (b:=ZA _)) ⟨k+1,rfl,hlt,hid (by rw [hs.out,hd.out]),rfl,rfl⟩
 ·have hke:k=r.length:=by omega
  subst hke;have g1:¬ (r.length:Int)<(r.length:Int):=by omega
  have hn':=hf.out;rw [ZW] at hn';have hy:=hid (hno.out hn');clear hn';refine wk ?_;exact aa hy.out
theorem PV {r:List Ava} {typ:List UInt8} {cap:Option Nat} {ip:Nat} (hn:r.length<=100000) (h1:∀ a∈r,(a.1.length:Int)<=100000) (h2:(typ.length:Int)<=100000) (hL:L[ip]?=some (.cells [.str typ])) (h:K (.bool (gw r typ)) L) :
  Zx 208 [Qp r cap,.func 209 [.ptr ip 0]] L K:=by
 replace h:=hid h;refine Zw eB ?_;refine Vh hn h1 h2 hL (fun e=>?_) (fun k e=>?_)
 ·have h':=h.out;rw [e] at h';replace h':=hid h';refine sk ?_;refine wk ?_;exact aa h'.out
 ·have h':=h.out;rw [e] at h';replace h':=hid h';have g:(0:Int)<=(k:Int):=by omega
  refine sk ?_;refine wk ?_;exact aa h'.out
theorem XG {r:List Ava} {typ:List UInt8} {cap:Option Nat} (hn:r.length<=100000) (h1:∀ a∈r,(a.1.length:Int)<=100000) (h2:(typ.length:Int)<=100000) (h:K (.bool (gw r typ)) L) :
  Zx 175 [Qp r cap,.str typ] L K:=by
 replace h:=hid h;refine Zw PW ?_;refine PV hn h1 h2 (by simp) ?_;refine sk ?_;refine wk ?_;exact ae rfl h.out
theorem eh {a:List UInt8} {c:UInt8} {L:List Blk} {K:Zy} (h:K (.int .i64 (Lib.indexByte a c)) L):Zx 210 [.str a,.int .u8 c.toNat] L K :=
 d6 Tryz.func210 rfl (by kernel_rfl) (fun w0 S0 E w vs hR hv=>by
  simp only [VRL,VR] at hv;obtain ⟨_,_,rfl,rfl,_,_,rfl,rfl,rfl⟩:=hv;exact (Tryz.strings_IndexByte ⟨⟨a⟩⟩ c.toNat w).mono fun e w' ⟨he,hw⟩=>⟨_,he,by simp [VR],by subst hw;exact Dd.refl _⟩) h
theorem l7 (a:List UInt8) (c:UInt8):(0<=Lib.indexByte a c)↔c∈a:=by
 induction a with
 | nil=>simp [Lib.indexByte]
 | cons b l ih =>
   have hge:=Lib.indexByte_ge l c;unfold Lib.indexByte;by_cases hb:b=c
   ·simp [hb]
   ·have e1:(b == c)=false:=by simpa using hb
    rw [e1];simp only [ZP,if_false];have e2:c∈b::l↔c∈l:=by simp [Ne.symm hb]
    rw [e2,<- ih];split
    ·rename_i h;simp at h;omega
    ·rename_i h;simp at h;omega
theorem bu (c d:UInt8):(c.toNat:Int)=(d.toNat:Int)↔c=d:=by
 constructor
 ·intro h;exact abb.1 (by omega)
 ·rintro rfl;rfl
def wrB (i n:Nat) (c:UInt8):List UInt8 :=
 if c=0 then [92,48,48] else if (i=0/\(c=32\/c=35))\/(i+1=n/\c=32)\/c∈[34,43,44,59,60,62,92] then [92,c] else [c]
def wrL (n:Nat):Nat->List UInt8->List UInt8
 | _,[]=>[]
 | i,c::s=>wrB i n c++wrL n (i+1) s
def dS (s:List UInt8):List UInt8:=wrL s.length 0 s
theorem Wv (i n:Nat) (c:UInt8):(wrB i n c).length<=3:=by
 unfold wrB;split
 ·simp
 ·split<;>simp
theorem er {s:List UInt8} (hs:s.length<=100000) (h:K (.str (dS s)) L):Zx 213 [.str s] L K:=by
 replace h:=hid h;have g0:IntKind.i64.wrap ((s.length:Int) - 1)=(s.length:Int) - 1:=ac (by omega) (by omega);refine Zw KR ?_;refine cG (l:=[]) (n:=0) 3 1 rfl (aae 1).symm ?_;refine ak (fun n T' L'=>∃ (i m:Nat) (b:List UInt8),n=s.length - i/\i<=s.length/\m<=3 * i/\Hid (m=b.length/\b++wrL s.length i (s.drop i)=dS s)/\T'=[(10,.int .i64 (i:Int)),(9,.int .i64 s.length),(8,.sl (u8s s) s.length none),(3,.gsl (u8s b) m L.length 1),(0,.str s)]/\L'=L++[.spare m 1]) (CutS (b:=by simp)) ⟨0,0,[],rfl,ZI _,by omega,hid ⟨rfl,rfl⟩,rfl,rfl⟩ ?_;rintro _ _ _ ⟨i,m,b,rfl,hi,hm,hb,rfl,rfl⟩;by_cases hlt:i<s.length
 ·have g1:(i:Int)<(s.length:Int):=by omega
  have g2:=Zv i (by omega);obtain ⟨c,hc⟩:=Zt (s.getD i 0);have g3:(u8s s).getD i .undef=.int .u8 c.toNat:=by rw [<- hc];simp [u8s,hlt]
  have hdr:s.drop i=c::s.drop (i+1):=by rw [aal hlt,<- hc];simp [hlt]
  have hb2:=hb.out.2;rw [hdr] at hb2;simp only [wrL] at hb2;have g4:=fP;have g5:(u8s s).length=s.length:=by simp [u8s]
  clear hc hdr;replace hb2:=hid hb2
  repeat' first
   | refine bb ?_
   | (first|refine aU (by kernel_rfl) ?_|refine aA (by kernel_rfl) ?_|refine aD ?_|refine bS ?_|refine bh (fun _=>?_)|refine ay ?_|refine aW ?_|refine eh ?_|refine bg (eh ⟨rfl,rfl⟩) (eh ⟨rfl,rfl⟩) ?_|refine aL (eh ⟨rfl,rfl⟩) ?_)
     refine sm ?_
   | (first|refine aP (by kernel_rfl) ?_|refine aQ ?_|refine aC ?_|refine aV ?_|refine bq (ax ?_))
     refine sl ?_
   | exact bj
   | first|apply bm|apply aR|apply bo|apply aS|apply bp|apply aT
   | refine aG ?_
   | refine aB ?_
   | first|refine aE rfl ?_|refine aF rfl ?_|refine an rfl ?_ ?_|refine aI rfl (fun _=>?_) (fun _=>?_)|refine aH rfl (fun _=>?_) (fun _=>?_)
   | ((first|refine am (fun _=>?_) (fun _=>?_)|refine aw (fun _=>?_) (fun _=>?_))<;>try refine sm ?_)
   | refine And.intro trivial ?_
   | refine And.intro (by omega) ?_
   | refine aM rfl (fun _=>?_) (fun _=>?_)
   | refine And.intro ?_ ?_
  ·rfl
  ·omega
  ·rename_i h0
   have hc0:=(bu c 0).1 h0;rw [show u8s b++AV.frzL (u8s [92,48,48])=u8s (b++[92,48,48]) by simp [u8s,AV.frzL,AV.frz]];refine aj _ _ _ (by omega) (CutL (b:=by simp)) ⟨i+1,m+3,b++[92,48,48],rfl,hlt,by omega,hid ⟨by simp [hb.out.1],?_⟩,rfl,rfl⟩;rw [<- hb2.out,wrB,if_pos hc0,ZO]
  ·rename_i h0 h1
   have hc0:¬ c=0:=fun e=>h0 ((bu c 0).2 e)
   have hq:(i=0/\(c=32\/c=35))\/(i+1=s.length/\c=32)\/c∈[34,43,44,59,60,62,92]:=by
    rcases h1 with (⟨e1,e2⟩|⟨e1,e2⟩)|e
    ·exact .inl ⟨by omega,e2.imp (bu c 32).1 (bu c 35).1⟩
    ·exact .inr (.inl ⟨by omega,(bu c 32).1 e2⟩)
    ·exact .inr (.inr ((l7 _ _).1 e))
   rw [show u8s b++[AV.int IntKind.u8 92,AV.int IntKind.u8 (c.toNat:Int)]=u8s (b++[92,c]) by simp [u8s]];refine aj _ _ _ (by omega) (CutL (b:=by simp)) ⟨i+1,m+1+1,b++[92,c],rfl,hlt,by omega,hid ⟨by simp [hb.out.1],?_⟩,rfl,rfl⟩;rw [<- hb2.out,wrB,if_neg hc0,if_pos hq,ZO]
  ·rename_i h0 h1
   have hc0:¬ c=0:=fun e=>h0 ((bu c 0).2 e)
   have hq:¬ ((i=0/\(c=32\/c=35))\/(i+1=s.length/\c=32)\/c∈[34,43,44,59,60,62,92]):=fun hq=>h1 (by
    rcases hq with ⟨e1,e2⟩|⟨e1,e2⟩|e
    ·exact .inl (.inl ⟨by omega,e2.imp (bu c 32).2 (bu c 35).2⟩)
    ·exact .inl (.inr ⟨by omega,(bu c 32).2 e2⟩)
    ·exact .inr ((l7 _ _).2 e))
   rw [show u8s b++[AV.int IntKind.u8 (c.toNat:Int)]=u8s (b++[c]) by simp [u8s]];refine aj _ _ _ (by omega) (CutL (b:=by simp)) ⟨i+1,m+1,b++[c],rfl,hlt,by omega,hid ⟨by simp [hb.out.1],?_⟩,rfl,rfl⟩;rw [<- hb2.out,wrB,if_neg hc0,if_neg hq,ZO]
 ·have hke:i=s.length:=by omega
  subst hke;have g1:¬ (s.length:Int)<(s.length:Int):=by omega
  have e1:=fP b;have e2:=fc b;have e:=hb.out.2;rw [aai,wrL,aah] at e;have h':=h.out;rw [<- e] at h';replace h':=hid h';clear e;refine wk ?_;exact ae rfl h'.out
abbrev md:List UInt8:=[34,43,44,59,60,62,92,32,35,61]
def eG:List UInt8->Bool->List UInt8->Option (List UInt8×List UInt8×Bool)
 | b,bl,[]=>some (b,[], !bl)
 | b,bl,c::s=>if c=44\/c=43 then some (b,c::s, !bl)
   else if c≠92 then (if c=0\/c∈([34,59,60,62]:List UInt8)\/(b=[]/\(c=32\/c=35)) then none else eG (b++[c]) (decide (c=32)) s)
   else match s with
    | []=>none
    | d::s1=>if d∈md then eG (b++[d]) false s1 else match s1 with
      | []=>none
      | e::s2=>match IA d e with
        | none=>none
        | some x=>eG (b++[x]) false s2
def R7 (o:Option (List UInt8×List UInt8×Bool)):AV:=match o with
 | none=>.tup [.str [],.str [],.bool false]
 | some (v,r,f)=>.tup [.str v,.str r,.bool f]
theorem i8 {b:List UInt8} {bl:Bool}:eG b bl []=some (b,[], !bl):=by rw [eG.eq_def]
theorem l5 {b:List UInt8} {bl:Bool} {c:UInt8} {s:List UInt8} (h:c=44\/c=43):eG b bl (c::s)=some (b,c::s, !bl):=by rw [eG.eq_def];simp only [if_pos h]
theorem iL {b:List UInt8} {bl:Bool} {c:UInt8} {s:List UInt8} (h:¬ (c=44\/c=43)) (h2:c≠92):eG b bl (c::s)=if c=0\/c∈([34,59,60,62]:List UInt8)\/(b=[]/\(c=32\/c=35)) then none else eG (b++[c]) (decide (c=32)) s:=by
 rw [eG.eq_def];simp only [if_neg h,if_pos h2]
theorem Dk {b:List UInt8} {bl:Bool}:eG b bl [92]=none:=by rw [eG.eq_def];rfl
theorem nZ {b:List UInt8} {bl:Bool} {d:UInt8} {s:List UInt8} (h:d∈md):eG b bl (92::d::s)=eG (b++[d]) false s:=by
 rw [eG.eq_def];simp only [show ¬ ((92:UInt8)=44\/(92:UInt8)=43) by decide,if_false,ne_eq,not_true_eq_false,if_pos h]
theorem Dj {b:List UInt8} {bl:Bool} {d:UInt8} (h:¬ d∈md):eG b bl [92,d]=none:=by
 rw [eG.eq_def];simp only [show ¬ ((92:UInt8)=44\/(92:UInt8)=43) by decide,if_false,ne_eq,not_true_eq_false,if_neg h]
theorem v8 {b:List UInt8} {bl:Bool} {d e:UInt8} {s:List UInt8} (h:¬ d∈md):eG b bl (92::d::e::s)=match IA d e with|none=>none|some x=>eG (b++[x]) false s:=by
 rw [eG.eq_def];simp only [show ¬ ((92:UInt8)=44\/(92:UInt8)=43) by decide,if_false,ne_eq,not_true_eq_false,if_neg h]
theorem iH {s:List UInt8} {i:Nat} (h:i<s.length):s.drop i=s.getD i 0::s.drop (i+1):=by
 rw [aal h];simp [h]
theorem Ww {s:List UInt8} (hs:s.length<=100000) (h:K (R7 (eG [] false s)) L):Zx 176 [.str s] L K:=by
 replace h:=hid h;refine Zw MX ?_;refine cG (l:=[]) (n:=0) 5 1 rfl (aae 1).symm ?_;refine ak (fun n T' L'=>∃ (i m:Nat) (b:List UInt8) (bl:Bool),n=s.length - i/\i<=s.length/\m<=i/\Hid (m=b.length/\eG b bl (s.drop i)=eG [] false s)/\T'=[(7,.int .i64 (i:Int)),(6,.bool bl),(5,.gsl (u8s b) m L.length 1),(0,.str s)]/\L'=L++[.spare m 1]) (CutS (b:=by simp)) ⟨0,0,[],false,rfl,ZI _,by omega,hid ⟨rfl,rfl⟩,rfl,rfl⟩ ?_;rintro _ _ _ ⟨i,m,b,bl,rfl,hi,hm,hb,rfl,rfl⟩;have e1:=fP b;have e2:=fc b;by_cases hlt:i<s.length
 ·have g1:(i:Int)<(s.length:Int):=by omega
  have g2:=Zv i (by omega);obtain ⟨c,hc⟩:=Zt (s.getD i 0);have hdr:=iH hlt;rw [hc] at hdr;have hb2:=hb.out.2;rw [hdr] at hb2;have hds:(s.drop i).take (s.length - i)=s.drop i:=aaR (by simp);have hl1:(i:Int)<=(s.length:Int):=by omega
  by_cases hcc:c=44\/c=43
  ·rw [l5 hcc] at hb2;have h':=h.out;rw [<- hb2] at h';simp only [R7] at h';rw [<- hdr] at h';replace h':=hid h';have k1:((c.toNat:Int)=44)\/((c.toNat:Int)=43):=hcc.imp (bu c 44).2 (bu c 43).2;clear hb2 hcc hdr;rcases k1 with k1|k1
   ·refine wk ?_;exact ae rfl h'.out
   ·refine wk ?_;exact ae rfl h'.out
  ·have k1:¬ (c.toNat:Int)=44:=fun e=>hcc (.inl ((bu c 44).1 e))
   have k2:¬ (c.toNat:Int)=43:=fun e=>hcc (.inr ((bu c 43).1 e))
   by_cases h92:c=92
   ·subst h92;have g3:IntKind.i64.wrap ((i:Int)+2)=(i:Int)+2:=ac (by omega) (by omega);have g4:IntKind.i64.wrap ((i:Int)+3)=(i:Int)+3:=ac (by omega) (by omega);have g5:IntKind.i64.wrap ((i:Int)+1+1)=(i:Int)+1+1:=ac (by omega) (by omega);have g6:IntKind.i64.wrap ((i:Int)+2+1)=(i:Int)+2+1:=ac (by omega) (by omega);have t1:((i:Int)+1).toNat=i+1:=by omega
    have t3:((i:Int)+3).toNat=i+3:=by omega
    by_cases h1:i+1<s.length
    ·have f1:(i:Int)+1<(s.length:Int):=by omega
     obtain ⟨d,hd⟩:=Zt (s.getD (i+1) 0);have hdr1:=iH h1;rw [hd] at hdr1;rw [hdr1] at hb2;by_cases hsp:d∈md
     ·rw [nZ hsp] at hb2;have f2:=(l7 md d).2 hsp;clear hdr hdr1;replace hb2:=hid hb2;have kk1:=@hid _ @eh;refine wk ?_;rw [show u8s b++[AV.int IntKind.u8 (d.toNat:Int)]=u8s (b++[d]) by simp [u8s],show decide (((UInt8.toNat 92:Nat):Int)=32)=false from rfl];refine aj _ _ _ (by omega) (CutL (b:=by simp)) ⟨i+1+1,m+1,b++[d],false,rfl,h1,by omega,hid ⟨by simp [hb.out.1],hb2.out⟩,rfl,rfl⟩
     ·have f2:¬ 0<=Lib.indexByte md d:=fun e=>hsp ((l7 md d).1 e)
      by_cases h2:i+2<s.length
      ·have f3:(i:Int)+2<(s.length:Int):=by omega
       have f4:(i:Int)+1<=(i:Int)+3:=by omega
       have f5:(i:Int)+3<=(s.length:Int):=by omega
       have f6:(0:Int)<=(i:Int)+1:=by omega
       obtain ⟨e,he⟩:=Zt (s.getD (i+2) 0);have hdr2:=iH h2;rw [he] at hdr2;rw [hdr2,v8 hsp] at hb2;have hcut:(s.drop (i+1)).take (i+3 - (i+1))=[d,e]:=by
        rw [hdr1,hdr2,show i+3 - (i+1)=2 by omega];rfl
       clear hdr hdr1 hdr2;replace hb2:=hid hb2;have kk1:=@hid _ @eh;refine wk ?_;refine Ue ?_;rcases hx:IA d e with _|x
       ·rw [show GA d e=.tup [.str [],.bool false] by simp only [GA,hx]];have h':=h.out;rw [<- hb2.out,hx] at h';simp only [R7] at h';replace h':=hid h';clear hx;refine sk ?_;refine wk ?_;exact ae rfl h'.out
       ·rw [show GA d e=.tup [.str [x],.bool true] by simp only [GA,hx]];have hb3:=hb2.out;rw [hx] at hb3;simp only at hb3;replace hb3:=hid hb3;have q1:[x].getD 0 0=x:=rfl;clear hx hb2;refine sk ?_;refine wk ?_;rw [show u8s b++[AV.int IntKind.u8 (x.toNat:Int)]=u8s (b++[x]) by simp [u8s],show decide (((UInt8.toNat 92:Nat):Int)=32)=false from rfl];refine aj _ _ _ (by omega) (CutL (b:=by simp)) ⟨i+2+1,m+1,b++[x],false,rfl,h2,by omega,hid ⟨by simp [hb.out.1],hb3.out⟩,rfl,rfl⟩
      ·have f3:¬ (i:Int)+2<(s.length:Int):=by omega
       have hnil:s.drop (i+1+1)=[]:=abn (by omega);rw [hnil,Dj hsp] at hb2;have h':=h.out;rw [<- hb2] at h';replace h':=hid h';clear hdr hdr1 hb2;have kk1:=@hid _ @eh;refine wk ?_;exact ae rfl h'.out
    ·have f1:¬ (i:Int)+1<(s.length:Int):=by omega
     have f3:¬ (i:Int)+2<(s.length:Int):=by omega
     have hnil:s.drop (i+1)=[]:=abn (by omega);rw [hnil,Dk] at hb2;have h':=h.out;rw [<- hb2] at h';replace h':=hid h';clear hdr hb2;have kk1:=@hid _ @eh;refine wk ?_;exact ae rfl h'.out
   ·rw [iL hcc h92] at hb2;have k3:¬ (c.toNat:Int)=92:=fun e=>h92 ((bu c 92).1 e)
    clear hdr;replace hb2:=hid hb2
    repeat' first
     | refine bb ?_
     | (first|refine aU (by kernel_rfl) ?_|refine aA (by kernel_rfl) ?_|refine aD ?_|refine bS ?_|refine bh (fun _=>?_)|refine ay ?_|refine aW ?_|refine eh ?_|refine bg (eh ⟨rfl,rfl⟩) (eh ⟨rfl,rfl⟩) ?_|refine aL (eh ⟨rfl,rfl⟩) ?_)
       refine sm ?_
     | (first|refine aP (by kernel_rfl) ?_|refine aQ ?_|refine aC ?_|refine aV ?_|refine bq (ax ?_))
       refine sl ?_
     | exact bj
     | first|apply bm|apply aR|apply bo|apply aS|apply bp|apply aT
     | refine aG ?_
     | refine aB ?_
     | first|refine aE rfl ?_|refine aF rfl ?_|refine an rfl ?_ ?_|refine aI rfl (fun _=>?_) (fun _=>?_)|refine aH rfl (fun _=>?_) (fun _=>?_)
     | ((first|refine am (fun _=>?_) (fun _=>?_)|refine aw (fun _=>?_) (fun _=>?_))<;>try refine sm ?_)
     | refine And.intro trivial ?_
     | refine And.intro (by omega) ?_
     | refine aM rfl (fun _=>?_) (fun _=>?_)
     | refine And.intro ?_ ?_
    ·rename_i hx
     have hbad:c=0\/c∈([34,59,60,62]:List UInt8)\/(b=[]/\(c=32\/c=35)):=by
      rcases hx with (e|e)|⟨e,e'⟩
      ·exact .inl ((bu c 0).1 e)
      ·exact .inr (.inl ((l7 _ _).1 e))
      ·refine .inr (.inr ⟨aaj.1 ?_,e'.imp (bu c 32).1 (bu c 35).1⟩);have:=hb.out.1;omega
     have h':=h.out;rw [<- hb2.out,if_pos hbad] at h';exact ae rfl h'
    ·rename_i hx
     have hbad:¬ (c=0\/c∈([34,59,60,62]:List UInt8)\/(b=[]/\(c=32\/c=35))):=fun e=>hx (by
      rcases e with e|e|⟨e,e'⟩
      ·exact .inl (.inl ((bu c 0).2 e))
      ·exact .inl (.inr ((l7 _ _).2 e))
      ·refine .inr ⟨?_,e'.imp (bu c 32).2 (bu c 35).2⟩;have:=hb.out.1;rw [e] at this;simp at this;omega)
     have hc32:decide ((c.toNat:Int)=32)=decide (c=32):=by
      have:=bu c 32;simp only [decide_eq_decide];exact this
     rw [show u8s b++[AV.int IntKind.u8 (c.toNat:Int)]=u8s (b++[c]) by simp [u8s],hc32];refine aj _ _ _ (by omega) (CutL (b:=by simp)) ⟨i+1,m+1,b++[c],decide (c=32),rfl,hlt,by omega,hid ⟨by simp [hb.out.1],?_⟩,rfl,rfl⟩;rw [<- hb2.out,if_neg hbad]
 ·have hke:i=s.length:=by omega
  subst hke;have g1:¬ (s.length:Int)<(s.length:Int):=by omega
  have h':=h.out;rw [<- hb.out.2,aai,i8] at h';simp only [R7] at h';replace h':=hid h';have hds:(s.drop s.length).take (s.length - s.length)=[]:=by simp
  refine wk ?_;exact ae rfl h'.out
def gi:List UInt8->Option (List UInt8×List UInt8)
 | []=>none
 | c::s=>if c=61 then some ([],s) else match gi s with
   | none=>none
   | some (a,b)=>some (c::a,b)
theorem L9:∀ s:List UInt8,(Lib.indexByte s 61=-1/\gi s=none)\/∃ n:Nat,n<s.length/\Lib.indexByte s 61=(n:Int)/\gi s=some (s.take n,s.drop (n+1))
 | []=>.inl ⟨rfl,rfl⟩
 | c::s=>by
   by_cases hc:c=61
   ·subst hc;exact .inr ⟨0,by simp,by simp [Lib.indexByte],by simp [gi]⟩
   ·have e1:(c == 61)=false:=by simpa using hc
    unfold Lib.indexByte;rw [e1];simp only [ZP,if_false,gi,if_neg hc];rcases L9 s with ⟨h1,h2⟩|⟨n,h0,h1,h2⟩
    ·exact .inl ⟨by rw [h1];rfl,by rw [h2]⟩
    ·refine .inr ⟨n+1,by simp;omega,?_,by rw [h2];simp⟩;rw [h1];have:((n:Int) == -1)=false:=by simp
     rw [this];simp
def L8 (s:List UInt8):AV:=match gi s with
 | some (a,b)=>.tup [.str a,.str b,.bool true]
 | none=>.tup [.str s,.str [],.bool false]
theorem PB {a:List UInt8} {c:UInt8} {L:List Blk} {K:Zy} (h:K (.int .i64 (Lib.indexByte a c)) L):Zx 159 [.str a,.str [c]] L K :=
 d6 Tryz.func159 rfl (by kernel_rfl) (fun w0 S0 E w vs hR hv=>by
  simp only [VRL,VR] at hv;obtain ⟨_,_,rfl,rfl,_,_,rfl,rfl,rfl⟩:=hv;exact (Tryz.stringslite_Index_one ⟨⟨a⟩⟩ c w).mono fun e w' ⟨he,hw⟩=>⟨_,he,by simp [VR],by subst hw;exact Dd.refl _⟩) h
theorem VN {s:List UInt8} (hs:s.length<=100000) (h:K (L8 s) L):Zx 207 [.str s,.str [61]] L K:=by
 have hl:[(61:UInt8)].length=1:=rfl;rcases L9 s with ⟨h1,h2⟩|⟨n,h0,h1,h2⟩
 ·simp only [L8,h2] at h;replace h:=hid h;clear h2;refine ad dU (by simp [bY]) ?_;simp only [bY,aq];have kk1:=@hid _ @PB;refine wk ?_;exact aa h.out
 ·simp only [L8,h2] at h;replace h:=hid h;have g1:(0:Int)<=(n:Int):=by omega
  have g2:=Zv n (by omega);have g3:(n:Int)<=(s.length:Int):=by omega
  have g4:(n:Int)+1<=(s.length:Int):=by omega
  have g5:(0:Int)<=(n:Int)+1:=by omega
  have g6:((n:Int)+1).toNat=n+1:=by omega
  have g7:(s.drop (n+1)).take (s.length - (n+1))=s.drop (n+1):=aaR (by simp);clear h2;refine ad dU (by simp [bY]) ?_;simp only [bY,aq];have kk1:=@hid _ @PB;refine wk ?_;exact aa h.out
theorem Y6 {s:List UInt8} (hs:s.length<=100000) (h:K (L8 s) L):Zx 174 [.str s,.str [61]] L K:=by
 rcases hc:gi s with _|⟨a,b⟩
 all_goals
  simp only [L8,hc] at h;replace h:=hid h
 ·refine Zw qX ?_;refine VN hs ?_;simp only [L8,hc];refine sk ?_;refine wk ?_;exact aa h.out
 ·refine Zw qX ?_;refine VN hs ?_;simp only [L8,hc];refine sk ?_;refine wk ?_;exact aa h.out
abbrev Rdn:=List Ava
abbrev cf (r:Rdn):AV:=Qp r none
def mK:Nat->List Rdn->Rdn->List UInt8->List Rdn×Int
 | 0,_,_,_=>([],4)
 | f+1,out,now,s=>if out.length=32\/now.length=8 then ([],9) else match gi s with
   | none=>([],4)
   | some (typ,rest)=>if fq typ=false then ([],4) else if gw now typ=true then ([],21) else match eG [] false rest with
     | none=>([],4)
     | some (v,r2,ok)=>if ok=false then ([],4) else match r2 with
       | []=>(out++[now++[(typ,v)]],0)
       | c::s'=>if c=44 then mK f (out++[now++[(typ,v)]]) [] s' else mK f out (now++[(typ,v)]) s'
def qF (s:List UInt8):List Rdn×Int:=if 4096<s.length then ([],5) else if s=[] then ([],0) else mK (s.length+1) [] [] s
def Qw (p:List Rdn×Int):AV:=.tup [.sl (p.1.map cf) p.1.length none,.int .i64 p.2]
theorem PT:∀ {s a b:List UInt8},gi s=some (a,b)->b.length<s.length/\a.length<=s.length
 | [],a,b,h=>by simp [gi] at h
 | c::s,a,b,h=>by
   simp only [gi] at h;split at h
   ·simp only [ZB,ZL] at h;obtain ⟨rfl,rfl⟩:=h;simp
   ·split at h
    ·cases h
    ·rename_i a' b' hc
     simp only [ZB,ZL] at h;obtain ⟨rfl,rfl⟩:=h;have:=PT hc;simp;omega
theorem Ud:∀ (n:Nat) {s b:List UInt8} {bl:Bool} {v r:List UInt8} {ok:Bool},s.length<=n->eG b bl s=some (v,r,ok)->r.length<=s.length:=by
 intro n
 induction n with
 | zero =>
   intro s b bl v r ok hn h;obtain rfl:=aaj.1 (Nat.le_zero.1 hn);rw [i8] at h;cases h;simp
 | succ n ih =>
   intro s b bl v r ok hn h;cases s with
   | nil=>rw [i8] at h;cases h;simp
   | cons c s =>
     simp only [ZN] at hn;by_cases hc:c=44\/c=43
     ·rw [l5 hc] at h;cases h;simp
     by_cases h92:c=92
     ·subst h92;cases s with
      | nil=>rw [Dk] at h;cases h
      | cons d s =>
        by_cases hd:d∈md
        ·rw [nZ hd] at h;have:=ih (by simp at hn;omega) h;simp;omega
        ·cases s with
         | nil=>rw [Dj hd] at h;cases h
         | cons e s =>
           rw [v8 hd] at h;split at h
           ·cases h
           ·have:=ih (by simp at hn;omega) h;simp;omega
     ·rw [iL hc h92] at h;split at h
      ·cases h
      ·have:=ih (by omega) h;simp;omega
section
variable {P:Program} {N:Nat} {own:Nat->Nat->Nat} {Q:Exit->Tm->List Blk->Prop} {T:Tm} {L:List Blk}
theorem OU {lc:bV} (t sz B:Nat) {l:List AV} {n:Nat} {v:AV} (ht:ao T t=some v) (hB:B<L.length) (hv:(v=.sl [] 0 (some 0)/\l=[]/\n=0)\/∃ i,B<i/\v=.gsl l n i sz/\L[i]?=some (.spare n sz))
  (h:∀ i X,B<i->(L++X)[i]?=some (.spare n sz)->AW P N own lc Q ((t,.gsl l n i sz)::T) (L++X)):AW P N own lc Q T L:=by
 rcases hv with ⟨rfl,rfl,rfl⟩|⟨i,hBi,rfl,hi⟩
 ·exact cG t sz ht (by simp) (h L.length [.spare 0 sz] hB (by simp))
 ·have h':=h i [] hBi (by simpa using hi);rw [aah] at h';refine h'.weakT fun t' v' e=>?_
  simp only [ao] at e;split at e
  ·rename_i e1;subst e1;cases e;exact ht
  ·exact e
end
variable {L:List Blk} {K:Zy}
set_option maxHeartbeats 8000000
set_option maxRecDepth 100000
def YI (B:Nat) (r:Rdn) (v:AV) (L:List Blk):Prop:=(v=.sl [] 0 (some 0)/\a7 r=[]/\r.length=0)\/∃ i,B<i/\v=.gsl (a7 r) r.length i 2/\L[i]?=some (.spare r.length 2)
theorem NY (r:Rdn) (t v:List UInt8):a7 (r++[(t,v)])=a7 r++[.str t,.str v]:=by simp [a7,mL]
theorem fJ (r:Rdn):AV.frzL (a7 r)=a7 r:=by
 induction r with
 | nil=>rfl
 | cons a r ih=>simpa [a7,mL,AV.frzL,AV.frz] using ih
theorem eS {L0 X:List Blk} {e:Int} {K:Zy} (h:K (Qw ([],e)) L0):Fin L0 (.tup [.sl [] 0 (some 0),.int .i64 e]) (L0++X) K:=bv (ae rfl h)
theorem oc (d:List Rdn):AV.frzL (d.map cf)=d.map cf:=by
 rw [AV.frzL_eq,Z4];refine aa6 fun r _=>?_
 simp only [Function.comp,AV.frz,fJ]
theorem TE (q:Nat->Bool) (r:Rdn):AV.refsL q (a7 r)=true:=by
 induction r with
 | nil=>rfl
 | cons a r ih=>simpa [a7,mL,AV.refsL,AV.refs] using ih
theorem Dp (q:Nat->Bool):∀ d:List Rdn,AV.refsL q (d.map cf)=true
 | []=>rfl
 | r::d=>by simp only [ZK,AV.refsL,AV.refs,TE,Dp q d,abl]
theorem n9 {s:List UInt8} (h:fq s=true):s.length<=32:=by
 simp only [fq,ZE,decide_eq_true_eq] at h;exact h.1.1.2
theorem Yn {r:Rdn} {typ:List UInt8} {i n:Nat} (hr:r.length=n) (hn:n<=8) (h1:∀ a∈r,a.1.length<=32) (h2:typ.length<=4096) (h:K (.bool (gw r typ)) L) :
  Zx 175 [.gsl (a7 r) n i 2,.str typ] L K:=by
 subst hr;exact rb (by simpa only [AV.frzL,AV.frz,fJ] using XG (cap:=none) (by omega) (fun a ha=>by have:=h1 a ha;omega) (by omega) h)
theorem WY {s:List UInt8} (h:K (Qw (qF s)) L):Zx 139 [.str s] L K:=by
 refine ad M1 (by simp [GV]) ?_;simp only [GV,aq];by_cases h1:4096<s.length
 ·have f1:(4096:Int)<(s.length:Int):=by omega
  rw [qF,if_pos h1] at h;replace h:=hid h;clear h1;refine wk ?_;exact bv (aa h.out)
 have f1:¬ (4096:Int)<(s.length:Int):=by omega
 rw [qF,if_neg h1] at h;by_cases h2:s=[]
 ·rw [if_pos h2] at h;replace h:=hid h;refine wk ?_;exact bv (aa h.out)
 rw [if_neg h2] at h;replace h:=hid h;have hs:=hid (show s.length<=4096 by omega);clear h1;obtain ⟨R,hR⟩:=Zt (mK (s.length+1) [] [] s);rw [hR] at h;refine wk ?_;refine cG (l:=[]) (n:=0) 4 1 rfl (aae 1).symm ?_;refine ak (fun n T' L'=>∃ (f m:Nat) (out:List Rdn) (now:Rdn) (u:List UInt8) (v:AV) (X:List Blk),f=n/\u.length<=4096/\m=out.length/\m<=32/\now.length<=8/\Hid (u.length<f/\mK f out now u=R/\(∀ a∈now,a.1.length<=32)/\YI L.length now v L')/\L'[L.length]?=some (.spare m 1)/\T'=[(5,v),(4,.gsl (out.map cf) m L.length 1),(0,.str u)]/\L'=L++X) (CutS (b:=by simp)) ⟨s.length+1,0,[],[],s,_,[.spare 0 1],rfl,hs.out,rfl,by omega,by simp,hid ⟨by omega,hR,by simp,.inl ⟨rfl,rfl,rfl⟩⟩,by simp,rfl,rfl⟩ ?_;clear h2;clear hs;rintro _ _ _ ⟨f,m,out,now,u,v,X,rfl,hu,hm,hm32,hn8,hI,ho,rfl,rfl⟩;obtain ⟨hf,hp,ht,hv⟩:=hI.out;clear hI;clear hR;obtain ⟨f,rfl⟩:∃ g,f=g+1:=⟨f - 1,by omega⟩;have hB:L.length<(L++X).length:=(Zz.1 ho).1;refine OU 5 2 L.length rfl hB hv fun i Y hBi hi=>?_
 rw [ZO] at hi ⊢;have ho2:(L++(X++Y))[L.length]?=some (.spare m 1):=by rw [<- ZO,ZM hB];exact ho
 generalize X++Y=Z at hi ho2 ⊢;clear ho hB hv;have s5:∀ A,(L++Z).set i A=L++Z.set (i - L.length) A:=fun A=>aaz _ _ (by omega)
 have s4:∀ (W:List Blk) A,(L++W).set L.length A=L++W.set 0 A:=fun W A=>by rw [aaz _ _ (ZA _),aaY]
 have hz:i - L.length≠0:=by omega
 have s54:∀ A,(L++Z.set (i - L.length) A)[L.length]?=some (.spare m 1):=fun A=>by rw [<- s5,ZU (by omega)];exact ho2
 have s55:∀ A,(L++Z.set (i - L.length) A)[i]?=some A:=fun A=>by rw [<- s5,ZX,if_pos rfl,if_pos (Zz.1 hi).1]
 have hul:=hu;obtain ⟨c,hc⟩:∃ c:Nat,now.length=c:=⟨_,rfl⟩;rw [mK] at hp;rw [hc] at hp hi hn8 ⊢;by_cases hlim:out.length=32\/c=8
 ·rw [if_pos hlim] at hp;have h':=h.out;rw [<- hp] at h';replace h':=hid h';have k:(m:Int)=32\/(m:Int)≠32/\(c:Int)=8:=by omega
  clear hp hlim;clear hm;rcases k with k|⟨k,k'⟩
  ·refine wk ?_;exact eS h'.out
  ·refine wk ?_;exact eS h'.out
 rw [if_neg hlim] at hp;have k1:¬ (m:Int)=32:=by omega
 have k2:¬ (c:Int)=8:=by omega
 replace hm:=hid hm;clear hlim;replace hp:=hid hp;replace ht:=hid ht;refine wk ?_;refine Y6 (by omega) ?_;rcases hcut:gi u with _|⟨typ,rest⟩
 ·rw [show L8 u=.tup [.str u,.str [],.bool false] by simp only [L8,hcut]];have h':=h.out;rw [<- hp.out,hcut] at h';simp only at h';replace h':=hid h';refine sk ?_;refine wk ?_;exact eS h'.out
 rw [show L8 u=.tup [.str typ,.str rest,.bool true] by simp only [L8,hcut]];have hp2:=hp.out;rw [hcut] at hp2;simp only at hp2;have hlen:=PT hcut;replace hp2:=hid hp2;clear hcut hp;refine sk ?_;cases hty:fq typ with
 | false =>
   have h':=h.out;rw [<- hp2.out,if_pos hty] at h';replace h':=hid h';have kk1:=@hid _ @Qg;refine wk ?_;exact eS h'.out
 | true =>
   have hp3:=hp2.out;rw [if_neg (by rw [hty];simp)] at hp3;replace hp3:=hid hp3;clear hp2;have kk1:=@hid _ @Qg;refine wk ?_;refine Yn hc hn8 ht.out (by omega) ?_;cases hha:gw now typ with
   | true =>
     have h':=h.out;rw [<- hp3.out,if_pos hha] at h';replace h':=hid h';refine sk ?_;refine wk ?_;exact eS h'.out
   | false =>
     have hp4:=hp3.out;rw [if_neg (by rw [hha];simp)] at hp4;replace hp4:=hid hp4;clear hp3;refine sk ?_;refine wk ?_;refine Ww (by omega) ?_;rcases hvl:eG [] false rest with _|⟨w,r2,okk⟩
     ·have h':=h.out;rw [<- hp4.out,hvl] at h';simp only at h';replace h':=hid h';simp only [R7];refine sk ?_;refine wk ?_;exact eS h'.out
     ·have hp5:=hp4.out;rw [hvl] at hp5;simp only at hp5;have hl2:=Ud _ (ZA _) hvl;replace hp5:=hid hp5;clear hp4 hvl;simp only [R7];refine sk ?_;cases okk with
      | false =>
        have h':=h.out;rw [<- hp5.out,if_pos rfl] at h';replace h':=hid h';refine wk ?_;exact eS h'.out
      | true =>
        have hp6:=hp5.out;rw [if_neg (by simp)] at hp6;replace hp6:=hid hp6;clear hp5;have q1:(c+1) * 32<=140737488355328:=by omega
        have q2:c+1<=140737488355328:=by omega
        have q3:(m+1) * 24<=140737488355328:=by omega
        have q4:m+1<=140737488355328:=by omega
        have e1:a7 now++[AV.str typ,AV.str w]=a7 (now++[(typ,w)]):=(NY _ _ _).symm;have e2:out.map cf++[AV.sl (AV.frzL (a7 now++[AV.str typ,AV.str w])) (c+1) none]=(out++[now++[(typ,w)]]).map cf:=by
         rw [e1,fJ,Z7];simp [hc]
        have e3:(out++[now++[(typ,w)]]).length=m+1:=by simp [hm.out]
        have e4:(now++[(typ,w)]).length=c+1:=by simp [hc]
        have e5:∀ a∈now++[(typ,w)],a.1.length<=32:=fun a ha=>by
         rcases ZD.1 ha with h|h
         ·exact ht.out a h
         ·rw [ZS.1 h];exact n9 hty
        replace e1:=hid e1;replace e2:=hid e2;replace e3:=hid e3;replace e4:=hid e4;replace e5:=hid e5;cases r2 with
        | nil =>
          have h':=h.out;rw [<- hp6.out] at h';simp only at h';replace h':=hid h';refine wk ?_;rw [e2.out];refine bv (ae ?_ ?_)
          ·simp only [AV.frz,AV.frzL,oc,AV.refs,AV.refsL,Dp,abl]
          ·simp only [AV.frz,AV.frzL,oc];have:=h'.out;simp only [Qw,e3.out] at this;exact this
        | cons x s' =>
          simp only at hp6;have q5:¬ (x::s'=[]):=by simp
          have q7:((s'.length:Int)+1).toNat - 1=s'.length:=by omega
          have q8:s'.take (((s'.length:Int)+1).toNat - 1)=s':=by rw [q7,ZW]
          simp only [ZN] at hl2;clear q7;replace q8:=hid q8;by_cases hx:x=44
          ·subst hx;refine wk ?_;rw [q8.out,e2.out];refine aj _ _ _ ?_ (CutS (b:=?_)) ⟨f,m+1,out++[now++[(typ,w)]],[],s',.sl [] 0 (some 0),_,rfl,by omega,e3.out.symm,by omega,by simp,hid ⟨by omega,?_,by simp,.inl ⟨rfl,rfl,rfl⟩⟩,?_,rfl,rfl⟩
           ·omega
           ·have:=(Zz.1 ho2).1;simp at this ⊢;omega
           ·rw [<- hp6.out,if_pos rfl]
           ·have:=(Zz.1 ho2).1;rw [<- s4,ZX,if_pos rfl,if_pos (by simp at this ⊢;omega)]
          ·have q6:¬ (x.toNat:Int)=44:=fun e=>hx ((bu x 44).1 e)
           refine wk ?_;rw [q8.out,e1.out];refine aj _ _ _ ?_ (CutS (b:=?_)) ⟨f,m,out,now++[(typ,w)],s',.gsl (a7 (now++[(typ,w)])) (c+1) i 2,_,rfl,by omega,hm.out,hm32,by rw [e4.out];omega,hid ⟨by omega,?_,e5.out,.inr ⟨i,hBi,by rw [e4.out],by rw [e4.out];exact s55 _⟩⟩,s54 _,rfl,rfl⟩
           ·omega
           ·have:=(Zz.1 ho2).1;simp at this ⊢;omega
           ·rw [<- hp6.out,if_neg hx]
def dw:Rdn->Rdn->Int
 | _,[]=>0
 | done,a::t=>if done.length=8 then 9 else if fq a.1=false then 20 else if gw done a.1=true then 21 else dw (done++[a]) t
def gx:Nat->List Rdn->Int
 | _,[]=>0
 | i,r::t=>if i=32 then 9 else if r=[] then 2 else if dw [] r≠0 then dw [] r else gx (i+1) t
theorem Gp {d:List Rdn} {k:Nat} (h:k<d.length):(d.map cf).getD k .undef=cf (d.getD k []):=by simp [h]
theorem JG {r:Rdn} {k:Nat}:(a7 r).take (k * 2)=a7 (r.take k):=by
 induction r generalizing k with
 | nil=>simp [a7]
 | cons a r ih =>
   cases k with
   | zero=>simp [a7]
   | succ k =>
     have:=@ih k;simp only [a7] at this;rw [show (k+1) * 2=k * 2+1+1 by omega];simp [a7,mL,this]
theorem Ym {r:Rdn} {typ:List UInt8} {n:Nat} {cap:Option Nat} (hr:r.length=n) (hn:n<=8) (h1:∀ a∈r,a.1.length<=32) (h2:typ.length<=32) (h:K (.bool (gw r typ)) L) :
  Zx 175 [.sl (a7 r) n cap,.str typ] L K:=by
 subst hr;exact XG (by omega) (fun a ha=>by have:=h1 a ha;omega) (by omega) h
theorem Xh {d:List Rdn} {cap:Option Nat} (hn:d.length<=1100000) (hr:∀ r∈d,r.length<=1100000) (h:K (.int .i64 (gx 0 d)) L):Zx 212 [.sl (d.map cf) d.length cap] L K:=by
 replace h:=hid h;have hat:=hid (fun k=>@Gp d k);replace hr:=hid hr;refine Zw MZ ?_;refine ak (fun n T' L'=>∃ (i:Nat) (X:List Blk),n=d.length - i/\i<=d.length/\i<=32/\Hid (gx i (d.drop i)=gx 0 d)/\T'=[(9,.int .i64 (i:Int)),(8,.int .i64 d.length),(7,.sl (d.map cf) d.length cap)]/\L'=L++X) (CutS (b:=by simp)) ⟨0,[],rfl,ZI _,by omega,hid rfl,rfl,by simp⟩ ?_;rintro _ _ _ ⟨i,X,rfl,hi,hi32,he,rfl,rfl⟩;by_cases hlt:i<d.length
 ·have g1:(i:Int)<(d.length:Int):=by omega
  have g2:=Zv i (by omega);have e2:=hat.out i hlt;have hrl:=hr.out (d.getD i []) (by rw [Z2,ZR hlt];exact aaI _);obtain ⟨r,hri⟩:=Zt (d.getD i []);have hdr:d.drop i=r::d.drop (i+1):=by rw [aal hlt,<- hri];simp [hlt]
  rw [hri] at e2 hrl;have he2:=he.out;rw [hdr,gx] at he2;clear hdr hri;by_cases h32:i=32
  ·rw [if_pos h32] at he2;have h':=h.out;rw [<- he2] at h';replace h':=hid h';have k1:(i:Int)=32:=by omega
   have g1':(32:Int)<(d.length:Int):=by omega
   clear h32 he2;refine wk ?_;exact ae rfl h'.out
  rw [if_neg h32] at he2;have k1:¬ (i:Int)=32:=by omega
  by_cases hr0:r=[]
  ·rw [if_pos hr0] at he2;subst hr0;have h':=h.out;rw [<- he2] at h';replace h':=hid h';clear h32 he2;refine wk ?_;exact ae rfl h'.out
  rw [if_neg hr0] at he2;have k2:¬ (r.length:Int)=0:=by have:=aaQ.2 hr0;omega
  have herr:∀ e:Int,dw [] r=e->e≠0->K (.int .i64 e) L:=fun e a1 a2=>by
   rw [if_pos (by rw [a1];exact a2),a1] at he2;rw [he2];exact h.out
  replace herr:=hid herr;replace he2:=hid he2;clear h32;refine wk ?_;refine ak (fun n T' L'=>∃ (k:Nat) (Y:List Blk),n=r.length - k/\k<=r.length/\k<=8/\Hid (dw (r.take k) (r.drop k)=dw [] r/\∀ a∈r.take k,a.1.length<=32)/\T'=[(23,.int .i64 (k:Int)),(22,.int .i64 r.length),(21,cf r),(4,cf r),(9,.int .i64 (i:Int)),(8,.int .i64 d.length),(7,.sl (d.map cf) d.length cap)]/\L'=L++(X++Y)) (CutS (b:=by simp)) ⟨0,[],rfl,ZI _,by omega,hid ⟨rfl,by simp⟩,rfl,by simp⟩ ?_;rintro _ _ _ ⟨k,Y,rfl,hk,hk8,hrow,rfl,rfl⟩;by_cases hkl:k<r.length
  ·have g3:(k:Int)<(r.length:Int):=by omega
   have g4:=Zv k (by omega);have e3:=eM hkl;have e4:k * 2+2<=(a7 r).length:=by rw [dt];omega
   obtain ⟨⟨ty,va⟩,ha⟩:∃ a,r.getD k ([],[])=a:=⟨_,rfl⟩;have hdk:r.drop k=(ty,va)::r.drop (k+1):=by rw [aal hkl,<- ha];simp [hkl]
   have htk:r.take (k+1)=r.take k++[(ty,va)]:=by rw [ZY hkl,<- ha];simp [hkl]
   rw [ha] at e3;simp only [mL] at e3;obtain ⟨hr1,hr2⟩:=hrow.out;rw [hdk,dw] at hr1;have hlk:(r.take k).length=k:=by simp;omega
   rw [hlk] at hr1;clear hdk ha hrow;have e5:(a7 r).take (k * 2)=a7 (r.take k):=JG;have g5:(k:Int)<=(r.length:Int):=by omega
   replace hr1:=hid hr1;replace hr2:=hid hr2;replace htk:=hid htk;have e6:=hid hlk;clear hlk
   repeat' first
    | refine bb ?_
    | (first|refine aU (by kernel_rfl) ?_|refine aA (by kernel_rfl) ?_|refine aD ?_|refine bS ?_|refine bh (fun _=>?_)|refine ay ?_|refine aW ?_)
      refine sm ?_
    | (first|refine aP (by kernel_rfl) ?_|refine aQ ?_|refine aC ?_|refine aV ?_|refine bq (ax ?_))
      refine sl ?_
    | exact bj
    | first|apply bm|apply aR|apply bo|apply aS|apply bp|apply aT
    | refine aG ?_
    | refine aB ?_
    | first|refine aE rfl ?_|refine aF rfl ?_|refine an rfl ?_ ?_|refine aI rfl (fun _=>?_) (fun _=>?_)|refine aH rfl (fun _=>?_) (fun _=>?_)
    | ((first|refine am (fun _=>?_) (fun _=>?_)|refine aw (fun _=>?_) (fun _=>?_))<;>try refine sm ?_)
    | refine And.intro trivial ?_
    | refine And.intro (by omega) ?_
    | refine aM rfl (fun _=>?_) (fun _=>?_)
    | refine And.intro ?_ ?_
   ·rename_i h8
    have h':=herr.out 9 (by rw [<- hr1.out,if_pos (by omega)]) (by decide);exact ae rfl h'
   ·rename_i h8
    have hr3:=hr1.out;rw [if_neg (by omega)] at hr3;refine Qg ?_;cases hty:fq ty with
    | false =>
      have h':=hid (herr.out 20 (by rw [<- hr3,if_pos hty]) (by decide));clear hr3;refine sk ?_;refine wk ?_;exact ae rfl h'.out
    | true =>
      rw [if_neg (by rw [hty];simp)] at hr3;replace hr3:=hid hr3;have htl:=n9 hty;refine sk ?_
      repeat' first
       | refine bb ?_
       | (first|refine aU (by kernel_rfl) ?_|refine aA (by kernel_rfl) ?_|refine aD ?_|refine bS ?_|refine bh (fun _=>?_)|refine ay ?_|refine aW ?_)
         refine sm ?_
       | (first|refine aP (by kernel_rfl) ?_|refine aQ ?_|refine aC ?_|refine aV ?_|refine bq (ax ?_))
         refine sl ?_
       | exact bj
       | first|apply bm|apply aR|apply bo|apply aS|apply bp|apply aT
       | refine aG ?_
       | refine aB ?_
       | first|refine aE rfl ?_|refine aF rfl ?_|refine an rfl ?_ ?_|refine aI rfl (fun _=>?_) (fun _=>?_)|refine aH rfl (fun _=>?_) (fun _=>?_)
       | ((first|refine am (fun _=>?_) (fun _=>?_)|refine aw (fun _=>?_) (fun _=>?_))<;>try refine sm ?_)
       | refine And.intro trivial ?_
       | refine And.intro (by omega) ?_
       | refine aM rfl (fun _=>?_) (fun _=>?_)
       | refine And.intro ?_ ?_
      refine aL (Ym e6.out (by omega) hr2.out htl ⟨rfl,rfl⟩) ?_;cases hha:gw (r.take k) ty with
      | true =>
        have h':=hid (herr.out 21 (by rw [<- hr3.out,if_pos hha]) (by decide));refine sk ?_;refine wk ?_;exact ae rfl h'.out
      | false =>
        have hr4:=hr3.out;rw [if_neg (by rw [hha];simp),<- htk.out] at hr4;replace hr4:=hid hr4;clear hr3;refine sk ?_;refine wk ?_;refine aj _ _ _ (by omega) (CutS (b:=by simp)) ⟨k+1,Y++[.cells [.str ty,.str va]],rfl,hkl,by omega,hid ⟨hr4.out,fun a ha=>?_⟩,rfl,by simp⟩;rw [htk.out] at ha;rcases ZD.1 ha with h|h
        ·exact hr2.out a h
        ·rw [ZS.1 h];exact htl
  ·have hke:k=r.length:=by omega
   subst hke;have g3:¬ (r.length:Int)<(r.length:Int):=by omega
   have hz:=hrow.out.1;rw [aai,dw] at hz;have he3:=he2.out;rw [<- hz] at he3;simp only [ne_eq,not_true_eq_false,if_false] at he3;replace he3:=hid he3;clear hz;refine wk ?_;exact aj _ _ _ (by omega) (CutS (b:=by simp)) ⟨i+1,X++Y,rfl,hlt,by omega,hid he3.out,rfl,rfl⟩
 ·have hke:i=d.length:=by omega
  subst hke;have g1:¬ (d.length:Int)<(d.length:Int):=by omega
  have h':=h.out;rw [<- he.out,aai,gx] at h';replace h':=hid h';refine wk ?_;exact ae rfl h'.out
end Go.Proofs.YtcmfcpjnhephaaaGreatDoor.Av
