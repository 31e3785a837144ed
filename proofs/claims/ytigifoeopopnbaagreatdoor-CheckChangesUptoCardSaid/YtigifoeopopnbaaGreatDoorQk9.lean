/- Joined texts of the walk, made small by a program. -/
import Derived.Test.YtigifoeopopnbaaGreatDoorQk4
import Derived.Test.YtigifoeopopnbaaGreatDoorRows
import Derived.KernelRfl
import Derived.Test.YtigifoeopopnbaaGreatDoorQk8
import Derived.Test.YtigifoeopopnbaaGreatDoorQk5
import Derived.Laws.RangeAny
import Derived.Laws.RangeString
import Derived.Test.YtigifoeopopnbaaGreatDoorQk6
set_option linter.unusedSimpArgs false
set_option linter.unusedVariables false
set_option maxRecDepth 100000
namespace Go.Proofs.YtigifoeopopnbaaGreatDoor.Av
open Go
def Pb:LSO:=[Ag 2]
def Pa:LSO:=[Aa 5 0,Bu 6 5,Aa 7 6,.grp none 7 false
 [Al 8 7 0,Bt 9 7 8,AB 10 7 9 32]
 11 (tm 10),Aa 12 11,.grp none 12 false
 [Al 13 12 0,BS 14 12 13 0,og 15 12 false (.conv .i32 (tm 14)),AY 16 12 157 15,Bg 17 12 16]
 18 (tm 17)]
def O9:LSO:=[Ag 2]
def O8:LSO:=[Aa 19 0,o1 20 (.rangeS (tm 19))]
def O7:LSO:=[o1 21 (.nextS (tm 20)),Ar 22 21]
def O6:LSO:=[Ba 23 21,Aa 4 23]
def O5:LSO:=[Aa 24 4,Ao 25 157 24,Aw 26 25,Aa 27 26,.grp none 27 true
 [Ae 28 27 4,og 29 27 true (.bin .lss (tm 28) (.av (.int .i32 48))),Ae 30 27 29,.grp (some (27,true)) 30 false
 [Al 31 30 4,og 32 30 false (.bin .gtr (tm 31) (.av (.int .i32 57)))]
 33 (tm 32)]
 34 (tm 33),Aa 35 34,.grp none 35 true
 [Ae 36 35 4,og 37 35 true (.bin .neq (tm 36) (.av (.int .i32 45)))]
 38 (tm 37)]
def O4:LSO:=[Ag 2]
def O3:LSO:=[A0 2]
def OL:aV:=⟨39,(.seq (.sreg Pb [])
 (.seq (.seq (.sreg Pa Co)
 (.cond (tm 18) (.seq (.sreg O9 [])
 .ret)
 .skip))
 (.seq (.seq (.sreg O8 Cj)
 (.block 0 (.loop (.seq (.sreg O7 [])
 (.seq (.cond (tm 22) .skip
 (.exit 0))
 (.block 1 (.seq (.sreg O6 Cj)
 (.seq (.sreg O5 Cq)
 (.cond (tm 38) (.seq (.sreg O4 [])
 .ret)
 .skip)))))))))
 (.seq (.sreg O3 [])
 .ret)))),[(.tmp 2)]⟩
attribute [push_cast] Pb Pa O9 O8 O7 O6 O5 O4 O3
theorem TQ:aX Tryz.prog (fun _ _=>1) 130=some OL.raw:=by kernel_rfl
def Kq:LSO:=[Ag 2]
def Kp:LSO:=[Aa 3 0,o1 4 (.bin .geq (tm 3) (.av (.int .i32 97))),Aa 5 4,.grp none 5 true
 [Ae 6 5 0,og 7 5 true (.bin .leq (tm 6) (.av (.int .i32 122)))]
 8 (tm 7),Aa 9 8,.grp none 9 false
 [Al 10 9 0,og 11 9 false (.bin .geq (tm 10) (.av (.int .i32 65))),Al 12 9 11,.grp (some (9,false)) 12 true
 [Ae 13 12 0,og 14 12 true (.bin .leq (tm 13) (.av (.int .i32 90)))]
 15 (tm 14)]
 16 (tm 15),Aa 2 16]
def HZ:aV:=⟨17,(.seq (.sreg Kq [])
 (.seq (.sreg Kp Cq)
 .ret)),[(.tmp 2)]⟩
attribute [push_cast] Kq Kp
theorem Rz:aX Tryz.prog (fun _ _=>1) 157=some HZ.raw:=by kernel_rfl
def Qz:LSO:=[Az 3 1,Ag 4]
def Qy:LSO:=[Aa 5 0,o1 6 (.mkfn 158 [(tm 3)]),Am 7 57 5 6,Aa 4 7]
def RB:aV:=⟨8,(.seq (.sreg Qz [])
 (.seq (.sreg Qy Cl)
 .ret)),[(.tmp 4)]⟩
attribute [push_cast] Qz Qy
theorem Vf:aX Tryz.prog (fun _ _=>1) 131=some RB.raw:=by kernel_rfl
def MR:LSO:=[Az 2 0,Ag 3]
def MQ:LSO:=[Ad 4 0 2,Ac 5 1 4,Ao 6 25 5,Ac 7 1 1,Ao 8 25 7,A7 9 6 8,Aa 3 9]
def LB:aV:=⟨10,(.seq (.sreg MR [])
 (.seq (.sdreg MQ [.pure,(.read 0 0),(.read 0 0),(.read 0 0)] Cq)
 .ret)),[(.tmp 3)]⟩
attribute [push_cast] MR MQ
theorem R6:aX Tryz.prog (fun _ _=>1) 158=some LB.raw:=by kernel_rfl
def MH:LSO:=[Aq 2,Aq 3,Ag 4]
def MG:LSO:=[Ak 5]
def MF:LSO:=[Ag 6]
def ME:LSO:=[Ab 7 0]
def MD:LSO:=[Aa 11 7,Aa 12 0,Ax 13 12,Ai 14 11 13,Aa 15 14,.grp none 15 true
 [Ae 16 15 0,Ae 17 15 7,Bc 18 15 16 17,og 19 15 true (.bin .neq (tm 18) (.av (.int .u8 44)))]
 20 (tm 19),Aa 21 20,.grp none 21 true
 [Ae 22 21 0,Ae 23 21 7,Bc 24 21 22 23,og 25 21 true (.bin .neq (tm 24) (.av (.int .u8 43)))]
 26 (tm 25)]
def MC:LSO:=[Aa 27 0,Aa 28 7,A9 29 27 28,Aa 8 29]
def MB:LSO:=[Aa 30 8,o1 31 (.bin .eql (tm 30) (.av (.int .u8 32))),Aa 6 31]
def Mz:LSO:=[Aa 33 8,o1 34 (.bin .neq (tm 33) (.av (.int .u8 92))),Aa 32 34]
def My:LSO:=[Aa 35 8,BJ 36 35,Aa 37 36,.grp none 37 false
 [Al 38 37 8,og 39 37 false (.call 159 [(.av (.str [34,59,60,62])),(tm 38)]),BH 40 37 39 0]
 41 (tm 40),Aa 42 41,.grp none 42 false
 [Al 43 42 5,Bo 44 42 43,AK 45 42 44 0,Al 46 42 45,.grp (some (42,false)) 46 true
 [Ae 47 46 8,Bv 48 46 47,Ae 49 46 48,.grp (some (46,true)) 49 false
 [Al 50 49 8,og 51 49 false (.bin .eql (tm 50) (.av (.int .u8 35)))]
 52 (tm 51)]
 53 (tm 52)]
 54 (tm 53)]
def Mx:LSO:=[Aq 2,Aq 3,Ag 4]
def Km:LSO:=[Aa 56 7,Af 57 56 1,Aa 58 0,Ax 59 58,Ai 60 57 59,Aa 61 60,.grp none 61 true
 [Ae 62 61 0,Ae 63 61 7,og 64 61 true (.bin .add (tm 63) (iv 1)),Bc 65 61 62 64,og 66 61 true (.call 159 [(.av (.str [34,43,44,59,60,62,92,32,35,61])),(tm 65)]),
 og 67 61 true (.bin .geq (tm 66) (iv 0))]
 68 (tm 67),Aa 55 68]
def Kl:LSO:=[Aa 69 7,Af 70 69 1,Aa 7 70]
def Kk:LSO:=[Aa 71 0,Aa 72 7,A9 73 71 72,Aa 8 73]
def Kj:LSO:=[Aa 75 7,Af 76 75 2,Aa 77 0,Ax 78 77,Ai 79 76 78,Aa 74 79]
def Ki:LSO:=[Aa 81 0,Aa 82 7,Af 83 82 1,Aa 84 7,Af 85 84 3,BX 86 81 83 85,Ao 87 160 86,Aa 80 87,Ar 88 80,As 89 80,Aa 9 88,Aa 10 89]
def Kh:LSO:=[Aa 90 10,Aw 91 90]
def Kg:LSO:=[Aq 2,Aq 3,Ag 4]
def Kf:LSO:=[Aa 92 9,BG 93 92 0,Aa 8 93]
def Ke:LSO:=[Aa 94 7,Af 95 94 2,Aa 7 95]
def Kc:LSO:=[Aq 2,Aq 3,Ag 4]
def Kb:LSO:=[Aa 96 5,Aa 97 8,AS 98 97,AI 99 96 98,Aa 5 99]
def Ka:LSO:=[Aa 100 7,Af 101 100 1,Aa 7 101]
def J9:LSO:=[Aa 102 5,AZ 103 102,Aa 104 0,Aa 105 7,BU 106 104 105,Aa 107 6,Aw 108 107,Aa 2 103,Aa 3 106,Aa 4 108]
def Lz:aV:=⟨109,(.seq (.sreg MH [])
 (.seq (.sreg MG [])
 (.seq (.sreg MF [])
 (.seq (.sreg ME [])
 (.seq (.block 0 (.loop (.seq (.seq (.sreg MD Cr)
 (.cond (tm 26) .skip
 (.exit 0)))
 (.block 1 (.seq (.sreg MC Cl)
 (.seq (.sreg MB Ck)
 (.seq (.block 2 (.seq (.sreg Mz Ck)
 (.cond (tm 32) (.seq (.sreg My Co)
 (.cond (tm 54) (.seq (.sreg Mx [])
 .ret)
 .skip))
 (.seq (.sreg Km Cr)
 (.cond (tm 55) (.seq (.sreg Kl Ck)
 (.sreg Kk Cl))
 (.seq (.sreg Kj Co)
 (.cond (tm 74) (.seq (.sreg Ki C3)
 (.seq (.seq (.sreg Kh Cj)
 (.cond (tm 91) (.seq (.sreg Kg [])
 .ret)
 .skip))
 (.seq (.sreg Kf Ck)
 (.sreg Ke Ck))))
 (.seq (.sreg Kc [])
 .ret))))))))
 (.seq (.sreg Kb Cm)
 (.sreg Ka Ck)))))))))
 (.seq (.sdreg J9 [.pure,(.read 0 0),.pure,.pure,(.read 0 0),.pure,.pure,.pure,.pure] [true,true,true,false,false,false,false,false,false,false])
 .ret)))))),[(.tmp 2),(.tmp 3),(.tmp 4)]⟩
attribute [push_cast] MH MG MF ME MD MC MB Mz My Mx Km Kl Kk Kj Ki Kh Kg Kf Ke Kc Kb Ka J9
theorem R5:aX Tryz.prog (fun _ _=>1) 132=some Lz.raw:=by kernel_rfl
def Nn:LSO:=[Ak 2,Ab 3 0]
def Nm:LSO:=[Aa 10 0,Ax 11 10,A6 12 11 4096]
def Nl:LSO:=[Ak 2,Ab 3 5]
def Nk:LSO:=[Aa 13 0,Bu 14 13]
def Nj:LSO:=[Ak 2,Ab 3 0]
def Ni:LSO:=[Ak 4]
def Nh:LSO:=[Ak 5]
def Ng:LSO:=[Aa 15 4,Ah 16 15,Au 17 16 32,Aa 18 17,.grp none 18 false
 [Al 19 18 5,Bo 20 18 19,AK 21 18 20 8]
 22 (tm 21)]
def Nf:LSO:=[Ak 2,Ab 3 9]
def Nd:LSO:=[Aa 24 0,o1 25 (.call 129 [(tm 24),(.av (.str [61]))]),Aa 23 25,Ar 26 23,As 27 23,Ba 28 23,Aa 6 26,Aa 7 27,Aa 8 28]
def KX:LSO:=[Aa 29 8,Aw 30 29,Aa 31 30,.grp none 31 false
 [Al 32 31 6,AY 33 31 130 32,Bg 34 31 33]
 35 (tm 34)]
def KW:LSO:=[Ak 2,Ab 3 4]
def KV:LSO:=[Aa 36 5,Aa 37 6,Am 38 131 36 37]
def KU:LSO:=[Ak 2,Ab 3 21]
def KT:LSO:=[Aa 40 7,Ao 41 132 40,Aa 39 41,Ar 42 39,As 43 39,Ba 44 39,Aa 9 42,Aa 7 43,Aa 8 44]
def KS:LSO:=[Aa 45 8,Aw 46 45]
def KR:LSO:=[Ak 2,Ab 3 4]
def KQ:LSO:=[Aa 47 5,Aa 48 6,Aa 49 9,o1 50 (.build [(.str []),(.str [])] [(0,(1,(tm 48))),(1,(1,(tm 49)))]),B5 51 50,B6 52 47 51,Aa 5 52]
def KP:LSO:=[Aa 53 7,Bu 54 53]
def KO:LSO:=[Aa 55 4,Aa 56 5,BK 57 56,BL 58 55 57,Aa 2 58,Ab 3 0]
def KN:LSO:=[Aa 59 7,BG 60 59 0,o1 61 (.bin .eql (tm 60) (.av (.int .u8 44)))]
def KM:LSO:=[Aa 62 4,Aa 63 5,BK 64 63,BL 65 62 64,Aa 4 65,Ak 5]
def KL:LSO:=[Aa 66 7,o1 67 (.slS (tm 66) (some (iv 1)) none),Aa 0 67]
def LE:aV:=⟨68,(.seq (.sreg Nn [])
 (.seq (.seq (.sreg Nm Ck)
 (.cond (tm 12) (.seq (.sreg Nl [])
 .ret)
 .skip))
 (.seq (.seq (.sreg Nk Cj)
 (.cond (tm 14) (.seq (.sreg Nj [])
 .ret)
 .skip))
 (.seq (.sreg Ni [])
 (.seq (.sreg Nh [])
 (.block 0 (.loop (.block 1 (.seq (.seq (.sreg Ng Cm)
 (.cond (tm 22) (.seq (.sreg Nf [])
 .ret)
 .skip))
 (.seq (.sreg Nd CE)
 (.seq (.seq (.sreg KX Cl)
 (.cond (tm 35) (.seq (.sreg KW [])
 .ret)
 .skip))
 (.seq (.seq (.sreg KV Ck)
 (.cond (tm 38) (.seq (.sreg KU [])
 .ret)
 .skip))
 (.seq (.sreg KT CE)
 (.seq (.seq (.sreg KS Cj)
 (.cond (tm 46) (.seq (.sreg KR [])
 .ret)
 .skip))
 (.seq (.sreg KQ Cq)
 (.seq (.seq (.sreg KP Cj)
 (.cond (tm 54) (.seq (.sreg KO C6)
 .ret)
 .skip))
 (.seq (.seq (.sreg KN Ck)
 (.cond (tm 61) (.sreg KM C6)
 .skip))
 (.sreg KL Ck)))))))))))))))))),[(.tmp 2),(.tmp 3)]⟩
attribute [push_cast] Nn Nm Nl Nk Nj Ni Nh Ng Nf Nd KX KW KV KU KT KS KR KQ KP KO KN KM KL
theorem R9:aX Tryz.prog (fun _ _=>1) 103=some LE.raw:=by kernel_rfl
def Hh:LSO:=[Aq 2]
def Hg:LSO:=[Ak 3]
def Hf:LSO:=[Aa 7 0,o1 8 (.s2b (tm 7)),Ah 9 8,Ab 10 0]
def He:LSO:=[Ai 11 10 9]
def Hd:LSO:=[Aa 12 10,Aj 13 1 8 10,Ac 14 1 13,Aa 4 12,Aa 5 14]
def Hc:LSO:=[Aa 15 4,Au 16 15 0,Aa 17 16,.grp none 17 true
 [Ae 18 17 5,Bv 19 17 18,Ae 20 17 19,.grp (some (17,true)) 20 false
 [Al 21 20 5,og 22 20 false (.bin .eql (tm 21) (.av (.int .u8 35)))]
 23 (tm 22)]
 24 (tm 23),Aa 25 24,.grp none 25 false
 [Al 26 25 4,Al 27 25 0,Bt 28 25 27,BY 29 25 28 1,og 30 25 false (.bin .eql (tm 26) (tm 29)),Al 31 25 30,.grp (some (25,false)) 31 true
 [Ae 32 31 5,Bv 33 31 32]
 34 (tm 33)]
 35 (tm 34),Aa 6 35]
def Hb:LSO:=[Aa 37 5,BJ 38 37,Aa 36 38]
def Ha:LSO:=[Aa 39 3,o1 40 (.app 1 1 1 [(.int .u8 0)] (tm 39) (.av (.str [92,48,48]))),Aa 3 40]
def G9:LSO:=[Aa 42 6,Aa 43 42,.grp none 43 false
 [Al 44 43 5,og 45 43 false (.call 159 [(.av (.str [34,43,44,59,60,62,92])),(tm 44)]),BH 46 43 45 0]
 47 (tm 46),Aa 41 47]
def G8:LSO:=[Aa 48 3,o1 49 (.bslice false 1 1 [(.int .u8 0)] [(0,(1,(.av (.int .u8 92))))]),AI 50 48 49,Aa 3 50]
def z8:LSO:=[Aa 51 3,Aa 52 5,AS 53 52,AI 54 51 53,Aa 3 54]
def z7:LSO:=[Af 55 10 1,Aa 10 55]
def z6:LSO:=[Aa 56 3,AZ 57 56,Aa 2 57]
def uU:aV:=⟨58,(.seq (.sreg Hh [])
 (.seq (.sreg Hg [])
 (.seq (.seq (.sreg Hf Cz)
 (.block 0 (.loop (.seq (.sreg He [])
 (.seq (.cond (tm 11) .skip
 (.exit 0))
 (.seq (.block 1 (.seq (.sreg Hd Ct)
 (.seq (.sreg Hc Cq)
 (.seq (.block 2 (.seq (.sreg Hb Ck)
 (.cond (tm 36) (.seq (.sreg Ha Ck)
 (.exit 1))
 (.seq (.sreg G9 Cl)
 (.cond (tm 41) (.sreg G8 Cl)
 .skip)))))
 (.sreg z8 Cm)))))
 (.sreg z7 Cj)))))))
 (.seq (.sreg z6 Ck)
 .ret)))),[(.tmp 2)]⟩
attribute [push_cast] Hh Hg Hf He Hd Hc Hb Ha G9 G8 z8 z7 z6
theorem PY:aX Tryz.prog (fun _ _=>1) 162=some uU.raw:=by kernel_rfl
def M2:LSO:=[Ab 2 0]
def M1:LSO:=[Aa 7 0,Ah 8 7,Ab 9 0]
def M0:LSO:=[Ai 10 9 8]
def MZ:LSO:=[Aa 11 9,Aj 12 1 7 9,Ac 13 1 12,Aa 3 11,Aa 4 13]
def MY:LSO:=[Aa 15 3,Au 16 15 32,Aa 14 16]
def MX:LSO:=[Ab 2 9]
def MW:LSO:=[Aa 18 4,Ah 19 18,Au 20 19 0,Aa 17 20]
def MV:LSO:=[Ab 2 2]
def MT:LSO:=[Aa 21 4,Ah 22 21,Ab 23 0]
def MS:LSO:=[Ai 24 23 22]
def KA:LSO:=[Aa 25 23,Aj 26 2 21 23,An 27 2 26,AF 6,Aa 5 25,Ap 2 6 27]
def Kz:LSO:=[Aa 29 5,Au 30 29 8,Aa 28 30]
def Ky:LSO:=[Ab 2 9]
def Kx:LSO:=[Ad 32 0 6,Ac 33 1 32,Ao 34 130 33,Aw 35 34,Aa 31 35]
def Kw:LSO:=[Ab 2 20]
def Kv:LSO:=[Aa 37 4,Aa 38 5,Bz 39 37 38,Ad 40 0 6,Ac 41 1 40,Am 42 131 39 41,Aa 36 42]
def Ku:LSO:=[Ab 2 21]
def Kt:LSO:=[Af 43 23 1,Aa 23 43]
def Ks:LSO:=[Af 44 9 1,Aa 9 44]
def Kr:LSO:=[Ab 2 0]
def LC:aV:=⟨45,(.seq (.sreg M2 [])
 (.seq (.seq (.sreg M1 [])
 (.block 0 (.loop (.seq (.sreg M0 [])
 (.seq (.cond (tm 10) .skip
 (.exit 0))
 (.seq (.block 1 (.seq (.sreg MZ Ct)
 (.seq (.block 2 (.seq (.sreg MY Ck)
 (.cond (tm 14) (.seq (.sreg MX [])
 .ret)
 (.seq (.sreg MW Cl)
 (.cond (tm 17) (.seq (.sreg MV [])
 .ret)
 .skip)))))
 (.seq (.sreg MT [])
 (.block 3 (.loop (.seq (.sreg MS [])
 (.seq (.cond (tm 24) .skip
 (.exit 3))
 (.seq (.block 4 (.seq (.sreg KA Ct)
 (.block 5 (.seq (.sreg Kz Ck)
 (.cond (tm 28) (.seq (.sreg Ky [])
 .ret)
 (.seq (.sreg Kx Cm)
 (.cond (tm 31) (.seq (.sreg Kw [])
 .ret)
 (.seq (.sdreg Kv [.pure,.pure,(.read 0 0),.pure,(.read 0 0)] Cq)
 (.cond (tm 36) (.seq (.sreg Ku [])
 .ret)
 .skip)))))))))
 (.sreg Kt Cj))))))))))
 (.sreg Ks Cj)))))))
 (.seq (.sreg Kr [])
 .ret))),[(.tmp 2)]⟩
attribute [push_cast] M2 M1 M0 MZ MY MX MW MV MT MS KA Kz Ky Kx Kw Kv Ku Kt Ks Kr
theorem R7:aX Tryz.prog (fun _ _=>1) 161=some LC.raw:=by kernel_rfl
def Nc:LSO:=[Aq 2,Ab 3 0]
def Nb:LSO:=[Aa 11 0,Ao 12 161 11,Aa 4 12]
def Na:LSO:=[Aa 13 4,AH 14 13 0]
def M9:LSO:=[Aa 15 4,Aq 2,Aa 3 15]
def M8:LSO:=[Ab 5 0]
def M7:LSO:=[Aa 16 0,Ah 17 16,Ab 18 0]
def M6:LSO:=[Ai 19 18 17]
def M5:LSO:=[Aj 20 1 16 18,Ac 21 1 20,Aa 7 21]
def M4:LSO:=[Aa 22 7,Ah 23 22,Ab 24 0]
def M3:LSO:=[Ai 25 24 23]
def KK:LSO:=[Aj 26 2 22 24,An 27 2 26,AF 9,Ap 2 9 27]
def KJ:LSO:=[Ad 28 1 9,Ac 29 1 28,Ax 30 29,A6 31 30 4096]
def KI:LSO:=[Aq 2,Ab 3 5]
def KH:LSO:=[Aa 32 5,Af 33 32 1,Aa 5 33]
def KG:LSO:=[Af 34 24 1,Aa 24 34]
def KF:LSO:=[Af 35 18 1,Aa 18 35]
def KE:LSO:=[Aa 36 0,o1 37 (.call 134 [(tm 36),(.av (.bool false))]),Aa 10 37]
def KD:LSO:=[Aa 38 10,Ax 39 38,A6 40 39 4096]
def KC:LSO:=[Aq 2,Ab 3 5]
def KB:LSO:=[Aa 41 10,Aa 2 41,Ab 3 0]
def LD:aV:=⟨42,(.seq (.sreg Nc [])
 (.seq (.seq (.sreg Nb Ck)
 (.seq (.sreg Na Cj)
 (.cond (tm 14) (.seq (.sreg M9 Cp)
 .ret)
 .skip)))
 (.seq (.sreg M8 [])
 (.seq (.seq (.sreg M7 [])
 (.block 0 (.loop (.seq (.sreg M6 [])
 (.seq (.cond (tm 19) .skip
 (.exit 0))
 (.seq (.block 1 (.seq (.sreg M5 Ck)
 (.seq (.sreg M4 [])
 (.block 2 (.loop (.seq (.sreg M3 [])
 (.seq (.cond (tm 25) .skip
 (.exit 2))
 (.seq (.block 3 (.seq (.sreg KK Ck)
 (.seq (.seq (.sreg KJ Cl)
 (.cond (tm 31) (.seq (.sreg KI [])
 .ret)
 .skip))
 (.sreg KH Ck))))
 (.sreg KG Cj)))))))))
 (.sreg KF Cj)))))))
 (.seq (.sreg KE Ck)
 (.seq (.seq (.sreg KD Ck)
 (.cond (tm 40) (.seq (.sreg KC [])
 .ret)
 .skip))
 (.seq (.sreg KB Cp)
 .ret))))))),[(.tmp 2),(.tmp 3)]⟩
attribute [push_cast] Nc Nb Na M9 M8 M7 M6 M5 M4 M3 KK KJ KI KH KG KF KE KD KC KB
theorem R8:aX Tryz.prog (fun _ _=>1) 133=some LD.raw:=by kernel_rfl
def Pg:LSO:=[Aq 2,Ab 3 0]
def Pf:LSO:=[Aa 7 0,Ao 8 133 7,Aa 6 8,Ar 9 6,As 10 6,Aa 4 9,Aa 5 10]
def Pe:LSO:=[Aa 11 5,AH 12 11 0]
def Pd:LSO:=[Aa 13 5,Aq 2,Aa 3 13]
def Pc:LSO:=[Aa 14 0,o1 15 (.call 134 [(tm 14),(.av (.bool true))]),Aa 2 15,Ab 3 0]
def OM:aV:=⟨16,(.seq (.sreg Pg [])
 (.seq (.seq (.sreg Pf Cq)
 (.seq (.sreg Pe Cj)
 (.cond (tm 12) (.seq (.sreg Pd Cp)
 .ret)
 .skip)))
 (.seq (.sreg Pc Cw)
 .ret))),[(.tmp 2),(.tmp 3)]⟩
attribute [push_cast] Pg Pf Pe Pd Pc
theorem TS:aX Tryz.prog (fun _ _=>1) 104=some OM.raw:=by kernel_rfl
def QE:LSO:=[Aq 2,Ab 3 0]
def QD:LSO:=[Aa 7 0,Ao 8 103 7,Aa 6 8,Ar 9 6,As 10 6,Aa 4 9,Aa 5 10]
def QC:LSO:=[Aa 11 5,AH 12 11 0]
def QB:LSO:=[Aa 13 5,Aq 2,Aa 3 13]
def QA:LSO:=[Aa 14 4,Ao 15 104 14,Ar 16 15,As 17 15,Aa 2 16,Aa 3 17]
def RC:aV:=⟨18,(.seq (.sreg QE [])
 (.seq (.sreg QD C4)
 (.seq (.seq (.sreg QC Cj)
 (.cond (tm 12) (.seq (.sreg QB Cp)
 .ret)
 .skip))
 (.seq (.sreg QA C6)
 .ret)))),[(.tmp 2),(.tmp 3)]⟩
attribute [push_cast] QE QD QC QB QA
theorem Vg:aX Tryz.prog (fun _ _=>1) 81=some RC.raw:=by kernel_rfl
def cR:LSO:=[Ag 4]
def cQ:LSO:=[Aa 5 0,Aa 6 1,Am 7 85 5 6,AM 8 7 0,Aa 4 8]
def bf:aV:=⟨9,(.seq (.sreg cR [])
 (.seq (.sreg cQ Cm)
 .ret)),[(.tmp 4)]⟩
attribute [push_cast] cR cQ
theorem cM:aX Tryz.prog (fun _ _=>1) 57=some bf.raw:=by kernel_rfl
def dG:LSO:=[Ab 4 0]
def dF:LSO:=[Aa 6 0,Ah 7 6,Ab 8 0]
def dE:LSO:=[Ai 9 8 7]
def dD:LSO:=[Aa 10 8,Aa 5 10]
def dC:LSO:=[Aa 11 1,Aa 12 0,Aa 13 5,Aj 14 2 12 13,An 15 2 14,BB 16 11 15]
def dB:LSO:=[Aa 17 5,Aa 4 17]
def dA:LSO:=[Af 18 8 1,Aa 8 18]
def dz:LSO:=[Ab 4 (-1)]
def bm:aV:=⟨19,(.seq (.sreg dG [])
 (.seq (.seq (.sreg dF Cp)
 (.block 0 (.loop (.seq (.sreg dE [])
 (.seq (.cond (tm 9) .skip
 (.exit 0))
 (.seq (.block 1 (.seq (.sreg dD Cj)
 (.seq (.sreg dC Co)
 (.cond (tm 16) (.seq (.sreg dB Cj)
 .ret)
 .skip))))
 (.sreg dA Cj)))))))
 (.seq (.sreg dz [])
 .ret))),[(.tmp 4)]⟩
attribute [push_cast] dG dF dE dD dC dB dA dz
theorem di:aX Tryz.prog (fun _ _=>1) 85=some bm.raw:=by kernel_rfl
def vj:LSO:=[Aq 4,Aq 5,Ag 6]
def vi:LSO:=[Aa 7 0,Aa 8 1,Am 9 156 7 8,Ar 10 9,As 11 9,Ba 12 9,Aa 4 10,Aa 5 11,Aa 6 12]
def gK:aV:=⟨13,(.seq (.sreg vj [])
 (.seq (.sreg vi CE)
 .ret)),[(.tmp 4),(.tmp 5),(.tmp 6)]⟩
attribute [push_cast] vj vi
theorem t7:aX Tryz.prog (fun _ _=>1) 129=some gK.raw:=by kernel_rfl
def fU:LSO:=[Aq 4,Aq 5,Ag 6]
def fT:LSO:=[Aa 8 0,Aa 9 1,Am 10 177 8 9,Aa 7 10]
def fS:LSO:=[Aa 11 7,AM 12 11 0]
def fR:LSO:=[Aa 13 0,Aa 14 7,o1 15 (.slS (tm 13) none (some (tm 14))),Aa 16 0,Aa 17 7,Aa 18 1,Ax 19 18,AC 20 17 19,BU 21 16 20,Aa 4 15,Aa 5 21,A0 6]
def fQ:LSO:=[Aa 22 0,Aa 4 22,Aq 5,Ag 6]
def bT:aV:=⟨23,(.seq (.sreg fU [])
 (.seq (.seq (.sreg fT Cl)
 (.seq (.sreg fS Cj)
 (.cond (tm 12) (.seq (.sdreg fR [.pure,.pure,(.read 0 0),.pure,.pure,.pure,(.read 0 0),.pure,(.read 0 0),.pure] CO)
 .ret)
 .skip)))
 (.seq (.sreg fQ Cz)
 .ret))),[(.tmp 4),(.tmp 5),(.tmp 6)]⟩
attribute [push_cast] fU fT fS fR fQ
theorem fK:aX Tryz.prog (fun _ _=>1) 156=some bT.raw:=by kernel_rfl
attribute [push_cast] HZ RB Lz uU LC LD OM RC bf bm gK
set_option maxHeartbeats 8000000
set_option maxRecDepth 100000
theorem Qk {n:Int} (h0 : -2147483648<=n) (h1:n<2147483648):IntKind.i32.wrap n=n:=by
 simp only [IntKind.wrap,IntKind.bits,IntKind.signed];simp;omega
theorem Rh {s:List UInt8} {p:Nat} (h:p<s.length) (ha:(s.getD p 0).toNat<128):PG s p=((s.getD p 0).toNat,1):=by
 have e:s.getD p 0=s[p]:=by simp [h]
 rw [e] at ha ⊢;exact decode_ascii ⟨⟨s⟩⟩ p h ha
theorem SQ {s:List UInt8} {p:Nat} (h:p<s.length) (ha:128<=(s.getD p 0).toNat):128<=(PG s p).1:=by
 have e:s.getD p 0=s[p]:=by simp [h]
 rw [e] at ha;exact (decode_high ⟨⟨s⟩⟩ p h ha).1
def oG (x:Int):Bool:=(decide (97<=x) && decide (x<=122)) || (decide (65<=x) && decide (x<=90))
theorem kF {x:Int} {L:List Blk} {K:aef} (h:K (.bool (oG x)) L):aee 157 [.int .i32 x] L K:=by
 refine aed Rz ?_
 all_goals (first|refine ab rfl (Kto h ?_)|refine ac (Kto h ?_)|refine ab (by simp only [AV.refs,AV.refsL, *];rfl) (Kto h ?_)|refine aZ (ab rfl (Kto h ?_))|(trace_state;fail))
 all_goals (first|(simp [oG, *];done)|(simp [oG, *];omega)|(simp [oG, *];intros;omega)|(simp_all [Hid,oG];done)|(simp_all [Hid,oG];omega))
def N7 (x:Int):Bool:=oG x || (decide (48<=x) && decide (x<=57)) || decide (x=45)
def il (s:List UInt8):Bool:=decide (1<=s.length) && decide (s.length<=32) && oG ((s.getD 0 0).toNat:Int) && s.all fun c=>N7 (c.toNat:Int)
theorem Se {x:Int} (h:128<=x):N7 x=false:=by
 simp only [N7,oG,agE,agF,decide_eq_false_iff_not];omega
theorem VD {s:List UInt8} {L:List Blk} {K:aef} (h:K (.bool (il s)) L):aee 130 [.str s] L K:=by
 have no:il s=false->K (.bool false) L:=fun e=>by rw [<- e];exact h
 replace no:=hid no;replace h:=hid h;refine af TQ (by simp [OL]) ?_;simp only [OL,aq];by_cases h0:s=[]
 ·subst h0;refine wk ?_;exact ac (no.out rfl)
 have hlen:0<s.length:=afF.2 h0;by_cases h1:(32:Int)<(s.length:Int)
 ·refine wk ?_;exact ac (no.out (by simp [il];omega))
 obtain ⟨c0,hc0⟩:=aea (s.getD 0 0);have hr:=c0.toNat_lt;have w0:IntKind.i32.wrap (c0.toNat:Int)=(c0.toNat:Int):=Qk (by omega) (by omega);cases hl0:oG (c0.toNat:Int) with
 | false =>
   have kk1:=@hid _ @kF;refine wk ?_;refine ac (no.out ?_);simp only [il,hc0,hl0,Bool.and_false,afy]
 | true =>
   have kk1:=@hid _ @kF;refine wk ?_;refine ai (fun n T' L'=>∃ p,n=s.length - p/\p<=s.length/\Hid (∀ c∈s.take p,N7 (c.toNat:Int)=true)/\T'=[(20,.ptr L.length 0)]/\L'=L++[.siter s p]) (CutS (b:=by simp)) ⟨0,rfl,aej _,hid (by simp),rfl,rfl⟩ ?_;rintro _ _ _ ⟨p,rfl,hp,hall,rfl,rfl⟩;by_cases hlt:p<s.length
   ·obtain ⟨c,hc⟩:=aea (s.getD p 0);have hmem:c∈s:=by rw [<- hc];simp [hlt]
    have htk:s.take (p+1)=s.take p++[c]:=by rw [aeL hlt,<- hc];simp [hlt]
    replace htk:=hid htk;have bad:N7 (c.toNat:Int)=false->K (.bool false) L:=fun e=>no.out (by
     have:(s.all fun c=>N7 (c.toNat:Int))=false:=agW.2 ⟨c,hmem,by rw [e];simp⟩;simp only [il,this,Bool.and_false])
    replace bad:=hid bad;by_cases ha:c.toNat<128
    ·have hd:=Rh hlt (by rw [hc];exact ha);rw [hc] at hd;obtain ⟨x,hx⟩:∃ x:Nat,c.toNat=x:=⟨_,rfl⟩;rw [hx] at hd bad;have hx':=hid hx;clear hx hc hmem ha hr w0;cases hxl:oG (x:Int) with
     | true =>
       have kk1:=@hid _ @kF;refine wk ?_;refine ag _ _ _ (by omega) (CutS (b:=by simp)) ⟨p+1,rfl,hlt,hid fun d hd'=>?_,rfl,rfl⟩;rw [htk.out] at hd';rcases aeo.1 hd' with h|h
       ·exact hall.out d h
       ·rw [aeO.1 h,hx'.out,N7,hxl];rfl
     | false =>
       repeat' first
        | refine aY ?_
        | (first|refine aO (by kernel_rfl) ?_|refine aA (by kernel_rfl) ?_|refine aB ?_|refine bw ?_|refine a6 (fun _=>?_)|refine ax ?_|refine aR ?_|refine kF ?_|refine bj (kF ⟨rfl,rfl⟩) (kF ⟨rfl,rfl⟩) ?_|refine aS (kF ⟨rfl,rfl⟩) ?_)
          refine sm ?_
        | (first|refine aK (by kernel_rfl) ?_|refine aP ?_|refine aQ ?_|refine bd (aw ?_))
          refine sl ?_
        | exact a7
        | first|apply a8|apply aL|apply ba|apply aM|apply bc|apply aN
        | refine aE ?_
        | first|refine aC rfl ?_|refine aD rfl ?_|refine ap rfl ?_ ?_|refine aG rfl (fun _=>?_) (fun _=>?_)|refine aF rfl (fun _=>?_) (fun _=>?_)
        | ((first|refine ao (fun _=>?_) (fun _=>?_)|refine au (fun _=>?_) (fun _=>?_))<;>try refine sm ?_)
        | refine And.intro trivial ?_
        | refine And.intro (by omega) ?_
        | refine aI rfl (fun _=>?_) (fun _=>?_)
        | refine And.intro ?_ ?_
       ·rename_i hb
        refine ab rfl (bad.out ?_);simp only [N7,hxl,afQ,agE,agF,decide_eq_false_iff_not];omega
       ·rename_i hb
        refine ag _ _ _ (by omega) (CutS (b:=by simp)) ⟨p+1,rfl,hlt,hid fun d hd'=>?_,rfl,rfl⟩;rw [htk.out] at hd';rcases aeo.1 hd' with h|h
        ·exact hall.out d h
        ·rw [aeO.1 h,hx'.out];simp only [N7,hxl,afQ,ae6,aek,decide_eq_true_eq];omega
    ·have hh:=SQ hlt (by rw [hc];omega);obtain ⟨⟨x,wd⟩,hd⟩:∃ q,PG s p=q:=⟨_,rfl⟩;rw [hd] at hh;simp only at hh;have bad':=hid (bad.out (Se (show (128:Int)<=(c.toNat:Int) by omega)));have hxl:oG (x:Int)=false:=by
      have:=Se (show (128:Int)<=(x:Int) by omega);simp only [N7,agE] at this;exact this.1.1
     have f1:¬ (x:Int)<48:=by omega
     have f2:(57:Int)<(x:Int):=by omega
     have f3:¬ (x:Int)=45:=by omega
     clear hc hmem hr w0;have kk1:=@hid _ @kF;refine wk ?_;exact ab rfl bad'.out
   ·have hke:p=s.length:=by omega
    subst hke;have h':=h.out;have e:il s=true:=by
     have e1:(s.all fun c=>N7 (c.toNat:Int))=true:=ael.2 fun c hcm=>hall.out c (by rw [aeE];exact hcm)
     simp only [il,e1,hc0,hl0,afW];simp;omega
    rw [e] at h';replace h':=hid h';clear e;refine wk ?_;exact ab rfl h'.out
variable {L:List Blk} {K:aef}
abbrev Ava:=List UInt8×List UInt8
def gf (a:Ava):List AV:=[.str a.1,.str a.2]
def aH (r:List Ava):List AV:=r.flatMap gf
abbrev VI (r:List Ava) (cap:Option Nat):AV:=.sl (aH r) r.length cap
def lN (r:List Ava) (typ:List UInt8):Bool:=r.any fun a=>decide (aa a.1=aa typ)
theorem ac1 {a:Ava} {typ:List UInt8} {ip:Nat} (h1:(a.1.length:Int)<=100000) (h2:(typ.length:Int)<=100000) (hL:L[ip]?=some (.cells [.str typ])) (h:K (.bool (decide (aa a.1=aa typ))) L) :
  aee 158 [.agg (gf a),.ptr ip 0] L K:=by
 obtain ⟨t,v⟩:=a;replace h:=hid h;have hip:ip<L.length:=(aeh.1 hL).1;have g1:(L++[Blk.cells [.str t,.str v]])[ip]?=some (.cells [.str typ]):=by rw [aem hip];exact hL
 simp only [gf];refine af R6 (by simp [LB]) ?_;simp only [LB,aq];have kk1:=@hid _ (fun L K=>HF h1 (L:=L) (K:=K));have kk2:=@hid _ (fun L K=>HF h2 (L:=L) (K:=K));refine wk ?_;exact ab rfl h.out
theorem bW (r:List Ava):(aH r).length=r.length * 2:=by
 induction r with
 | nil=>rfl
 | cons a r ih=>simp only [aH,ae4,aeF,gf,aet,afk] at ih ⊢;omega
theorem dc:∀ {r:List Ava} {k:Nat},k<r.length->((aH r).drop (k * 2)).take 2=gf (r.getD k ([],[]))
 | a::r,0,_=>rfl
 | a::r,k+1,h=>by
   have ih:=@dc r k (by simpa using h);rw [show (k+1) * 2=k * 2+1+1 by omega];simpa [aH,gf] using ih
theorem ZQ {r:List Ava} {typ:List UInt8} {cap:Option Nat} {ip:Nat} (hn:r.length<=100000) (h1:∀ a∈r,(a.1.length:Int)<=100000) (h2:(typ.length:Int)<=100000) (hL:L[ip]?=some (.cells [.str typ]))
  (hno:lN r typ=false->K (.int .i64 (-1)) L) (hyes:∀ k:Nat,lN r typ=true->K (.int .i64 k) L):aee 85 [VI r cap,.func 158 [.ptr ip 0]] L K:=by
 replace hno:=hid hno;replace hyes:=hid hyes;replace h1:=hid h1;refine aed di ?_;refine ai (fun n T' L'=>∃ (k:Nat),n=r.length - k/\k<=r.length/\Hid (lN (r.take k) typ=false)/\T'=[(8,.int .i64 (k:Int)),(7,.int .i64 r.length),(0,VI r cap),(1,.func 158 [.ptr ip 0])]/\L=L') (CutS (b:=aeg _)) ⟨0,rfl,aej _,hid rfl,rfl,rfl⟩ ?_;rintro _ _ _ ⟨k,rfl,hk,hf,rfl,rfl⟩;by_cases hlt:k<r.length
 ·have g1:(k:Int)<(r.length:Int):=by omega
  have g2:=aec k (by omega);have e1:=dc hlt;have e2:k * 2+2<=(aH r).length:=by rw [bW];omega
  obtain ⟨a,ha⟩:=aea (r.getD k ([],[]));have ham:a∈r:=by rw [<- ha];simp [hlt]
  have htk:r.take (k+1)=r.take k++[a]:=by rw [aeL hlt,<- ha];simp [hlt]
  rw [ha] at e1;have hs:lN (r.take (k+1)) typ=decide (aa a.1=aa typ):=by
   have:=hf.out;simp only [lN] at this ⊢;rw [htk,agX,this];simp
  have hall:decide (aa a.1=aa typ)=true->lN r typ=true:=fun e=>afL.2 ⟨a,ham,e⟩
  replace hall:=hid hall;replace hs:=hid hs;replace htk:=hid htk;have ha1:=hid (h1.out a ham);clear ha ham;refine wk ?_;refine ac1 ha1.out h2 hL ?_;refine sk ?_;cases hd:decide (aa a.1=aa typ) with
  | true =>
    have hy:=hid (hyes.out k (hall.out hd));replace hd:=hid hd;refine wk ?_;exact ac hy.out
  | false =>
    replace hd:=hid hd;refine wk ?_;exact ag _ _ _ (by omega) (CutS (b:=aeg _)) ⟨k+1,rfl,hlt,hid (by rw [hs.out,hd.out]),rfl,rfl⟩
 ·have hke:k=r.length:=by omega
  subst hke;have g1:¬ (r.length:Int)<(r.length:Int):=by omega
  have hn':=hf.out;rw [aeE] at hn';have hy:=hid (hno.out hn');clear hn';refine wk ?_;exact ac hy.out
theorem Va {r:List Ava} {typ:List UInt8} {cap:Option Nat} {ip:Nat} (hn:r.length<=100000) (h1:∀ a∈r,(a.1.length:Int)<=100000) (h2:(typ.length:Int)<=100000) (hL:L[ip]?=some (.cells [.str typ])) (h:K (.bool (lN r typ)) L) :
  aee 57 [VI r cap,.func 158 [.ptr ip 0]] L K:=by
 replace h:=hid h;refine aed cM ?_;refine ZQ hn h1 h2 hL (fun e=>?_) (fun k e=>?_)
 ·have h':=h.out;rw [e] at h';replace h':=hid h';refine sk ?_;refine wk ?_;exact ac h'.out
 ·have h':=h.out;rw [e] at h';replace h':=hid h';have g:(0:Int)<=(k:Int):=by omega
  refine sk ?_;refine wk ?_;exact ac h'.out
theorem ack {r:List Ava} {typ:List UInt8} {cap:Option Nat} (hn:r.length<=100000) (h1:∀ a∈r,(a.1.length:Int)<=100000) (h2:(typ.length:Int)<=100000) (h:K (.bool (lN r typ)) L) :
  aee 131 [VI r cap,.str typ] L K:=by
 replace h:=hid h;refine aed Vf ?_;refine Va hn h1 h2 (by simp) ?_;refine sk ?_;refine wk ?_;exact ab rfl h.out
theorem fW {a:List UInt8} {c:UInt8} {L:List Blk} {K:aef} (h:K (.int .i64 (Lib.indexByte a c)) L):aee 159 [.str a,.int .u8 c.toNat] L K :=
 fO Tryz.func159 rfl (by kernel_rfl) (fun w0 S0 E w vs hR hv=>by
  simp only [VRL,VR] at hv;obtain ⟨_,_,rfl,rfl,_,_,rfl,rfl,rfl⟩:=hv;exact (Tryz.strings_IndexByte ⟨⟨a⟩⟩ c.toNat w).mono fun e w' ⟨he,hw⟩=>⟨_,he,by simp [VR],by subst hw;exact LJ.refl _⟩) h
theorem lV (a:List UInt8) (c:UInt8):(0<=Lib.indexByte a c)↔c∈a:=by
 induction a with
 | nil=>simp [Lib.indexByte]
 | cons b l ih =>
   have hge:=Lib.indexByte_ge l c;unfold Lib.indexByte;by_cases hb:b=c
   ·simp [hb]
   ·have e1:(b == c)=false:=by simpa using hb
    rw [e1];simp only [aez,if_false];have e2:c∈b::l↔c∈l:=by simp [Ne.symm hb]
    rw [e2,<- ih];split
    ·rename_i h;simp at h;omega
    ·rename_i h;simp at h;omega
theorem bo (c d:UInt8):(c.toNat:Int)=(d.toNat:Int)↔c=d:=by
 constructor
 ·intro h;exact afZ.1 (by omega)
 ·rintro rfl;rfl
def wrB (i n:Nat) (c:UInt8):List UInt8 :=
 if c=0 then [92,48,48] else if (i=0/\(c=32\/c=35))\/(i+1=n/\c=32)\/c∈[34,43,44,59,60,62,92] then [92,c] else [c]
def wrL (n:Nat):Nat->List UInt8->List UInt8
 | _,[]=>[]
 | i,c::s=>wrB i n c++wrL n (i+1) s
def iL (s:List UInt8):List UInt8:=wrL s.length 0 s
theorem aaW (i n:Nat) (c:UInt8):(wrB i n c).length<=3:=by
 unfold wrB;split
 ·simp
 ·split<;>simp
theorem f7 {s:List UInt8} (hs:s.length<=100000) (h:K (.str (iL s)) L):aee 162 [.str s] L K:=by
 replace h:=hid h;have g0:IntKind.i64.wrap ((s.length:Int) - 1)=(s.length:Int) - 1:=ad (by omega) (by omega);refine aed PY ?_;refine cz (l:=[]) (n:=0) 3 1 rfl (aeX 1).symm ?_;refine ai (fun n T' L'=>∃ (i m:Nat) (b:List UInt8),n=s.length - i/\i<=s.length/\m<=3 * i/\Hid (m=b.length/\b++wrL s.length i (s.drop i)=iL s)/\T'=[(10,.int .i64 (i:Int)),(9,.int .i64 s.length),(8,.sl (u8s s) s.length none),(3,.gsl (u8s b) m L.length 1),(0,.str s)]/\L'=L++[.spare m 1]) (CutS (b:=by simp)) ⟨0,0,[],rfl,aej _,by omega,hid ⟨rfl,rfl⟩,rfl,rfl⟩ ?_;rintro _ _ _ ⟨i,m,b,rfl,hi,hm,hb,rfl,rfl⟩;by_cases hlt:i<s.length
 ·have g1:(i:Int)<(s.length:Int):=by omega
  have g2:=aec i (by omega);obtain ⟨c,hc⟩:=aea (s.getD i 0);have g3:(u8s s).getD i .undef=.int .u8 c.toNat:=by rw [<- hc];simp [u8s,hlt]
  have hdr:s.drop i=c::s.drop (i+1):=by rw [aeH hlt,<- hc];simp [hlt]
  have hb2:=hb.out.2;rw [hdr] at hb2;simp only [wrL] at hb2;have g4:=ij;have g5:(u8s s).length=s.length:=by simp [u8s]
  clear hc hdr;replace hb2:=hid hb2
  repeat' first
   | refine aY ?_
   | (first|refine aO (by kernel_rfl) ?_|refine aA (by kernel_rfl) ?_|refine aB ?_|refine bw ?_|refine a6 (fun _=>?_)|refine ax ?_|refine aR ?_|refine fW ?_|refine bj (fW ⟨rfl,rfl⟩) (fW ⟨rfl,rfl⟩) ?_|refine aS (fW ⟨rfl,rfl⟩) ?_)
     refine sm ?_
   | (first|refine aK (by kernel_rfl) ?_|refine aP ?_|refine aQ ?_|refine bd (aw ?_))
     refine sl ?_
   | exact a7
   | first|apply a8|apply aL|apply ba|apply aM|apply bc|apply aN
   | refine aE ?_
   | first|refine aC rfl ?_|refine aD rfl ?_|refine ap rfl ?_ ?_|refine aG rfl (fun _=>?_) (fun _=>?_)|refine aF rfl (fun _=>?_) (fun _=>?_)
   | ((first|refine ao (fun _=>?_) (fun _=>?_)|refine au (fun _=>?_) (fun _=>?_))<;>try refine sm ?_)
   | refine And.intro trivial ?_
   | refine And.intro (by omega) ?_
   | refine aI rfl (fun _=>?_) (fun _=>?_)
   | refine And.intro ?_ ?_
  ·rfl
  ·omega
  ·rename_i h0
   have hc0:=(bo c 0).1 h0;rw [show u8s b++AV.frzL (u8s [92,48,48])=u8s (b++[92,48,48]) by simp [u8s,AV.frzL,AV.frz]];refine ag _ _ _ (by omega) (CutL (b:=by simp)) ⟨i+1,m+3,b++[92,48,48],rfl,hlt,by omega,hid ⟨by simp [hb.out.1],?_⟩,rfl,rfl⟩;rw [<- hb2.out,wrB,if_pos hc0,aeu]
  ·rename_i h0 h1
   have hc0:¬ c=0:=fun e=>h0 ((bo c 0).2 e)
   have hq:(i=0/\(c=32\/c=35))\/(i+1=s.length/\c=32)\/c∈[34,43,44,59,60,62,92]:=by
    rcases h1 with (⟨e1,e2⟩|⟨e1,e2⟩)|e
    ·exact .inl ⟨by omega,e2.imp (bo c 32).1 (bo c 35).1⟩
    ·exact .inr (.inl ⟨by omega,(bo c 32).1 e2⟩)
    ·exact .inr (.inr ((lV _ _).1 e))
   rw [show u8s b++[AV.int IntKind.u8 92,AV.int IntKind.u8 (c.toNat:Int)]=u8s (b++[92,c]) by simp [u8s]];refine ag _ _ _ (by omega) (CutL (b:=by simp)) ⟨i+1,m+1+1,b++[92,c],rfl,hlt,by omega,hid ⟨by simp [hb.out.1],?_⟩,rfl,rfl⟩;rw [<- hb2.out,wrB,if_neg hc0,if_pos hq,aeu]
  ·rename_i h0 h1
   have hc0:¬ c=0:=fun e=>h0 ((bo c 0).2 e)
   have hq:¬ ((i=0/\(c=32\/c=35))\/(i+1=s.length/\c=32)\/c∈[34,43,44,59,60,62,92]):=fun hq=>h1 (by
    rcases hq with ⟨e1,e2⟩|⟨e1,e2⟩|e
    ·exact .inl (.inl ⟨by omega,e2.imp (bo c 32).2 (bo c 35).2⟩)
    ·exact .inl (.inr ⟨by omega,(bo c 32).2 e2⟩)
    ·exact .inr ((lV _ _).2 e))
   rw [show u8s b++[AV.int IntKind.u8 (c.toNat:Int)]=u8s (b++[c]) by simp [u8s]];refine ag _ _ _ (by omega) (CutL (b:=by simp)) ⟨i+1,m+1,b++[c],rfl,hlt,by omega,hid ⟨by simp [hb.out.1],?_⟩,rfl,rfl⟩;rw [<- hb2.out,wrB,if_neg hc0,if_neg hq,aeu]
 ·have hke:i=s.length:=by omega
  subst hke;have g1:¬ (s.length:Int)<(s.length:Int):=by omega
  have e1:=ij b;have e2:=gF b;have e:=hb.out.2;rw [aeC,wrL,aeJ] at e;have h':=h.out;rw [<- e] at h';replace h':=hid h';clear e;refine wk ?_;exact ab rfl h'.out
abbrev l5:List UInt8:=[34,43,44,59,60,62,92,32,35,61]
def ie:List UInt8->Bool->List UInt8->Option (List UInt8×List UInt8×Bool)
 | b,bl,[]=>some (b,[], !bl)
 | b,bl,c::s=>if c=44\/c=43 then some (b,c::s, !bl)
   else if c≠92 then (if c=0\/c∈([34,59,60,62]:List UInt8)\/(b=[]/\(c=32\/c=35)) then none else ie (b++[c]) (decide (c=32)) s)
   else match s with
    | []=>none
    | d::s1=>if d∈l5 then ie (b++[d]) false s1 else match s1 with
      | []=>none
      | e::s2=>match NI d e with
        | none=>none
        | some x=>ie (b++[x]) false s2
def Xk (o:Option (List UInt8×List UInt8×Bool)):AV:=match o with
 | none=>.tup [.str [],.str [],.bool false]
 | some (v,r,f)=>.tup [.str v,.str r,.bool f]
theorem l3 {b:List UInt8} {bl:Bool}:ie b bl []=some (b,[], !bl):=by rw [ie.eq_def]
theorem pf {b:List UInt8} {bl:Bool} {c:UInt8} {s:List UInt8} (h:c=44\/c=43):ie b bl (c::s)=some (b,c::s, !bl):=by rw [ie.eq_def];simp only [if_pos h]
theorem lZ {b:List UInt8} {bl:Bool} {c:UInt8} {s:List UInt8} (h:¬ (c=44\/c=43)) (h2:c≠92):ie b bl (c::s)=if c=0\/c∈([34,59,60,62]:List UInt8)\/(b=[]/\(c=32\/c=35)) then none else ie (b++[c]) (decide (c=32)) s:=by
 rw [ie.eq_def];simp only [if_neg h,if_pos h2]
theorem Ia {b:List UInt8} {bl:Bool}:ie b bl [92]=none:=by rw [ie.eq_def];rfl
theorem H9 {b:List UInt8} {bl:Bool} {d:UInt8} {s:List UInt8} (h:d∈l5):ie b bl (92::d::s)=ie (b++[d]) false s:=by
 rw [ie.eq_def];simp only [show ¬ ((92:UInt8)=44\/(92:UInt8)=43) by decide,if_false,ne_eq,not_true_eq_false,if_pos h]
theorem H8 {b:List UInt8} {bl:Bool} {d:UInt8} (h:¬ d∈l5):ie b bl [92,d]=none:=by
 rw [ie.eq_def];simp only [show ¬ ((92:UInt8)=44\/(92:UInt8)=43) by decide,if_false,ne_eq,not_true_eq_false,if_neg h]
theorem LO {b:List UInt8} {bl:Bool} {d e:UInt8} {s:List UInt8} (h:¬ d∈l5):ie b bl (92::d::e::s)=match NI d e with|none=>none|some x=>ie (b++[x]) false s:=by
 rw [ie.eq_def];simp only [show ¬ ((92:UInt8)=44\/(92:UInt8)=43) by decide,if_false,ne_eq,not_true_eq_false,if_neg h]
theorem jm {s:List UInt8} {i:Nat} (h:i<s.length):s.drop i=s.getD i 0::s.drop (i+1):=by
 rw [aeH h];simp [h]
theorem aaY {s:List UInt8} (hs:s.length<=100000) (h:K (Xk (ie [] false s)) L):aee 132 [.str s] L K:=by
 replace h:=hid h;refine aed R5 ?_;refine cz (l:=[]) (n:=0) 5 1 rfl (aeX 1).symm ?_;refine ai (fun n T' L'=>∃ (i m:Nat) (b:List UInt8) (bl:Bool),n=s.length - i/\i<=s.length/\m<=i/\Hid (m=b.length/\ie b bl (s.drop i)=ie [] false s)/\T'=[(7,.int .i64 (i:Int)),(6,.bool bl),(5,.gsl (u8s b) m L.length 1),(0,.str s)]/\L'=L++[.spare m 1]) (CutS (b:=by simp)) ⟨0,0,[],false,rfl,aej _,by omega,hid ⟨rfl,rfl⟩,rfl,rfl⟩ ?_;rintro _ _ _ ⟨i,m,b,bl,rfl,hi,hm,hb,rfl,rfl⟩;have e1:=ij b;have e2:=gF b;by_cases hlt:i<s.length
 ·have g1:(i:Int)<(s.length:Int):=by omega
  have g2:=aec i (by omega);obtain ⟨c,hc⟩:=aea (s.getD i 0);have hdr:=jm hlt;rw [hc] at hdr;have hb2:=hb.out.2;rw [hdr] at hb2;have hds:(s.drop i).take (s.length - i)=s.drop i:=aeV (by simp);have hl1:(i:Int)<=(s.length:Int):=by omega
  by_cases hcc:c=44\/c=43
  ·rw [pf hcc] at hb2;have h':=h.out;rw [<- hb2] at h';simp only [Xk] at h';rw [<- hdr] at h';replace h':=hid h';have k1:((c.toNat:Int)=44)\/((c.toNat:Int)=43):=hcc.imp (bo c 44).2 (bo c 43).2;clear hb2 hcc hdr;rcases k1 with k1|k1
   ·refine wk ?_;exact ab rfl h'.out
   ·refine wk ?_;exact ab rfl h'.out
  ·have k1:¬ (c.toNat:Int)=44:=fun e=>hcc (.inl ((bo c 44).1 e))
   have k2:¬ (c.toNat:Int)=43:=fun e=>hcc (.inr ((bo c 43).1 e))
   by_cases h92:c=92
   ·subst h92;have g3:IntKind.i64.wrap ((i:Int)+2)=(i:Int)+2:=ad (by omega) (by omega);have g4:IntKind.i64.wrap ((i:Int)+3)=(i:Int)+3:=ad (by omega) (by omega);have g5:IntKind.i64.wrap ((i:Int)+1+1)=(i:Int)+1+1:=ad (by omega) (by omega);have g6:IntKind.i64.wrap ((i:Int)+2+1)=(i:Int)+2+1:=ad (by omega) (by omega);have t1:((i:Int)+1).toNat=i+1:=by omega
    have t3:((i:Int)+3).toNat=i+3:=by omega
    by_cases h1:i+1<s.length
    ·have f1:(i:Int)+1<(s.length:Int):=by omega
     obtain ⟨d,hd⟩:=aea (s.getD (i+1) 0);have hdr1:=jm h1;rw [hd] at hdr1;rw [hdr1] at hb2;by_cases hsp:d∈l5
     ·rw [H9 hsp] at hb2;have f2:=(lV l5 d).2 hsp;clear hdr hdr1;replace hb2:=hid hb2;have kk1:=@hid _ @fW;refine wk ?_;rw [show u8s b++[AV.int IntKind.u8 (d.toNat:Int)]=u8s (b++[d]) by simp [u8s],show decide (((UInt8.toNat 92:Nat):Int)=32)=false from rfl];refine ag _ _ _ (by omega) (CutL (b:=by simp)) ⟨i+1+1,m+1,b++[d],false,rfl,h1,by omega,hid ⟨by simp [hb.out.1],hb2.out⟩,rfl,rfl⟩
     ·have f2:¬ 0<=Lib.indexByte l5 d:=fun e=>hsp ((lV l5 d).1 e)
      by_cases h2:i+2<s.length
      ·have f3:(i:Int)+2<(s.length:Int):=by omega
       have f4:(i:Int)+1<=(i:Int)+3:=by omega
       have f5:(i:Int)+3<=(s.length:Int):=by omega
       have f6:(0:Int)<=(i:Int)+1:=by omega
       obtain ⟨e,he⟩:=aea (s.getD (i+2) 0);have hdr2:=jm h2;rw [he] at hdr2;rw [hdr2,LO hsp] at hb2;have hcut:(s.drop (i+1)).take (i+3 - (i+1))=[d,e]:=by
        rw [hdr1,hdr2,show i+3 - (i+1)=2 by omega];rfl
       clear hdr hdr1 hdr2;replace hb2:=hid hb2;have kk1:=@hid _ @fW;refine wk ?_;refine YR ?_;rcases hx:NI d e with _|x
       ·rw [show Lj d e=.tup [.str [],.bool false] by simp only [Lj,hx]];have h':=h.out;rw [<- hb2.out,hx] at h';simp only [Xk] at h';replace h':=hid h';clear hx;refine sk ?_;refine wk ?_;exact ab rfl h'.out
       ·rw [show Lj d e=.tup [.str [x],.bool true] by simp only [Lj,hx]];have hb3:=hb2.out;rw [hx] at hb3;simp only at hb3;replace hb3:=hid hb3;have q1:[x].getD 0 0=x:=rfl;clear hx hb2;refine sk ?_;refine wk ?_;rw [show u8s b++[AV.int IntKind.u8 (x.toNat:Int)]=u8s (b++[x]) by simp [u8s],show decide (((UInt8.toNat 92:Nat):Int)=32)=false from rfl];refine ag _ _ _ (by omega) (CutL (b:=by simp)) ⟨i+2+1,m+1,b++[x],false,rfl,h2,by omega,hid ⟨by simp [hb.out.1],hb3.out⟩,rfl,rfl⟩
      ·have f3:¬ (i:Int)+2<(s.length:Int):=by omega
       have hnil:s.drop (i+1+1)=[]:=afE (by omega);rw [hnil,H8 hsp] at hb2;have h':=h.out;rw [<- hb2] at h';replace h':=hid h';clear hdr hdr1 hb2;have kk1:=@hid _ @fW;refine wk ?_;exact ab rfl h'.out
    ·have f1:¬ (i:Int)+1<(s.length:Int):=by omega
     have f3:¬ (i:Int)+2<(s.length:Int):=by omega
     have hnil:s.drop (i+1)=[]:=afE (by omega);rw [hnil,Ia] at hb2;have h':=h.out;rw [<- hb2] at h';replace h':=hid h';clear hdr hb2;have kk1:=@hid _ @fW;refine wk ?_;exact ab rfl h'.out
   ·rw [lZ hcc h92] at hb2;have k3:¬ (c.toNat:Int)=92:=fun e=>h92 ((bo c 92).1 e)
    clear hdr;replace hb2:=hid hb2
    repeat' first
     | refine aY ?_
     | (first|refine aO (by kernel_rfl) ?_|refine aA (by kernel_rfl) ?_|refine aB ?_|refine bw ?_|refine a6 (fun _=>?_)|refine ax ?_|refine aR ?_|refine fW ?_|refine bj (fW ⟨rfl,rfl⟩) (fW ⟨rfl,rfl⟩) ?_|refine aS (fW ⟨rfl,rfl⟩) ?_)
       refine sm ?_
     | (first|refine aK (by kernel_rfl) ?_|refine aP ?_|refine aQ ?_|refine bd (aw ?_))
       refine sl ?_
     | exact a7
     | first|apply a8|apply aL|apply ba|apply aM|apply bc|apply aN
     | refine aE ?_
     | first|refine aC rfl ?_|refine aD rfl ?_|refine ap rfl ?_ ?_|refine aG rfl (fun _=>?_) (fun _=>?_)|refine aF rfl (fun _=>?_) (fun _=>?_)
     | ((first|refine ao (fun _=>?_) (fun _=>?_)|refine au (fun _=>?_) (fun _=>?_))<;>try refine sm ?_)
     | refine And.intro trivial ?_
     | refine And.intro (by omega) ?_
     | refine aI rfl (fun _=>?_) (fun _=>?_)
     | refine And.intro ?_ ?_
    ·rename_i hx
     have hbad:c=0\/c∈([34,59,60,62]:List UInt8)\/(b=[]/\(c=32\/c=35)):=by
      rcases hx with (e|e)|⟨e,e'⟩
      ·exact .inl ((bo c 0).1 e)
      ·exact .inr (.inl ((lV _ _).1 e))
      ·refine .inr (.inr ⟨ae3.1 ?_,e'.imp (bo c 32).1 (bo c 35).1⟩);have:=hb.out.1;omega
     have h':=h.out;rw [<- hb2.out,if_pos hbad] at h';exact ab rfl h'
    ·rename_i hx
     have hbad:¬ (c=0\/c∈([34,59,60,62]:List UInt8)\/(b=[]/\(c=32\/c=35))):=fun e=>hx (by
      rcases e with e|e|⟨e,e'⟩
      ·exact .inl (.inl ((bo c 0).2 e))
      ·exact .inl (.inr ((lV _ _).2 e))
      ·refine .inr ⟨?_,e'.imp (bo c 32).2 (bo c 35).2⟩;have:=hb.out.1;rw [e] at this;simp at this;omega)
     have hc32:decide ((c.toNat:Int)=32)=decide (c=32):=by
      have:=bo c 32;simp only [decide_eq_decide];exact this
     rw [show u8s b++[AV.int IntKind.u8 (c.toNat:Int)]=u8s (b++[c]) by simp [u8s],hc32];refine ag _ _ _ (by omega) (CutL (b:=by simp)) ⟨i+1,m+1,b++[c],decide (c=32),rfl,hlt,by omega,hid ⟨by simp [hb.out.1],?_⟩,rfl,rfl⟩;rw [<- hb2.out,if_neg hbad]
 ·have hke:i=s.length:=by omega
  subst hke;have g1:¬ (s.length:Int)<(s.length:Int):=by omega
  have h':=h.out;rw [<- hb.out.2,aeC,l3] at h';simp only [Xk] at h';replace h':=hid h';have hds:(s.drop s.length).take (s.length - s.length)=[]:=by simp
  refine wk ?_;exact ab rfl h'.out
def kJ:List UInt8->Option (List UInt8×List UInt8)
 | []=>none
 | c::s=>if c=61 then some ([],s) else match kJ s with
   | none=>none
   | some (a,b)=>some (c::a,b)
theorem Rj:∀ s:List UInt8,(Lib.indexByte s 61=-1/\kJ s=none)\/∃ n:Nat,n<s.length/\Lib.indexByte s 61=(n:Int)/\kJ s=some (s.take n,s.drop (n+1))
 | []=>.inl ⟨rfl,rfl⟩
 | c::s=>by
   by_cases hc:c=61
   ·subst hc;exact .inr ⟨0,by simp,by simp [Lib.indexByte],by simp [kJ]⟩
   ·have e1:(c == 61)=false:=by simpa using hc
    unfold Lib.indexByte;rw [e1];simp only [aez,if_false,kJ,if_neg hc];rcases Rj s with ⟨h1,h2⟩|⟨n,h0,h1,h2⟩
    ·exact .inl ⟨by rw [h1];rfl,by rw [h2]⟩
    ·refine .inr ⟨n+1,by simp;omega,?_,by rw [h2];simp⟩;rw [h1];have:((n:Int) == -1)=false:=by simp
     rw [this];simp
def Ri (s:List UInt8):AV:=match kJ s with
 | some (a,b)=>.tup [.str a,.str b,.bool true]
 | none=>.tup [.str s,.str [],.bool false]
theorem UT {a:List UInt8} {c:UInt8} {L:List Blk} {K:aef} (h:K (.int .i64 (Lib.indexByte a c)) L):aee 177 [.str a,.str [c]] L K :=
 fO Tryz.func177 rfl (by kernel_rfl) (fun w0 S0 E w vs hR hv=>by
  simp only [VRL,VR] at hv;obtain ⟨_,_,rfl,rfl,_,_,rfl,rfl,rfl⟩:=hv;exact (Tryz.stringslite_Index_one ⟨⟨a⟩⟩ c w).mono fun e w' ⟨he,hw⟩=>⟨_,he,by simp [VR],by subst hw;exact LJ.refl _⟩) h
theorem aaj {s:List UInt8} (hs:s.length<=100000) (h:K (Ri s) L):aee 156 [.str s,.str [61]] L K:=by
 have hl:[(61:UInt8)].length=1:=rfl;rcases Rj s with ⟨h1,h2⟩|⟨n,h0,h1,h2⟩
 ·simp only [Ri,h2] at h;replace h:=hid h;clear h2;refine af fK (by simp [bT]) ?_;simp only [bT,aq];have kk1:=@hid _ @UT;refine wk ?_;exact ac h.out
 ·simp only [Ri,h2] at h;replace h:=hid h;have g1:(0:Int)<=(n:Int):=by omega
  have g2:=aec n (by omega);have g3:(n:Int)<=(s.length:Int):=by omega
  have g4:(n:Int)+1<=(s.length:Int):=by omega
  have g5:(0:Int)<=(n:Int)+1:=by omega
  have g6:((n:Int)+1).toNat=n+1:=by omega
  have g7:(s.drop (n+1)).take (s.length - (n+1))=s.drop (n+1):=aeV (by simp);clear h2;refine af fK (by simp [bT]) ?_;simp only [bT,aq];have kk1:=@hid _ @UT;refine wk ?_;exact ac h.out
theorem adT {s:List UInt8} (hs:s.length<=100000) (h:K (Ri s) L):aee 129 [.str s,.str [61]] L K:=by
 rcases hc:kJ s with _|⟨a,b⟩
 all_goals
  simp only [Ri,hc] at h;replace h:=hid h
 ·refine aed t7 ?_;refine aaj hs ?_;simp only [Ri,hc];refine sk ?_;refine wk ?_;exact ac h.out
 ·refine aed t7 ?_;refine aaj hs ?_;simp only [Ri,hc];refine sk ?_;refine wk ?_;exact ac h.out
abbrev Rdn:=List Ava
abbrev cm (r:Rdn):AV:=VI r none
def tP:Nat->List Rdn->Rdn->List UInt8->List Rdn×Int
 | 0,_,_,_=>([],4)
 | f+1,out,now,s=>if out.length=32\/now.length=8 then ([],9) else match kJ s with
   | none=>([],4)
   | some (typ,rest)=>if il typ=false then ([],4) else if lN now typ=true then ([],21) else match ie [] false rest with
     | none=>([],4)
     | some (v,r2,ok)=>if ok=false then ([],4) else match r2 with
       | []=>(out++[now++[(typ,v)]],0)
       | c::s'=>if c=44 then tP f (out++[now++[(typ,v)]]) [] s' else tP f out (now++[(typ,v)]) s'
def Iw (s:List UInt8):List Rdn×Int:=if 4096<s.length then ([],5) else if s=[] then ([],0) else tP (s.length+1) [] [] s
def VQ (p:List Rdn×Int):AV:=.tup [.sl (p.1.map cm) p.1.length none,.int .i64 p.2]
theorem U9:∀ {s a b:List UInt8},kJ s=some (a,b)->b.length<s.length/\a.length<=s.length
 | [],a,b,h=>by simp [kJ] at h
 | c::s,a,b,h=>by
   simp only [kJ] at h;split at h
   ·simp only [aei,aeq] at h;obtain ⟨rfl,rfl⟩:=h;simp
   ·split at h
    ·cases h
    ·rename_i a' b' hc
     simp only [aei,aeq] at h;obtain ⟨rfl,rfl⟩:=h;have:=U9 hc;simp;omega
theorem YP:∀ (n:Nat) {s b:List UInt8} {bl:Bool} {v r:List UInt8} {ok:Bool},s.length<=n->ie b bl s=some (v,r,ok)->r.length<=s.length:=by
 intro n
 induction n with
 | zero =>
   intro s b bl v r ok hn h;obtain rfl:=ae3.1 (Nat.le_zero.1 hn);rw [l3] at h;cases h;simp
 | succ n ih =>
   intro s b bl v r ok hn h;cases s with
   | nil=>rw [l3] at h;cases h;simp
   | cons c s =>
     simp only [aet] at hn;by_cases hc:c=44\/c=43
     ·rw [pf hc] at h;cases h;simp
     by_cases h92:c=92
     ·subst h92;cases s with
      | nil=>rw [Ia] at h;cases h
      | cons d s =>
        by_cases hd:d∈l5
        ·rw [H9 hd] at h;have:=ih (by simp at hn;omega) h;simp;omega
        ·cases s with
         | nil=>rw [H8 hd] at h;cases h
         | cons e s =>
           rw [LO hd] at h;split at h
           ·cases h
           ·have:=ih (by simp at hn;omega) h;simp;omega
     ·rw [lZ hc h92] at h;split at h
      ·cases h
      ·have:=ih (by omega) h;simp;omega
section
variable {P:Program} {N:Nat} {own:Nat->Nat->Nat} {Q:Exit->Tm->List Blk->Prop} {T:Tm} {L:List Blk}
theorem T8 {lc:bD} (t sz B:Nat) {l:List AV} {n:Nat} {v:AV} (ht:ar T t=some v) (hB:B<L.length) (hv:(v=.sl [] 0 (some 0)/\l=[]/\n=0)\/∃ i,B<i/\v=.gsl l n i sz/\L[i]?=some (.spare n sz))
  (h:∀ i X,B<i->(L++X)[i]?=some (.spare n sz)->AW P N own lc Q ((t,.gsl l n i sz)::T) (L++X)):AW P N own lc Q T L:=by
 rcases hv with ⟨rfl,rfl,rfl⟩|⟨i,hBi,rfl,hi⟩
 ·exact cz t sz ht (by simp) (h L.length [.spare 0 sz] hB (by simp))
 ·have h':=h i [] hBi (by simpa using hi);rw [aeJ] at h';refine h'.weakT fun t' v' e=>?_
  simp only [ar] at e;split at e
  ·rename_i e1;subst e1;cases e;exact ht
  ·exact e
end
variable {L:List Blk} {K:aef}
set_option maxHeartbeats 8000000
set_option maxRecDepth 100000
def adt (B:Nat) (r:Rdn) (v:AV) (L:List Blk):Prop:=(v=.sl [] 0 (some 0)/\aH r=[]/\r.length=0)\/∃ i,B<i/\v=.gsl (aH r) r.length i 2/\L[i]?=some (.spare r.length 2)
theorem SZ (r:Rdn) (t v:List UInt8):aH (r++[(t,v)])=aH r++[.str t,.str v]:=by simp [aH,gf]
theorem ia (r:Rdn):AV.frzL (aH r)=aH r:=by
 induction r with
 | nil=>rfl
 | cons a r ih=>simpa [aH,gf,AV.frzL,AV.frz] using ih
theorem gx {L0 X:List Blk} {e:Int} {K:aef} (h:K (VQ ([],e)) L0):Fin L0 (.tup [.sl [] 0 (some 0),.int .i64 e]) (L0++X) K:=aZ (ab rfl h)
theorem pk (d:List Rdn):AV.frzL (d.map cm)=d.map cm:=by
 rw [AV.frzL_eq,afK];refine List.map_congr_left fun r _=>?_
 simp only [Function.comp,AV.frz,ia]
theorem Yu (q:Nat->Bool) (r:Rdn):AV.refsL q (aH r)=true:=by
 induction r with
 | nil=>rfl
 | cons a r ih=>simpa [aH,gf,AV.refsL,AV.refs] using ih
theorem Ic (q:Nat->Bool):∀ d:List Rdn,AV.refsL q (d.map cm)=true
 | []=>rfl
 | r::d=>by simp only [aeG,AV.refsL,AV.refs,Yu,Ic q d,afD]
theorem pg {s:List UInt8} (h:il s=true):s.length<=32:=by
 simp only [il,aek,decide_eq_true_eq] at h;exact h.1.1.2
theorem ac0 {r:Rdn} {typ:List UInt8} {i n:Nat} (hr:r.length=n) (hn:n<=8) (h1:∀ a∈r,a.1.length<=32) (h2:typ.length<=4096) (h:K (.bool (lN r typ)) L) :
  aee 131 [.gsl (aH r) n i 2,.str typ] L K:=by
 subst hr;exact lY (by simpa only [AV.frzL,AV.frz,ia] using ack (cap:=none) (by omega) (fun a ha=>by have:=h1 a ha;omega) (by omega) h)
theorem abq {s:List UInt8} (h:K (VQ (Iw s)) L):aee 103 [.str s] L K:=by
 refine af R9 (by simp [LE]) ?_;simp only [LE,aq];by_cases h1:4096<s.length
 ·have f1:(4096:Int)<(s.length:Int):=by omega
  rw [Iw,if_pos h1] at h;replace h:=hid h;clear h1;refine wk ?_;exact aZ (ac h.out)
 have f1:¬ (4096:Int)<(s.length:Int):=by omega
 rw [Iw,if_neg h1] at h;by_cases h2:s=[]
 ·rw [if_pos h2] at h;replace h:=hid h;refine wk ?_;exact aZ (ac h.out)
 rw [if_neg h2] at h;replace h:=hid h;have hs:=hid (show s.length<=4096 by omega);clear h1;obtain ⟨R,hR⟩:=aea (tP (s.length+1) [] [] s);rw [hR] at h;refine wk ?_;refine cz (l:=[]) (n:=0) 4 1 rfl (aeX 1).symm ?_;refine ai (fun n T' L'=>∃ (f m:Nat) (out:List Rdn) (now:Rdn) (u:List UInt8) (v:AV) (X:List Blk),f=n/\u.length<=4096/\m=out.length/\m<=32/\now.length<=8/\Hid (u.length<f/\tP f out now u=R/\(∀ a∈now,a.1.length<=32)/\adt L.length now v L')/\L'[L.length]?=some (.spare m 1)/\T'=[(5,v),(4,.gsl (out.map cm) m L.length 1),(0,.str u)]/\L'=L++X) (CutS (b:=by simp)) ⟨s.length+1,0,[],[],s,_,[.spare 0 1],rfl,hs.out,rfl,by omega,by simp,hid ⟨by omega,hR,by simp,.inl ⟨rfl,rfl,rfl⟩⟩,by simp,rfl,rfl⟩ ?_;clear h2;clear hs;rintro _ _ _ ⟨f,m,out,now,u,v,X,rfl,hu,hm,hm32,hn8,hI,ho,rfl,rfl⟩;obtain ⟨hf,hp,ht,hv⟩:=hI.out;clear hI;clear hR;obtain ⟨f,rfl⟩:∃ g,f=g+1:=⟨f - 1,by omega⟩;have hB:L.length<(L++X).length:=(aeh.1 ho).1;refine T8 5 2 L.length rfl hB hv fun i Y hBi hi=>?_
 rw [aeu] at hi ⊢;have ho2:(L++(X++Y))[L.length]?=some (.spare m 1):=by rw [<- aeu,aem hB];exact ho
 generalize X++Y=Z at hi ho2 ⊢;clear ho hB hv;have s5:∀ A,(L++Z).set i A=L++Z.set (i - L.length) A:=fun A=>ae5 _ _ (by omega)
 have s4:∀ (W:List Blk) A,(L++W).set L.length A=L++W.set 0 A:=fun W A=>by rw [ae5 _ _ (aeg _),afn]
 have hz:i - L.length≠0:=by omega
 have s54:∀ A,(L++Z.set (i - L.length) A)[L.length]?=some (.spare m 1):=fun A=>by rw [<- s5,aeA (by omega)];exact ho2
 have s55:∀ A,(L++Z.set (i - L.length) A)[i]?=some A:=fun A=>by rw [<- s5,aeD,if_pos rfl,if_pos (aeh.1 hi).1]
 have hul:=hu;obtain ⟨c,hc⟩:∃ c:Nat,now.length=c:=⟨_,rfl⟩;rw [tP] at hp;rw [hc] at hp hi hn8 ⊢;by_cases hlim:out.length=32\/c=8
 ·rw [if_pos hlim] at hp;have h':=h.out;rw [<- hp] at h';replace h':=hid h';have k:(m:Int)=32\/(m:Int)≠32/\(c:Int)=8:=by omega
  clear hp hlim;clear hm;rcases k with k|⟨k,k'⟩
  ·refine wk ?_;exact gx h'.out
  ·refine wk ?_;exact gx h'.out
 rw [if_neg hlim] at hp;have k1:¬ (m:Int)=32:=by omega
 have k2:¬ (c:Int)=8:=by omega
 replace hm:=hid hm;clear hlim;replace hp:=hid hp;replace ht:=hid ht;refine wk ?_;refine adT (by omega) ?_;rcases hcut:kJ u with _|⟨typ,rest⟩
 ·rw [show Ri u=.tup [.str u,.str [],.bool false] by simp only [Ri,hcut]];have h':=h.out;rw [<- hp.out,hcut] at h';simp only at h';replace h':=hid h';refine sk ?_;refine wk ?_;exact gx h'.out
 rw [show Ri u=.tup [.str typ,.str rest,.bool true] by simp only [Ri,hcut]];have hp2:=hp.out;rw [hcut] at hp2;simp only at hp2;have hlen:=U9 hcut;replace hp2:=hid hp2;clear hcut hp;refine sk ?_;cases hty:il typ with
 | false =>
   have h':=h.out;rw [<- hp2.out,if_pos hty] at h';replace h':=hid h';have kk1:=@hid _ @VD;refine wk ?_;exact gx h'.out
 | true =>
   have hp3:=hp2.out;rw [if_neg (by rw [hty];simp)] at hp3;replace hp3:=hid hp3;clear hp2;have kk1:=@hid _ @VD;refine wk ?_;refine ac0 hc hn8 ht.out (by omega) ?_;cases hha:lN now typ with
   | true =>
     have h':=h.out;rw [<- hp3.out,if_pos hha] at h';replace h':=hid h';refine sk ?_;refine wk ?_;exact gx h'.out
   | false =>
     have hp4:=hp3.out;rw [if_neg (by rw [hha];simp)] at hp4;replace hp4:=hid hp4;clear hp3;refine sk ?_;refine wk ?_;refine aaY (by omega) ?_;rcases hvl:ie [] false rest with _|⟨w,r2,okk⟩
     ·have h':=h.out;rw [<- hp4.out,hvl] at h';simp only at h';replace h':=hid h';simp only [Xk];refine sk ?_;refine wk ?_;exact gx h'.out
     ·have hp5:=hp4.out;rw [hvl] at hp5;simp only at hp5;have hl2:=YP _ (aeg _) hvl;replace hp5:=hid hp5;clear hp4 hvl;simp only [Xk];refine sk ?_;cases okk with
      | false =>
        have h':=h.out;rw [<- hp5.out,if_pos rfl] at h';replace h':=hid h';refine wk ?_;exact gx h'.out
      | true =>
        have hp6:=hp5.out;rw [if_neg (by simp)] at hp6;replace hp6:=hid hp6;clear hp5;have q1:(c+1) * 32<=140737488355328:=by omega
        have q2:c+1<=140737488355328:=by omega
        have q3:(m+1) * 24<=140737488355328:=by omega
        have q4:m+1<=140737488355328:=by omega
        have e1:aH now++[AV.str typ,AV.str w]=aH (now++[(typ,w)]):=(SZ _ _ _).symm;have e2:out.map cm++[AV.sl (AV.frzL (aH now++[AV.str typ,AV.str w])) (c+1) none]=(out++[now++[(typ,w)]]).map cm:=by
         rw [e1,ia,ae8];simp [hc]
        have e3:(out++[now++[(typ,w)]]).length=m+1:=by simp [hm.out]
        have e4:(now++[(typ,w)]).length=c+1:=by simp [hc]
        have e5:∀ a∈now++[(typ,w)],a.1.length<=32:=fun a ha=>by
         rcases aeo.1 ha with h|h
         ·exact ht.out a h
         ·rw [aeO.1 h];exact pg hty
        replace e1:=hid e1;replace e2:=hid e2;replace e3:=hid e3;replace e4:=hid e4;replace e5:=hid e5;cases r2 with
        | nil =>
          have h':=h.out;rw [<- hp6.out] at h';simp only at h';replace h':=hid h';refine wk ?_;rw [e2.out];refine aZ (ab ?_ ?_)
          ·simp only [AV.frz,AV.frzL,pk,AV.refs,AV.refsL,Ic,afD]
          ·simp only [AV.frz,AV.frzL,pk];have:=h'.out;simp only [VQ,e3.out] at this;exact this
        | cons x s' =>
          simp only at hp6;have q5:¬ (x::s'=[]):=by simp
          have q7:((s'.length:Int)+1).toNat - 1=s'.length:=by omega
          have q8:s'.take (((s'.length:Int)+1).toNat - 1)=s':=by rw [q7,aeE]
          simp only [aet] at hl2;clear q7;replace q8:=hid q8;by_cases hx:x=44
          ·subst hx;refine wk ?_;rw [q8.out,e2.out];refine ag _ _ _ ?_ (CutS (b:=?_)) ⟨f,m+1,out++[now++[(typ,w)]],[],s',.sl [] 0 (some 0),_,rfl,by omega,e3.out.symm,by omega,by simp,hid ⟨by omega,?_,by simp,.inl ⟨rfl,rfl,rfl⟩⟩,?_,rfl,rfl⟩
           ·omega
           ·have:=(aeh.1 ho2).1;simp at this ⊢;omega
           ·rw [<- hp6.out,if_pos rfl]
           ·have:=(aeh.1 ho2).1;rw [<- s4,aeD,if_pos rfl,if_pos (by simp at this ⊢;omega)]
          ·have q6:¬ (x.toNat:Int)=44:=fun e=>hx ((bo x 44).1 e)
           refine wk ?_;rw [q8.out,e1.out];refine ag _ _ _ ?_ (CutS (b:=?_)) ⟨f,m,out,now++[(typ,w)],s',.gsl (aH (now++[(typ,w)])) (c+1) i 2,_,rfl,by omega,hm.out,hm32,by rw [e4.out];omega,hid ⟨by omega,?_,e5.out,.inr ⟨i,hBi,by rw [e4.out],by rw [e4.out];exact s55 _⟩⟩,s54 _,rfl,rfl⟩
           ·omega
           ·have:=(aeh.1 ho2).1;simp at this ⊢;omega
           ·rw [<- hp6.out,if_neg hx]
def gA:Rdn->Rdn->Int
 | _,[]=>0
 | done,a::t=>if done.length=8 then 9 else if il a.1=false then 20 else if lN done a.1=true then 21 else gA (done++[a]) t
def DD:Nat->List Rdn->Int
 | _,[]=>0
 | i,r::t=>if i=32 then 9 else if r=[] then 2 else if gA [] r≠0 then gA [] r else DD (i+1) t
theorem K9 {d:List Rdn} {k:Nat} (h:k<d.length):(d.map cm).getD k .undef=cm (d.getD k []):=by simp [h]
theorem OO {r:Rdn} {k:Nat}:(aH r).take (k * 2)=aH (r.take k):=by
 induction r generalizing k with
 | nil=>simp [aH]
 | cons a r ih =>
   cases k with
   | zero=>simp [aH]
   | succ k =>
     have:=@ih k;simp only [aH] at this;rw [show (k+1) * 2=k * 2+1+1 by omega];simp [aH,gf,this]
theorem acZ {r:Rdn} {typ:List UInt8} {n:Nat} {cap:Option Nat} (hr:r.length=n) (hn:n<=8) (h1:∀ a∈r,a.1.length<=32) (h2:typ.length<=32) (h:K (.bool (lN r typ)) L) :
  aee 131 [.sl (aH r) n cap,.str typ] L K:=by
 subst hr;exact ack (by omega) (fun a ha=>by have:=h1 a ha;omega) (by omega) h
theorem abQ {d:List Rdn} {cap:Option Nat} (hn:d.length<=1100000) (hr:∀ r∈d,r.length<=1100000) (h:K (.int .i64 (DD 0 d)) L):aee 161 [.sl (d.map cm) d.length cap] L K:=by
 replace h:=hid h;have hat:=hid (fun k=>@K9 d k);replace hr:=hid hr;refine aed R7 ?_;refine ai (fun n T' L'=>∃ (i:Nat) (X:List Blk),n=d.length - i/\i<=d.length/\i<=32/\Hid (DD i (d.drop i)=DD 0 d)/\T'=[(9,.int .i64 (i:Int)),(8,.int .i64 d.length),(7,.sl (d.map cm) d.length cap)]/\L'=L++X) (CutS (b:=by simp)) ⟨0,[],rfl,aej _,by omega,hid rfl,rfl,by simp⟩ ?_;rintro _ _ _ ⟨i,X,rfl,hi,hi32,he,rfl,rfl⟩;by_cases hlt:i<d.length
 ·have g1:(i:Int)<(d.length:Int):=by omega
  have g2:=aec i (by omega);have e2:=hat.out i hlt;have hrl:=hr.out (d.getD i []) (by rw [aew,aev hlt];exact afi _);obtain ⟨r,hri⟩:=aea (d.getD i []);have hdr:d.drop i=r::d.drop (i+1):=by rw [aeH hlt,<- hri];simp [hlt]
  rw [hri] at e2 hrl;have he2:=he.out;rw [hdr,DD] at he2;clear hdr hri;by_cases h32:i=32
  ·rw [if_pos h32] at he2;have h':=h.out;rw [<- he2] at h';replace h':=hid h';have k1:(i:Int)=32:=by omega
   have g1':(32:Int)<(d.length:Int):=by omega
   clear h32 he2;refine wk ?_;exact ab rfl h'.out
  rw [if_neg h32] at he2;have k1:¬ (i:Int)=32:=by omega
  by_cases hr0:r=[]
  ·rw [if_pos hr0] at he2;subst hr0;have h':=h.out;rw [<- he2] at h';replace h':=hid h';clear h32 he2;refine wk ?_;exact ab rfl h'.out
  rw [if_neg hr0] at he2;have k2:¬ (r.length:Int)=0:=by have:=afF.2 hr0;omega
  have herr:∀ e:Int,gA [] r=e->e≠0->K (.int .i64 e) L:=fun e a1 a2=>by
   rw [if_pos (by rw [a1];exact a2),a1] at he2;rw [he2];exact h.out
  replace herr:=hid herr;replace he2:=hid he2;clear h32;refine wk ?_;refine ai (fun n T' L'=>∃ (k:Nat) (Y:List Blk),n=r.length - k/\k<=r.length/\k<=8/\Hid (gA (r.take k) (r.drop k)=gA [] r/\∀ a∈r.take k,a.1.length<=32)/\T'=[(23,.int .i64 (k:Int)),(22,.int .i64 r.length),(21,cm r),(4,cm r),(9,.int .i64 (i:Int)),(8,.int .i64 d.length),(7,.sl (d.map cm) d.length cap)]/\L'=L++(X++Y)) (CutS (b:=by simp)) ⟨0,[],rfl,aej _,by omega,hid ⟨rfl,by simp⟩,rfl,by simp⟩ ?_;rintro _ _ _ ⟨k,Y,rfl,hk,hk8,hrow,rfl,rfl⟩;by_cases hkl:k<r.length
  ·have g3:(k:Int)<(r.length:Int):=by omega
   have g4:=aec k (by omega);have e3:=dc hkl;have e4:k * 2+2<=(aH r).length:=by rw [bW];omega
   obtain ⟨⟨ty,va⟩,ha⟩:∃ a,r.getD k ([],[])=a:=⟨_,rfl⟩;have hdk:r.drop k=(ty,va)::r.drop (k+1):=by rw [aeH hkl,<- ha];simp [hkl]
   have htk:r.take (k+1)=r.take k++[(ty,va)]:=by rw [aeL hkl,<- ha];simp [hkl]
   rw [ha] at e3;simp only [gf] at e3;obtain ⟨hr1,hr2⟩:=hrow.out;rw [hdk,gA] at hr1;have hlk:(r.take k).length=k:=by simp;omega
   rw [hlk] at hr1;clear hdk ha hrow;have e5:(aH r).take (k * 2)=aH (r.take k):=OO;have g5:(k:Int)<=(r.length:Int):=by omega
   replace hr1:=hid hr1;replace hr2:=hid hr2;replace htk:=hid htk;have e6:=hid hlk;clear hlk
   repeat' first
    | refine aY ?_
    | (first|refine aO (by kernel_rfl) ?_|refine aA (by kernel_rfl) ?_|refine aB ?_|refine bw ?_|refine a6 (fun _=>?_)|refine ax ?_|refine aR ?_)
      refine sm ?_
    | (first|refine aK (by kernel_rfl) ?_|refine aP ?_|refine aQ ?_|refine bd (aw ?_))
      refine sl ?_
    | exact a7
    | first|apply a8|apply aL|apply ba|apply aM|apply bc|apply aN
    | refine aE ?_
    | first|refine aC rfl ?_|refine aD rfl ?_|refine ap rfl ?_ ?_|refine aG rfl (fun _=>?_) (fun _=>?_)|refine aF rfl (fun _=>?_) (fun _=>?_)
    | ((first|refine ao (fun _=>?_) (fun _=>?_)|refine au (fun _=>?_) (fun _=>?_))<;>try refine sm ?_)
    | refine And.intro trivial ?_
    | refine And.intro (by omega) ?_
    | refine aI rfl (fun _=>?_) (fun _=>?_)
    | refine And.intro ?_ ?_
   ·rename_i h8
    have h':=herr.out 9 (by rw [<- hr1.out,if_pos (by omega)]) (by decide);exact ab rfl h'
   ·rename_i h8
    have hr3:=hr1.out;rw [if_neg (by omega)] at hr3;refine VD ?_;cases hty:il ty with
    | false =>
      have h':=hid (herr.out 20 (by rw [<- hr3,if_pos hty]) (by decide));clear hr3;refine sk ?_;refine wk ?_;exact ab rfl h'.out
    | true =>
      rw [if_neg (by rw [hty];simp)] at hr3;replace hr3:=hid hr3;have htl:=pg hty;refine sk ?_
      repeat' first
       | refine aY ?_
       | (first|refine aO (by kernel_rfl) ?_|refine aA (by kernel_rfl) ?_|refine aB ?_|refine bw ?_|refine a6 (fun _=>?_)|refine ax ?_|refine aR ?_)
         refine sm ?_
       | (first|refine aK (by kernel_rfl) ?_|refine aP ?_|refine aQ ?_|refine bd (aw ?_))
         refine sl ?_
       | exact a7
       | first|apply a8|apply aL|apply ba|apply aM|apply bc|apply aN
       | refine aE ?_
       | first|refine aC rfl ?_|refine aD rfl ?_|refine ap rfl ?_ ?_|refine aG rfl (fun _=>?_) (fun _=>?_)|refine aF rfl (fun _=>?_) (fun _=>?_)
       | ((first|refine ao (fun _=>?_) (fun _=>?_)|refine au (fun _=>?_) (fun _=>?_))<;>try refine sm ?_)
       | refine And.intro trivial ?_
       | refine And.intro (by omega) ?_
       | refine aI rfl (fun _=>?_) (fun _=>?_)
       | refine And.intro ?_ ?_
      refine aS (acZ e6.out (by omega) hr2.out htl ⟨rfl,rfl⟩) ?_;cases hha:lN (r.take k) ty with
      | true =>
        have h':=hid (herr.out 21 (by rw [<- hr3.out,if_pos hha]) (by decide));refine sk ?_;refine wk ?_;exact ab rfl h'.out
      | false =>
        have hr4:=hr3.out;rw [if_neg (by rw [hha];simp),<- htk.out] at hr4;replace hr4:=hid hr4;clear hr3;refine sk ?_;refine wk ?_;refine ag _ _ _ (by omega) (CutS (b:=by simp)) ⟨k+1,Y++[.cells [.str ty,.str va]],rfl,hkl,by omega,hid ⟨hr4.out,fun a ha=>?_⟩,rfl,by simp⟩;rw [htk.out] at ha;rcases aeo.1 ha with h|h
        ·exact hr2.out a h
        ·rw [aeO.1 h];exact htl
  ·have hke:k=r.length:=by omega
   subst hke;have g3:¬ (r.length:Int)<(r.length:Int):=by omega
   have hz:=hrow.out.1;rw [aeC,gA] at hz;have he3:=he2.out;rw [<- hz] at he3;simp only [ne_eq,not_true_eq_false,if_false] at he3;replace he3:=hid he3;clear hz;refine wk ?_;exact ag _ _ _ (by omega) (CutS (b:=by simp)) ⟨i+1,X++Y,rfl,hlt,by omega,hid he3.out,rfl,rfl⟩
 ·have hke:i=d.length:=by omega
  subst hke;have g1:¬ (d.length:Int)<(d.length:Int):=by omega
  have h':=h.out;rw [<- he.out,aeC,DD] at h';replace h':=hid h';refine wk ?_;exact ab rfl h'.out
end Go.Proofs.YtigifoeopopnbaaGreatDoor.Av
