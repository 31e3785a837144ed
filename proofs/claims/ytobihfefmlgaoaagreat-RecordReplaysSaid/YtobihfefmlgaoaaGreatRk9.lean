/- Joined texts of the walk, made small by a program. -/
import Derived.Test.YtobihfefmlgaoaaGreatRk4
import Derived.Test.YtobihfefmlgaoaaGreatRows
import Derived.KernelRfl
import Derived.Test.YtobihfefmlgaoaaGreatRk6
import Derived.Test.YtobihfefmlgaoaaGreatRk8
import Derived.Laws.RangeAny
import Derived.Laws.RangeString
import Derived.Test.YtobihfefmlgaoaaGreatRk5
set_option linter.unusedSimpArgs false
set_option linter.unusedVariables false
set_option maxRecDepth 100000
namespace Go.Proofs.YtobihfefmlgaoaaGreat.Av
open Go
def R2:LSO:=[An 2]
def R1:LSO:=[Aa 5 0,BQ 6 5,Aa 7 6,.grp none 7 false
 [Ag 8 7 0,Bo 9 7 8,AD 10 7 9 32]
 11 (tm 10),Aa 12 11,.grp none 12 false
 [Ag 13 12 0,og 14 12 false (.idxS (tm 13) (iv 0)),og 15 12 false (.conv .i32 (tm 14)),Bx 16 12 130 15,AY 17 12 16]
 18 (tm 17)]
def R0:LSO:=[An 2]
def RZ:LSO:=[Aa 19 0,o1 20 (.rangeS (tm 19))]
def RY:LSO:=[o1 21 (.nextS (tm 20)),Aq 22 21]
def RX:LSO:=[Bh 23 21,Aa 4 23]
def RW:LSO:=[Aa 24 4,Aj 25 130 24,AA 26 25,Aa 27 26,.grp none 27 true
 [Ai 28 27 4,og 29 27 true (.bin .lss (tm 28) (.av (.int .i32 48))),Ai 30 27 29,.grp (some (27,true)) 30 false
 [Ag 31 30 4,og 32 30 false (.bin .gtr (tm 31) (.av (.int .i32 57)))]
 33 (tm 32)]
 34 (tm 33),Aa 35 34,.grp none 35 true
 [Ai 36 35 4,og 37 35 true (.bin .neq (tm 36) (.av (.int .i32 45)))]
 38 (tm 37)]
def RV:LSO:=[An 2]
def RU:LSO:=[AC 2]
def Rk:aS:=⟨39,(.seq (.sreg R2 [])
 (.seq (.seq (.sreg R1 Ct)
 (.cond (tm 18) (.seq (.sreg R0 [])
 .ret)
 .skip))
 (.seq (.seq (.sreg RZ Cp)
 (.block 0 (.loop (.seq (.sreg RY [])
 (.seq (.cond (tm 22) .skip
 (.exit 0))
 (.block 1 (.seq (.sreg RX Cp)
 (.seq (.sreg RW Cu)
 (.cond (tm 38) (.seq (.sreg RV [])
 .ret)
 .skip)))))))))
 (.seq (.sreg RU [])
 .ret)))),[(.tmp 2)]⟩
attribute [push_cast] R2 R1 R0 RZ RY RX RW RV RU
theorem WI:aT Tryz.prog (fun _ _=>1) 92=some Rk.raw:=by kernel_rfl
def No:LSO:=[An 2]
def Nn:LSO:=[Aa 3 0,o1 4 (.bin .geq (tm 3) (.av (.int .i32 97))),Aa 5 4,.grp none 5 true
 [Ai 6 5 0,og 7 5 true (.bin .leq (tm 6) (.av (.int .i32 122)))]
 8 (tm 7),Aa 9 8,.grp none 9 false
 [Ag 10 9 0,og 11 9 false (.bin .geq (tm 10) (.av (.int .i32 65))),Ag 12 9 11,.grp (some (9,false)) 12 true
 [Ai 13 12 0,og 14 12 true (.bin .leq (tm 13) (.av (.int .i32 90)))]
 15 (tm 14)]
 16 (tm 15),Aa 2 16]
def KT:aS:=⟨17,(.seq (.sreg No [])
 (.seq (.sreg Nn Cu)
 .ret)),[(.tmp 2)]⟩
attribute [push_cast] No Nn
theorem UG:aT Tryz.prog (fun _ _=>1) 130=some KT.raw:=by kernel_rfl
def Tw:LSO:=[A8 3 1,An 4]
def Tv:LSO:=[Aa 5 0,o1 6 (.mkfn 132 [(tm 3)]),Ay 7 131 5 6,Aa 4 7]
def UH:aS:=⟨8,(.seq (.sreg Tw [])
 (.seq (.sreg Tv Cr)
 .ret)),[(.tmp 4)]⟩
attribute [push_cast] Tw Tv
theorem X5:aT Tryz.prog (fun _ _=>1) 93=some UH.raw:=by kernel_rfl
def PO:LSO:=[A8 2 0,An 3]
def PN:LSO:=[Ad 4 0 2,Ab 5 1 4,Aj 6 94 5,Ab 7 1 1,Aj 8 94 7,AJ 9 6 8,Aa 3 9]
def Oz:aS:=⟨10,(.seq (.sreg PO [])
 (.seq (.sdreg PN [.pure,(.read 0 0),(.read 0 0),(.read 0 0)] Cu)
 .ret)),[(.tmp 3)]⟩
attribute [push_cast] PO PN
theorem U6:aT Tryz.prog (fun _ _=>1) 132=some Oz.raw:=by kernel_rfl
def PE:LSO:=[Ao 2,Ao 3,An 4]
def PD:LSO:=[Ap 5]
def PC:LSO:=[An 6]
def PB:LSO:=[Ac 7 0]
def PA:LSO:=[Aa 11 7,Aa 12 0,A2 13 12,Ak 14 11 13,Aa 15 14,.grp none 15 true
 [Ai 16 15 0,Ai 17 15 7,Bp 18 15 16 17,og 19 15 true (.bin .neq (tm 18) (.av (.int .u8 44)))]
 20 (tm 19),Aa 21 20,.grp none 21 true
 [Ai 22 21 0,Ai 23 21 7,Bp 24 21 22 23,og 25 21 true (.bin .neq (tm 24) (.av (.int .u8 43)))]
 26 (tm 25)]
def Pz:LSO:=[Aa 27 0,Aa 28 7,AI 29 27 28,Aa 8 29]
def Py:LSO:=[Aa 30 8,o1 31 (.bin .eql (tm 30) (.av (.int .u8 32))),Aa 6 31]
def Px:LSO:=[Aa 33 8,o1 34 (.bin .neq (tm 33) (.av (.int .u8 92))),Aa 32 34]
def Pw:LSO:=[Aa 35 8,BI 36 35,Aa 37 36,.grp none 37 false
 [Ag 38 37 8,og 39 37 false (.call 133 [(.av (.str [34,59,60,62])),(tm 38)]),og 40 37 false (.bin .geq (tm 39) (iv 0))]
 41 (tm 40),Aa 42 41,.grp none 42 false
 [Ag 43 42 5,AH 44 42 43,Bf 45 42 44 0,Ag 46 42 45,.grp (some (42,false)) 46 true
 [Ai 47 46 8,BD 48 46 47,Ai 49 46 48,.grp (some (46,true)) 49 false
 [Ag 50 49 8,og 51 49 false (.bin .eql (tm 50) (.av (.int .u8 35)))]
 52 (tm 51)]
 53 (tm 52)]
 54 (tm 53)]
def Pv:LSO:=[Ao 2,Ao 3,An 4]
def Nk:LSO:=[Aa 56 7,Ah 57 56 1,Aa 58 0,A2 59 58,Ak 60 57 59,Aa 61 60,.grp none 61 true
 [Ai 62 61 0,Ai 63 61 7,Ch 64 61 63 1,Bp 65 61 62 64,og 66 61 true (.call 133 [(.av (.str [34,43,44,59,60,62,92,32,35,61])),(tm 65)]),og 67 61 true (.bin .geq (tm 66) (iv 0))]
 68 (tm 67),Aa 55 68]
def Nj:LSO:=[Aa 69 7,Ah 70 69 1,Aa 7 70]
def Ni:LSO:=[Aa 71 0,Aa 72 7,AI 73 71 72,Aa 8 73]
def Nh:LSO:=[Aa 75 7,Ah 76 75 2,Aa 77 0,A2 78 77,Ak 79 76 78,Aa 74 79]
def Ng:LSO:=[Aa 81 0,Aa 82 7,Ah 83 82 1,Aa 84 7,Ah 85 84 3,BR 86 81 83 85,Aj 87 164 86,Aa 80 87,Aq 88 80,Ar 89 80,Aa 9 88,Aa 10 89]
def Nf:LSO:=[Aa 90 10,AA 91 90]
def Nc:LSO:=[Ao 2,Ao 3,An 4]
def Nb:LSO:=[Aa 92 9,B3 93 92 0,Aa 8 93]
def Na:LSO:=[Aa 94 7,Ah 95 94 2,Aa 7 95]
def M9:LSO:=[Ao 2,Ao 3,An 4]
def M8:LSO:=[Aa 96 5,Aa 97 8,AE 98 97,A9 99 96 98,Aa 5 99]
def M7:LSO:=[Aa 100 7,Ah 101 100 1,Aa 7 101]
def M6:LSO:=[Aa 102 5,AN 103 102,Aa 104 0,Aa 105 7,o1 106 (.slS (tm 104) (some (tm 105)) none),Aa 107 6,AA 108 107,Aa 2 103,Aa 3 106,Aa 4 108]
def Oy:aS:=⟨109,(.seq (.sreg PE [])
 (.seq (.sreg PD [])
 (.seq (.sreg PC [])
 (.seq (.sreg PB [])
 (.seq (.block 0 (.loop (.seq (.seq (.sreg PA Cw)
 (.cond (tm 26) .skip
 (.exit 0)))
 (.block 1 (.seq (.sreg Pz Cr)
 (.seq (.sreg Py Cq)
 (.seq (.block 2 (.seq (.sreg Px Cq)
 (.cond (tm 32) (.seq (.sreg Pw Ct)
 (.cond (tm 54) (.seq (.sreg Pv [])
 .ret)
 .skip))
 (.seq (.sreg Nk Cw)
 (.cond (tm 55) (.seq (.sreg Nj Cq)
 (.sreg Ni Cr))
 (.seq (.sreg Nh Ct)
 (.cond (tm 74) (.seq (.sreg Ng CM)
 (.seq (.seq (.sreg Nf Cp)
 (.cond (tm 91) (.seq (.sreg Nc [])
 .ret)
 .skip))
 (.seq (.sreg Nb Cq)
 (.sreg Na Cq))))
 (.seq (.sreg M9 [])
 .ret))))))))
 (.seq (.sreg M8 Cs)
 (.sreg M7 Cq)))))))))
 (.seq (.sdreg M6 [.pure,(.read 0 0),.pure,.pure,(.read 0 0),.pure,.pure,.pure,.pure] CV)
 .ret)))))),[(.tmp 2),(.tmp 3),(.tmp 4)]⟩
attribute [push_cast] PE PD PC PB PA Pz Py Px Pw Pv Nk Nj Ni Nh Ng Nf Nc Nb Na M9 M8 M7 M6
theorem U5:aT Tryz.prog (fun _ _=>1) 139=some Oy.raw:=by kernel_rfl
def Qp:LSO:=[Ap 2,Ac 3 0]
def Qo:LSO:=[Aa 10 0,A2 11 10,A6 12 11 4096]
def Qn:LSO:=[Ap 2,Ac 3 5]
def Qm:LSO:=[Aa 13 0,BQ 14 13]
def Ql:LSO:=[Ap 2,Ac 3 0]
def Qk:LSO:=[Ap 4]
def Qj:LSO:=[Ap 5]
def Qi:LSO:=[Aa 15 4,Ae 16 15,Au 17 16 32,Aa 18 17,.grp none 18 false
 [Ag 19 18 5,AH 20 18 19,Bf 21 18 20 8]
 22 (tm 21)]
def Qh:LSO:=[Ap 2,Ac 3 9]
def Qg:LSO:=[Aa 24 0,o1 25 (.call 138 [(tm 24),(.av (.str [61]))]),Aa 23 25,Aq 26 23,Ar 27 23,Bh 28 23,Aa 6 26,Aa 7 27,Aa 8 28]
def NY:LSO:=[Aa 29 8,AA 30 29,Aa 31 30,.grp none 31 false
 [Ag 32 31 6,Bx 33 31 92 32,AY 34 31 33]
 35 (tm 34)]
def NX:LSO:=[Ap 2,Ac 3 4]
def NW:LSO:=[Aa 36 5,Aa 37 6,Ay 38 93 36 37]
def NV:LSO:=[Ap 2,Ac 3 21]
def NU:LSO:=[Aa 40 7,Aj 41 139 40,Aa 39 41,Aq 42 39,Ar 43 39,Bh 44 39,Aa 9 42,Aa 7 43,Aa 8 44]
def NT:LSO:=[Aa 45 8,AA 46 45]
def NS:LSO:=[Ap 2,Ac 3 4]
def NR:LSO:=[Aa 47 5,Aa 48 6,Aa 49 9,o1 50 (.build [(.str []),(.str [])] [(0,(1,(tm 48))),(1,(1,(tm 49)))]),BS 51 50,BJ 52 47 51,Aa 5 52]
def NQ:LSO:=[Aa 53 7,BQ 54 53]
def NP:LSO:=[Aa 55 4,Aa 56 5,Be 57 56,Bg 58 55 57,Aa 2 58,Ac 3 0]
def NO:LSO:=[Aa 59 7,B3 60 59 0,o1 61 (.bin .eql (tm 60) (.av (.int .u8 44)))]
def NN:LSO:=[Aa 62 4,Aa 63 5,Be 64 63,Bg 65 62 64,Aa 4 65,Ap 5]
def NM:LSO:=[Aa 66 7,o1 67 (.slS (tm 66) (some (iv 1)) none),Aa 0 67]
def OC:aS:=⟨68,(.seq (.sreg Qp [])
 (.seq (.seq (.sreg Qo Cq)
 (.cond (tm 12) (.seq (.sreg Qn [])
 .ret)
 .skip))
 (.seq (.seq (.sreg Qm Cp)
 (.cond (tm 14) (.seq (.sreg Ql [])
 .ret)
 .skip))
 (.seq (.sreg Qk [])
 (.seq (.sreg Qj [])
 (.block 0 (.loop (.block 1 (.seq (.seq (.sreg Qi Cs)
 (.cond (tm 22) (.seq (.sreg Qh [])
 .ret)
 .skip))
 (.seq (.sreg Qg C8)
 (.seq (.seq (.sreg NY Cr)
 (.cond (tm 35) (.seq (.sreg NX [])
 .ret)
 .skip))
 (.seq (.seq (.sreg NW Cq)
 (.cond (tm 38) (.seq (.sreg NV [])
 .ret)
 .skip))
 (.seq (.sreg NU C8)
 (.seq (.seq (.sreg NT Cp)
 (.cond (tm 46) (.seq (.sreg NS [])
 .ret)
 .skip))
 (.seq (.sreg NR Cu)
 (.seq (.seq (.sreg NQ Cp)
 (.cond (tm 54) (.seq (.sreg NP C6)
 .ret)
 .skip))
 (.seq (.seq (.sreg NO Cq)
 (.cond (tm 61) (.sreg NN C6)
 .skip))
 (.sreg NM Cq)))))))))))))))))),[(.tmp 2),(.tmp 3)]⟩
attribute [push_cast] Qp Qo Qn Qm Ql Qk Qj Qi Qh Qg NY NX NW NV NU NT NS NR NQ NP NO NN NM
theorem U9:aT Tryz.prog (fun _ _=>1) 106=some OC.raw:=by kernel_rfl
def Kw:LSO:=[Ao 2]
def Kv:LSO:=[Ap 3]
def Ku:LSO:=[Aa 7 0,o1 8 (.s2b (tm 7)),Ae 9 8,Ac 10 0]
def Kt:LSO:=[Ak 11 10 9]
def Ks:LSO:=[Aa 12 10,Al 13 1 8 10,Ab 14 1 13,Aa 4 12,Aa 5 14]
def Kr:LSO:=[Aa 15 4,Au 16 15 0,Aa 17 16,.grp none 17 true
 [Ai 18 17 5,BD 19 17 18,Ai 20 17 19,.grp (some (17,true)) 20 false
 [Ag 21 20 5,og 22 20 false (.bin .eql (tm 21) (.av (.int .u8 35)))]
 23 (tm 22)]
 24 (tm 23),Aa 25 24,.grp none 25 false
 [Ag 26 25 4,Ag 27 25 0,Bo 28 25 27,Ci 29 25 28 1,Cd 30 25 26 29,Ag 31 25 30,.grp (some (25,false)) 31 true
 [Ai 32 31 5,BD 33 31 32]
 34 (tm 33)]
 35 (tm 34),Aa 6 35]
def Kq:LSO:=[Aa 37 5,BI 38 37,Aa 36 38]
def Kp:LSO:=[Aa 39 3,o1 40 (.app 1 1 1 [(.int .u8 0)] (tm 39) (.av (.str [92,48,48]))),Aa 3 40]
def Ko:LSO:=[Aa 42 6,Aa 43 42,.grp none 43 false
 [Ag 44 43 5,og 45 43 false (.call 133 [(.av (.str [34,43,44,59,60,62,92])),(tm 44)]),og 46 43 false (.bin .geq (tm 45) (iv 0))]
 47 (tm 46),Aa 41 47]
def Kn:LSO:=[Aa 48 3,o1 49 (.bslice false 1 1 [(.int .u8 0)] [(0,(1,(.av (.int .u8 92))))]),A9 50 48 49,Aa 3 50]
def GI:LSO:=[Aa 51 3,Aa 52 5,AE 53 52,A9 54 51 53,Aa 3 54]
def GH:LSO:=[Ah 55 10 1,Aa 10 55]
def GF:LSO:=[Aa 56 3,AN 57 56,Aa 2 57]
def zt:aS:=⟨58,(.seq (.sreg Kw [])
 (.seq (.sreg Kv [])
 (.seq (.seq (.sreg Ku C4)
 (.block 0 (.loop (.seq (.sreg Kt [])
 (.seq (.cond (tm 11) .skip
 (.exit 0))
 (.seq (.block 1 (.seq (.sreg Ks Cz)
 (.seq (.sreg Kr Cu)
 (.seq (.block 2 (.seq (.sreg Kq Cq)
 (.cond (tm 36) (.seq (.sreg Kp Cq)
 (.exit 1))
 (.seq (.sreg Ko Cr)
 (.cond (tm 41) (.sreg Kn Cr)
 .skip)))))
 (.sreg GI Cs)))))
 (.sreg GH Cp)))))))
 (.seq (.sreg GF Cq)
 .ret)))),[(.tmp 2)]⟩
attribute [push_cast] Kw Kv Ku Kt Ks Kr Kq Kp Ko Kn GI GH GF
theorem SQ:aT Tryz.prog (fun _ _=>1) 96=some zt.raw:=by kernel_rfl
def PY:LSO:=[Ac 2 0]
def PX:LSO:=[Aa 7 0,Ae 8 7,Ac 9 0]
def PW:LSO:=[Ak 10 9 8]
def PV:LSO:=[Aa 11 9,Al 12 1 7 9,Ab 13 1 12,Aa 3 11,Aa 4 13]
def PU:LSO:=[Aa 15 3,Au 16 15 32,Aa 14 16]
def PT:LSO:=[Ac 2 9]
def PS:LSO:=[Aa 18 4,Ae 19 18,Au 20 19 0,Aa 17 20]
def PR:LSO:=[Ac 2 2]
def PQ:LSO:=[Aa 21 4,Ae 22 21,Ac 23 0]
def PP:LSO:=[Ak 24 23 22]
def NA:LSO:=[Aa 25 23,Al 26 2 21 23,As 27 2 26,Bq 6,Aa 5 25,Af 2 6 27]
def Nz:LSO:=[Aa 29 5,Au 30 29 8,Aa 28 30]
def Ny:LSO:=[Ac 2 9]
def Nw:LSO:=[Ad 32 0 6,Ab 33 1 32,Aj 34 92 33,AA 35 34,Aa 31 35]
def Nv:LSO:=[Ac 2 20]
def Nu:LSO:=[Aa 37 4,Aa 38 5,Cj 39 37 38,Ad 40 0 6,Ab 41 1 40,Ay 42 93 39 41,Aa 36 42]
def Nt:LSO:=[Ac 2 21]
def Nr:LSO:=[Ah 43 23 1,Aa 23 43]
def Nq:LSO:=[Ah 44 9 1,Aa 9 44]
def Np:LSO:=[Ac 2 0]
def OA:aS:=⟨45,(.seq (.sreg PY [])
 (.seq (.seq (.sreg PX [])
 (.block 0 (.loop (.seq (.sreg PW [])
 (.seq (.cond (tm 10) .skip
 (.exit 0))
 (.seq (.block 1 (.seq (.sreg PV Cz)
 (.seq (.block 2 (.seq (.sreg PU Cq)
 (.cond (tm 14) (.seq (.sreg PT [])
 .ret)
 (.seq (.sreg PS Cr)
 (.cond (tm 17) (.seq (.sreg PR [])
 .ret)
 .skip)))))
 (.seq (.sreg PQ [])
 (.block 3 (.loop (.seq (.sreg PP [])
 (.seq (.cond (tm 24) .skip
 (.exit 3))
 (.seq (.block 4 (.seq (.sreg NA Cz)
 (.block 5 (.seq (.sreg Nz Cq)
 (.cond (tm 28) (.seq (.sreg Ny [])
 .ret)
 (.seq (.sreg Nw Cs)
 (.cond (tm 31) (.seq (.sreg Nv [])
 .ret)
 (.seq (.sdreg Nu [.pure,.pure,(.read 0 0),.pure,(.read 0 0)] Cu)
 (.cond (tm 36) (.seq (.sreg Nt [])
 .ret)
 .skip)))))))))
 (.sreg Nr Cp))))))))))
 (.sreg Nq Cp)))))))
 (.seq (.sreg Np [])
 .ret))),[(.tmp 2)]⟩
attribute [push_cast] PY PX PW PV PU PT PS PR PQ PP NA Nz Ny Nw Nv Nu Nt Nr Nq Np
theorem U7:aT Tryz.prog (fun _ _=>1) 56=some OA.raw:=by kernel_rfl
def Qf:LSO:=[Ao 2,Ac 3 0]
def Qe:LSO:=[Aa 11 0,Aj 12 56 11,Aa 4 12]
def Qd:LSO:=[Aa 13 4,A0 14 13 0]
def Qc:LSO:=[Aa 15 4,Ao 2,Aa 3 15]
def Qb:LSO:=[Ac 5 0]
def Qa:LSO:=[Aa 16 0,Ae 17 16,Ac 18 0]
def P9:LSO:=[Ak 19 18 17]
def P8:LSO:=[Al 20 1 16 18,Ab 21 1 20,Aa 7 21]
def P7:LSO:=[Aa 22 7,Ae 23 22,Ac 24 0]
def P6:LSO:=[Ak 25 24 23]
def NL:LSO:=[Al 26 2 22 24,As 27 2 26,Bq 9,Af 2 9 27]
def NJ:LSO:=[Ad 28 1 9,Ab 29 1 28,A2 30 29,A6 31 30 4096]
def NI:LSO:=[Ao 2,Ac 3 5]
def NH:LSO:=[Aa 32 5,Ah 33 32 1,Aa 5 33]
def NG:LSO:=[Ah 34 24 1,Aa 24 34]
def NF:LSO:=[Ah 35 18 1,Aa 18 35]
def NE:LSO:=[Aa 36 0,o1 37 (.call 57 [(tm 36),(.av (.bool false))]),Aa 10 37]
def ND:LSO:=[Aa 38 10,A2 39 38,A6 40 39 4096]
def NC:LSO:=[Ao 2,Ac 3 5]
def NB:LSO:=[Aa 41 10,Aa 2 41,Ac 3 0]
def OB:aS:=⟨42,(.seq (.sreg Qf [])
 (.seq (.seq (.sreg Qe Cq)
 (.seq (.sreg Qd Cp)
 (.cond (tm 14) (.seq (.sreg Qc Cv)
 .ret)
 .skip)))
 (.seq (.sreg Qb [])
 (.seq (.seq (.sreg Qa [])
 (.block 0 (.loop (.seq (.sreg P9 [])
 (.seq (.cond (tm 19) .skip
 (.exit 0))
 (.seq (.block 1 (.seq (.sreg P8 Cq)
 (.seq (.sreg P7 [])
 (.block 2 (.loop (.seq (.sreg P6 [])
 (.seq (.cond (tm 25) .skip
 (.exit 2))
 (.seq (.block 3 (.seq (.sreg NL Cq)
 (.seq (.seq (.sreg NJ Cr)
 (.cond (tm 31) (.seq (.sreg NI [])
 .ret)
 .skip))
 (.sreg NH Cq))))
 (.sreg NG Cp)))))))))
 (.sreg NF Cp)))))))
 (.seq (.sreg NE Cq)
 (.seq (.seq (.sreg ND Cq)
 (.cond (tm 40) (.seq (.sreg NC [])
 .ret)
 .skip))
 (.seq (.sreg NB Cv)
 .ret))))))),[(.tmp 2),(.tmp 3)]⟩
attribute [push_cast] Qf Qe Qd Qc Qb Qa P9 P8 P7 P6 NL NJ NI NH NG NF NE ND NC NB
theorem U8:aT Tryz.prog (fun _ _=>1) 27=some OB.raw:=by kernel_rfl
def R7:LSO:=[Ao 2,Ac 3 0]
def R6:LSO:=[Aa 7 0,Aj 8 27 7,Aa 6 8,Aq 9 6,Ar 10 6,Aa 4 9,Aa 5 10]
def R5:LSO:=[Aa 11 5,A0 12 11 0]
def R4:LSO:=[Aa 13 5,Ao 2,Aa 3 13]
def R3:LSO:=[Aa 14 0,o1 15 (.call 57 [(tm 14),(.av (.bool true))]),Aa 2 15,Ac 3 0]
def Rl:aS:=⟨16,(.seq (.sreg R7 [])
 (.seq (.seq (.sreg R6 Cu)
 (.seq (.sreg R5 Cp)
 (.cond (tm 12) (.seq (.sreg R4 Cv)
 .ret)
 .skip)))
 (.seq (.sreg R3 C2)
 .ret))),[(.tmp 2),(.tmp 3)]⟩
attribute [push_cast] R7 R6 R5 R4 R3
theorem WJ:aT Tryz.prog (fun _ _=>1) 44=some Rl.raw:=by kernel_rfl
def df:LSO:=[An 4]
def de:LSO:=[Aa 5 0,Aa 6 1,Ay 7 151 5 6,Bc 8 7 0,Aa 4 8]
def cj:aS:=⟨9,(.seq (.sreg df [])
 (.seq (.sreg de Cs)
 .ret)),[(.tmp 4)]⟩
attribute [push_cast] df de
theorem gI:aT Tryz.prog (fun _ _=>1) 131=some cj.raw:=by kernel_rfl
def dC:LSO:=[Ac 4 0]
def dB:LSO:=[Aa 6 0,Ae 7 6,Ac 8 0]
def dA:LSO:=[Ak 9 8 7]
def dz:LSO:=[Aa 10 8,Aa 5 10]
def dy:LSO:=[Aa 11 1,Aa 12 0,Aa 13 5,Al 14 2 12 13,As 15 2 14,BO 16 11 15]
def dx:LSO:=[Aa 17 5,Aa 4 17]
def dw:LSO:=[Ah 18 8 1,Aa 8 18]
def dv:LSO:=[Ac 4 (-1)]
def cF:aS:=⟨19,(.seq (.sreg dC [])
 (.seq (.seq (.sreg dB Cv)
 (.block 0 (.loop (.seq (.sreg dA [])
 (.seq (.cond (tm 9) .skip
 (.exit 0))
 (.seq (.block 1 (.seq (.sreg dz Cp)
 (.seq (.sreg dy Ct)
 (.cond (tm 16) (.seq (.sreg dx Cp)
 .ret)
 .skip))))
 (.sreg dw Cp)))))))
 (.seq (.sreg dv [])
 .ret))),[(.tmp 4)]⟩
attribute [push_cast] dC dB dA dz dy dx dw dv
theorem ia:aT Tryz.prog (fun _ _=>1) 151=some cF.raw:=by kernel_rfl
def zH:LSO:=[Ao 4,Ao 5,An 6]
def zG:LSO:=[Aa 7 0,Aa 8 1,Ay 9 163 7 8,Aq 10 9,Ar 11 9,Bh 12 9,Aa 4 10,Aa 5 11,Aa 6 12]
def jI:aS:=⟨13,(.seq (.sreg zH [])
 (.seq (.sreg zG C8)
 .ret)),[(.tmp 4),(.tmp 5),(.tmp 6)]⟩
attribute [push_cast] zH zG
theorem yH:aT Tryz.prog (fun _ _=>1) 138=some jI.raw:=by kernel_rfl
def gw:LSO:=[Ao 4,Ao 5,An 6]
def gu:LSO:=[Aa 8 0,Aa 9 1,Ay 10 175 8 9,Aa 7 10]
def gr:LSO:=[Aa 11 7,Bc 12 11 0]
def gq:LSO:=[Aa 13 0,Aa 14 7,o1 15 (.slS (tm 13) none (some (tm 14))),Aa 16 0,Aa 17 7,Aa 18 1,A2 19 18,AK 20 17 19,
 o1 21 (.slS (tm 16) (some (tm 20)) none),Aa 4 15,Aa 5 21,AC 6]
def gp:LSO:=[Aa 22 0,Aa 4 22,Ao 5,An 6]
def cg:aS:=⟨23,(.seq (.sreg gw [])
 (.seq (.seq (.sreg gu Cr)
 (.seq (.sreg gr Cp)
 (.cond (tm 12) (.seq (.sdreg gq [.pure,.pure,(.read 0 0),.pure,.pure,.pure,(.read 0 0),.pure,(.read 0 0),.pure] [true,true,true,false,false,false,false,false,false,false,false,false])
 .ret)
 .skip)))
 (.seq (.sreg gp C4)
 .ret))),[(.tmp 4),(.tmp 5),(.tmp 6)]⟩
attribute [push_cast] gw gu gr gq gp
theorem gb:aT Tryz.prog (fun _ _=>1) 163=some cg.raw:=by kernel_rfl
attribute [push_cast] KT UH Oy zt OA OB Rl cj cF jI
set_option maxHeartbeats 8000000
set_option maxRecDepth 100000
theorem Yk {n:Int} (h0 : -2147483648<=n) (h1:n<2147483648):IntKind.i32.wrap n=n:=by
 simp only [IntKind.wrap,IntKind.bits,IntKind.signed];simp;omega
theorem Zk {s:List UInt8} {p:Nat} (h:p<s.length) (ha:(s.getD p 0).toNat<128):Uo s p=((s.getD p 0).toNat,1):=by
 have e:s.getD p 0=s[p]:=by simp [h]
 rw [e] at ha ⊢;exact decode_ascii ⟨⟨s⟩⟩ p h ha
theorem aby {s:List UInt8} {p:Nat} (h:p<s.length) (ha:128<=(s.getD p 0).toNat):128<=(Uo s p).1:=by
 have e:s.getD p 0=s[p]:=by simp [h]
 rw [e] at ha;exact (decode_high ⟨⟨s⟩⟩ p h ha).1
def oj (x:Int):Bool:=(decide (97<=x) && decide (x<=122)) || (decide (65<=x) && decide (x<=90))
theorem oh {x:Int} {L:List Blk} {K:afC} (h:K (.bool (oj x)) L):afB 130 [.int .i32 x] L K:=by
 refine acg UG ?_
 all_goals (first|refine ab rfl (Kto h ?_)|refine af (Kto h ?_)|refine ab (by simp only [AV.refs,AV.refsL, *];rfl) (Kto h ?_)|refine ay (ab rfl (Kto h ?_))|(trace_state;fail))
 all_goals (first|(simp [oj, *];done)|(simp [oj, *];omega)|(simp [oj, *];intros;omega)|(simp_all [Hid,oj];done)|(simp_all [Hid,oj];omega))
def OJ (x:Int):Bool:=oj x || (decide (48<=x) && decide (x<=57)) || decide (x=45)
def ku (s:List UInt8):Bool:=decide (1<=s.length) && decide (s.length<=32) && oj ((s.getD 0 0).toNat:Int) && s.all fun c=>OJ (c.toNat:Int)
theorem Vf {x:Int} (h:128<=x):OJ x=false:=by
 simp only [OJ,oj,ajw,aj9,decide_eq_false_iff_not];omega
theorem Yp {s:List UInt8} {L:List Blk} {K:afC} (h:K (.bool (ku s)) L):afB 92 [.str s] L K:=by
 have no:ku s=false->K (.bool false) L:=fun e=>by rw [<- e];exact h
 replace no:=hid no;replace h:=hid h;refine aa WI (by simp [Rk]) ?_;simp only [Rk,ag];by_cases h0:s=[]
 ·subst h0;refine wk ?_;exact af (no.out rfl)
 have hlen:0<s.length:=ah8.2 h0;by_cases h1:(32:Int)<(s.length:Int)
 ·refine wk ?_;exact af (no.out (by simp [ku];omega))
 obtain ⟨c0,hc0⟩:=aaR (s.getD 0 0);have hr:=c0.toNat_lt;have w0:IntKind.i32.wrap (c0.toNat:Int)=(c0.toNat:Int):=Yk (by omega) (by omega);cases hl0:oj (c0.toNat:Int) with
 | false =>
   have kk1:=@hid _ @oh;refine wk ?_;refine af (no.out ?_);simp only [ku,hc0,hl0,ajI,aiC]
 | true =>
   have kk1:=@hid _ @oh;refine wk ?_;refine ah (fun n T' L'=>∃ p,n=s.length - p/\p<=s.length/\Hid (∀ c∈s.take p,OJ (c.toNat:Int)=true)/\T'=[(20,.ptr L.length 0)]/\L'=L++[.siter s p]) (CutS (b:=by simp)) ⟨0,rfl,ahp _,hid (by simp),rfl,rfl⟩ ?_;rintro _ _ _ ⟨p,rfl,hp,hall,rfl,rfl⟩;by_cases hlt:p<s.length
   ·obtain ⟨c,hc⟩:=aaR (s.getD p 0);have hmem:c∈s:=by rw [<- hc];simp [hlt]
    have htk:s.take (p+1)=s.take p++[c]:=by rw [ahK hlt,<- hc];simp [hlt]
    replace htk:=hid htk;have bad:OJ (c.toNat:Int)=false->K (.bool false) L:=fun e=>no.out (by
     have:(s.all fun c=>OJ (c.toNat:Int))=false:=List.all_eq_false.2 ⟨c,hmem,by rw [e];simp⟩;simp only [ku,this,ajI])
    replace bad:=hid bad;by_cases ha:c.toNat<128
    ·have hd:=Zk hlt (by rw [hc];exact ha);rw [hc] at hd;obtain ⟨x,hx⟩:∃ x:Nat,c.toNat=x:=⟨_,rfl⟩;rw [hx] at hd bad;have hx':=hid hx;clear hx hc hmem ha hr w0;cases hxl:oj (x:Int) with
     | true =>
       have kk1:=@hid _ @oh;refine wk ?_;refine aq _ _ _ (by omega) (CutS (b:=by simp)) ⟨p+1,rfl,hlt,hid fun d hd'=>?_,rfl,rfl⟩;rw [htk.out] at hd';rcases ahr.1 hd' with h|h
       ·exact hall.out d h
       ·rw [ahI.1 h,hx'.out,OJ,hxl];rfl
     | false =>
       repeat' first
        | refine cP ?_
        | (first|refine bY (by kernel_rfl) ?_|refine bj (by kernel_rfl) ?_|refine bm ?_|refine fy ?_|refine cT (fun _=>?_)|refine a8 ?_|refine b9 ?_|refine oh ?_|refine cA (oh ⟨rfl,rfl⟩) (oh ⟨rfl,rfl⟩) ?_|refine bf (oh ⟨rfl,rfl⟩) ?_)
          refine sm ?_
        | (first|refine bU (by kernel_rfl) ?_|refine bT ?_|refine bZ ?_|refine cY (a7 ?_))
          refine sl ?_
        | exact cU
        | first|apply cV|apply bV|apply cW|apply bW|apply cX|apply bX
        | refine br ?_
        | first|refine bp rfl ?_|refine bq rfl ?_|refine aW rfl ?_ ?_|refine bz rfl (fun _=>?_) (fun _=>?_)|refine bw rfl (fun _=>?_) (fun _=>?_)
        | ((first|refine aV (fun _=>?_) (fun _=>?_)|refine a6 (fun _=>?_) (fun _=>?_))<;>try refine sm ?_)
        | refine And.intro trivial ?_
        | refine And.intro (by omega) ?_
        | refine bA rfl (fun _=>?_) (fun _=>?_)
        | refine And.intro ?_ ?_
       ·rename_i hb
        refine ab rfl (bad.out ?_);simp only [OJ,hxl,ai3,ajw,aj9,decide_eq_false_iff_not];omega
       ·rename_i hb
        refine aq _ _ _ (by omega) (CutS (b:=by simp)) ⟨p+1,rfl,hlt,hid fun d hd'=>?_,rfl,rfl⟩;rw [htk.out] at hd';rcases ahr.1 hd' with h|h
        ·exact hall.out d h
        ·rw [ahI.1 h,hx'.out];simp only [OJ,hxl,ai3,aic,aht,decide_eq_true_eq];omega
    ·have hh:=aby hlt (by rw [hc];omega);obtain ⟨⟨x,wd⟩,hd⟩:∃ q,Uo s p=q:=⟨_,rfl⟩;rw [hd] at hh;simp only at hh;have bad':=hid (bad.out (Vf (show (128:Int)<=(c.toNat:Int) by omega)));have hxl:oj (x:Int)=false:=by
      have:=Vf (show (128:Int)<=(x:Int) by omega);simp only [OJ,ajw] at this;exact this.1.1
     have f1:¬ (x:Int)<48:=by omega
     have f2:(57:Int)<(x:Int):=by omega
     have f3:¬ (x:Int)=45:=by omega
     clear hc hmem hr w0;have kk1:=@hid _ @oh;refine wk ?_;exact ab rfl bad'.out
   ·have hke:p=s.length:=by omega
    subst hke;have h':=h.out;have e:ku s=true:=by
     have e1:(s.all fun c=>OJ (c.toNat:Int))=true:=ahC.2 fun c hcm=>hall.out c (by rw [ahA];exact hcm)
     simp only [ku,e1,hc0,hl0,ajd];simp;omega
    rw [e] at h';replace h':=hid h';clear e;refine wk ?_;exact ab rfl h'.out
variable {L:List Blk} {K:afC}
abbrev Ava:=List UInt8×List UInt8
def oC (a:Ava):List AV:=[.str a.1,.str a.2]
def aN (r:List Ava):List AV:=r.flatMap oC
abbrev YD (r:List Ava) (cap:Option Nat):AV:=.sl (aN r) r.length cap
def lH (r:List Ava) (typ:List UInt8):Bool:=r.any fun a=>decide (aH a.1=aH typ)
theorem afZ {a:Ava} {typ:List UInt8} {ip:Nat} (h1:(a.1.length:Int)<=100000) (h2:(typ.length:Int)<=100000) (hL:L[ip]?=some (.cells [.str typ])) (h:K (.bool (decide (aH a.1=aH typ))) L) :
  afB 132 [.agg (oC a),.ptr ip 0] L K:=by
 obtain ⟨t,v⟩:=a;replace h:=hid h;have hip:ip<L.length:=(ahm.1 hL).1;have g1:(L++[Blk.cells [.str t,.str v]])[ip]?=some (.cells [.str typ]):=by rw [ahq hip];exact hL
 simp only [oC];refine aa U6 (by simp [Oz]) ?_;simp only [Oz,ag];have kk1:=@hid _ (fun L K=>KE h1 (L:=L) (K:=K));have kk2:=@hid _ (fun L K=>KE h2 (L:=L) (K:=K));refine wk ?_;exact ab rfl h.out
theorem cr (r:List Ava):(aN r).length=r.length * 2:=by
 induction r with
 | nil=>rfl
 | cons a r ih=>simp only [aN,ahY,ahy,oC,ahD,ahZ] at ih ⊢;omega
theorem fW:∀ {r:List Ava} {k:Nat},k<r.length->((aN r).drop (k * 2)).take 2=oC (r.getD k ([],[]))
 | a::r,0,_=>rfl
 | a::r,k+1,h=>by
   have ih:=@fW r k (by simpa using h);rw [show (k+1) * 2=k * 2+1+1 by omega];simpa [aN,oC] using ih
theorem ac8 {r:List Ava} {typ:List UInt8} {cap:Option Nat} {ip:Nat} (hn:r.length<=100000) (h1:∀ a∈r,(a.1.length:Int)<=100000) (h2:(typ.length:Int)<=100000) (hL:L[ip]?=some (.cells [.str typ]))
  (hno:lH r typ=false->K (.int .i64 (-1)) L) (hyes:∀ k:Nat,lH r typ=true->K (.int .i64 k) L):afB 151 [YD r cap,.func 132 [.ptr ip 0]] L K:=by
 replace hno:=hid hno;replace hyes:=hid hyes;replace h1:=hid h1;refine acg ia ?_;refine ah (fun n T' L'=>∃ (k:Nat),n=r.length - k/\k<=r.length/\Hid (lH (r.take k) typ=false)/\T'=[(8,.int .i64 (k:Int)),(7,.int .i64 r.length),(0,YD r cap),(1,.func 132 [.ptr ip 0])]/\L=L') (CutS (b:=ahn _)) ⟨0,rfl,ahp _,hid rfl,rfl,rfl⟩ ?_;rintro _ _ _ ⟨k,rfl,hk,hf,rfl,rfl⟩;by_cases hlt:k<r.length
 ·have g1:(k:Int)<(r.length:Int):=by omega
  have g2:=ace k (by omega);have e1:=fW hlt;have e2:k * 2+2<=(aN r).length:=by rw [cr];omega
  obtain ⟨a,ha⟩:=aaR (r.getD k ([],[]));have ham:a∈r:=by rw [<- ha];simp [hlt]
  have htk:r.take (k+1)=r.take k++[a]:=by rw [ahK hlt,<- ha];simp [hlt]
  rw [ha] at e1;have hs:lH (r.take (k+1)) typ=decide (aH a.1=aH typ):=by
   have:=hf.out;simp only [lH] at this ⊢;rw [htk,ajM,this];simp
  have hall:decide (aH a.1=aH typ)=true->lH r typ=true:=fun e=>aiY.2 ⟨a,ham,e⟩
  replace hall:=hid hall;replace hs:=hid hs;replace htk:=hid htk;have ha1:=hid (h1.out a ham);clear ha ham;refine wk ?_;refine afZ ha1.out h2 hL ?_;refine sk ?_;cases hd:decide (aH a.1=aH typ) with
  | true =>
    have hy:=hid (hyes.out k (hall.out hd));replace hd:=hid hd;refine wk ?_;exact af hy.out
  | false =>
    replace hd:=hid hd;refine wk ?_;exact aq _ _ _ (by omega) (CutS (b:=ahn _)) ⟨k+1,rfl,hlt,hid (by rw [hs.out,hd.out]),rfl,rfl⟩
 ·have hke:k=r.length:=by omega
  subst hke;have g1:¬ (r.length:Int)<(r.length:Int):=by omega
  have hn':=hf.out;rw [ahA] at hn';have hy:=hid (hno.out hn');clear hn';refine wk ?_;exact af hy.out
theorem X4 {r:List Ava} {typ:List UInt8} {cap:Option Nat} {ip:Nat} (hn:r.length<=100000) (h1:∀ a∈r,(a.1.length:Int)<=100000) (h2:(typ.length:Int)<=100000) (hL:L[ip]?=some (.cells [.str typ])) (h:K (.bool (lH r typ)) L) :
  afB 131 [YD r cap,.func 132 [.ptr ip 0]] L K:=by
 replace h:=hid h;refine acg gI ?_;refine ac8 hn h1 h2 hL (fun e=>?_) (fun k e=>?_)
 ·have h':=h.out;rw [e] at h';replace h':=hid h';refine sk ?_;refine wk ?_;exact af h'.out
 ·have h':=h.out;rw [e] at h';replace h':=hid h';have g:(0:Int)<=(k:Int):=by omega
  refine sk ?_;refine wk ?_;exact af h'.out
theorem afl {r:List Ava} {typ:List UInt8} {cap:Option Nat} (hn:r.length<=100000) (h1:∀ a∈r,(a.1.length:Int)<=100000) (h2:(typ.length:Int)<=100000) (h:K (.bool (lH r typ)) L) :
  afB 93 [YD r cap,.str typ] L K:=by
 replace h:=hid h;refine acg X5 ?_;refine X4 hn h1 h2 (by simp) ?_;refine sk ?_;refine wk ?_;exact ab rfl h.out
theorem gC {a:List UInt8} {c:UInt8} {L:List Blk} {K:afC} (h:K (.int .i64 (Lib.indexByte a c)) L):afB 133 [.str a,.int .u8 c.toNat] L K :=
 mL Tryz.func133 rfl (by kernel_rfl) (fun w0 S0 E w vs hR hv=>by
  simp only [VRL,VR] at hv;obtain ⟨_,_,rfl,rfl,_,_,rfl,rfl,rfl⟩:=hv;exact (Tryz.strings_IndexByte ⟨⟨a⟩⟩ c.toNat w).mono fun e w' ⟨he,hw⟩=>⟨_,he,by simp [VR],by subst hw;exact Vc.refl _⟩) h
theorem qp (a:List UInt8) (c:UInt8):(0<=Lib.indexByte a c)↔c∈a:=by
 induction a with
 | nil=>simp [Lib.indexByte]
 | cons b l ih =>
   have hge:=Lib.indexByte_ge l c;unfold Lib.indexByte;by_cases hb:b=c
   ·simp [hb]
   ·have e1:(b == c)=false:=by simpa using hb
    rw [e1];simp only [ahJ,if_false];have e2:c∈b::l↔c∈l:=by simp [Ne.symm hb]
    rw [e2,<- ih];split
    ·rename_i h;simp at h;omega
    ·rename_i h;simp at h;omega
theorem bF (c d:UInt8):(c.toNat:Int)=(d.toNat:Int)↔c=d:=by
 constructor
 ·intro h;exact ajh.1 (by omega)
 ·rintro rfl;rfl
def wrB (i n:Nat) (c:UInt8):List UInt8 :=
 if c=0 then [92,48,48] else if (i=0/\(c=32\/c=35))\/(i+1=n/\c=32)\/c∈[34,43,44,59,60,62,92] then [92,c] else [c]
def wrL (n:Nat):Nat->List UInt8->List UInt8
 | _,[]=>[]
 | i,c::s=>wrB i n c++wrL n (i+1) s
def fY (s:List UInt8):List UInt8:=wrL s.length 0 s
theorem adW (i n:Nat) (c:UInt8):(wrB i n c).length<=3:=by
 unfold wrB;split
 ·simp
 ·split<;>simp
theorem gE {s:List UInt8} (hs:s.length<=100000) (h:K (.str (fY s)) L):afB 96 [.str s] L K:=by
 replace h:=hid h;have g0:IntKind.i64.wrap ((s.length:Int) - 1)=(s.length:Int) - 1:=ac (by omega) (by omega);refine acg SQ ?_;refine bi (l:=[]) (n:=0) 3 1 rfl (ahQ 1).symm ?_;refine ah (fun n T' L'=>∃ (i m:Nat) (b:List UInt8),n=s.length - i/\i<=s.length/\m<=3 * i/\Hid (m=b.length/\b++wrL s.length i (s.drop i)=fY s)/\T'=[(10,.int .i64 (i:Int)),(9,.int .i64 s.length),(8,.sl (u8s s) s.length none),(3,.gsl (u8s b) m L.length 1),(0,.str s)]/\L'=L++[.spare m 1]) (CutS (b:=by simp)) ⟨0,0,[],rfl,ahp _,by omega,hid ⟨rfl,rfl⟩,rfl,rfl⟩ ?_;rintro _ _ _ ⟨i,m,b,rfl,hi,hm,hb,rfl,rfl⟩;by_cases hlt:i<s.length
 ·have g1:(i:Int)<(s.length:Int):=by omega
  have g2:=ace i (by omega);obtain ⟨c,hc⟩:=aaR (s.getD i 0);have g3:(u8s s).getD i .undef=.int .u8 c.toNat:=by rw [<- hc];simp [u8s,hlt]
  have hdr:s.drop i=c::s.drop (i+1):=by rw [ah2 hlt,<- hc];simp [hlt]
  have hb2:=hb.out.2;rw [hdr] at hb2;simp only [wrL] at hb2;have g4:=kH;have g5:(u8s s).length=s.length:=by simp [u8s]
  clear hc hdr;replace hb2:=hid hb2
  repeat' first
   | refine cP ?_
   | (first|refine bY (by kernel_rfl) ?_|refine bj (by kernel_rfl) ?_|refine bm ?_|refine fy ?_|refine cT (fun _=>?_)|refine a8 ?_|refine b9 ?_|refine gC ?_|refine cA (gC ⟨rfl,rfl⟩) (gC ⟨rfl,rfl⟩) ?_|refine bf (gC ⟨rfl,rfl⟩) ?_)
     refine sm ?_
   | (first|refine bU (by kernel_rfl) ?_|refine bT ?_|refine bZ ?_|refine cY (a7 ?_))
     refine sl ?_
   | exact cU
   | first|apply cV|apply bV|apply cW|apply bW|apply cX|apply bX
   | refine br ?_
   | first|refine bp rfl ?_|refine bq rfl ?_|refine aW rfl ?_ ?_|refine bz rfl (fun _=>?_) (fun _=>?_)|refine bw rfl (fun _=>?_) (fun _=>?_)
   | ((first|refine aV (fun _=>?_) (fun _=>?_)|refine a6 (fun _=>?_) (fun _=>?_))<;>try refine sm ?_)
   | refine And.intro trivial ?_
   | refine And.intro (by omega) ?_
   | refine bA rfl (fun _=>?_) (fun _=>?_)
   | refine And.intro ?_ ?_
  ·rfl
  ·omega
  ·rename_i h0
   have hc0:=(bF c 0).1 h0;rw [show u8s b++AV.frzL (u8s [92,48,48])=u8s (b++[92,48,48]) by simp [u8s,AV.frzL,AV.frz]];refine aq _ _ _ (by omega) (CutL (b:=by simp)) ⟨i+1,m+3,b++[92,48,48],rfl,hlt,by omega,hid ⟨by simp [hb.out.1],?_⟩,rfl,rfl⟩;rw [<- hb2.out,wrB,if_pos hc0,ahz]
  ·rename_i h0 h1
   have hc0:¬ c=0:=fun e=>h0 ((bF c 0).2 e)
   have hq:(i=0/\(c=32\/c=35))\/(i+1=s.length/\c=32)\/c∈[34,43,44,59,60,62,92]:=by
    rcases h1 with (⟨e1,e2⟩|⟨e1,e2⟩)|e
    ·exact .inl ⟨by omega,e2.imp (bF c 32).1 (bF c 35).1⟩
    ·exact .inr (.inl ⟨by omega,(bF c 32).1 e2⟩)
    ·exact .inr (.inr ((qp _ _).1 e))
   rw [show u8s b++[AV.int IntKind.u8 92,AV.int IntKind.u8 (c.toNat:Int)]=u8s (b++[92,c]) by simp [u8s]];refine aq _ _ _ (by omega) (CutL (b:=by simp)) ⟨i+1,m+1+1,b++[92,c],rfl,hlt,by omega,hid ⟨by simp [hb.out.1],?_⟩,rfl,rfl⟩;rw [<- hb2.out,wrB,if_neg hc0,if_pos hq,ahz]
  ·rename_i h0 h1
   have hc0:¬ c=0:=fun e=>h0 ((bF c 0).2 e)
   have hq:¬ ((i=0/\(c=32\/c=35))\/(i+1=s.length/\c=32)\/c∈[34,43,44,59,60,62,92]):=fun hq=>h1 (by
    rcases hq with ⟨e1,e2⟩|⟨e1,e2⟩|e
    ·exact .inl (.inl ⟨by omega,e2.imp (bF c 32).2 (bF c 35).2⟩)
    ·exact .inl (.inr ⟨by omega,(bF c 32).2 e2⟩)
    ·exact .inr ((qp _ _).2 e))
   rw [show u8s b++[AV.int IntKind.u8 (c.toNat:Int)]=u8s (b++[c]) by simp [u8s]];refine aq _ _ _ (by omega) (CutL (b:=by simp)) ⟨i+1,m+1,b++[c],rfl,hlt,by omega,hid ⟨by simp [hb.out.1],?_⟩,rfl,rfl⟩;rw [<- hb2.out,wrB,if_neg hc0,if_neg hq,ahz]
 ·have hke:i=s.length:=by omega
  subst hke;have g1:¬ (s.length:Int)<(s.length:Int):=by omega
  have e1:=kH b;have e2:=iR b;have e:=hb.out.2;rw [aij,wrL,ahO] at e;have h':=h.out;rw [<- e] at h';replace h':=hid h';clear e;refine wk ?_;exact ab rfl h'.out
abbrev qr:List UInt8:=[34,43,44,59,60,62,92,32,35,61]
def gK:List UInt8->Bool->List UInt8->Option (List UInt8×List UInt8×Bool)
 | b,bl,[]=>some (b,[], !bl)
 | b,bl,c::s=>if c=44\/c=43 then some (b,c::s, !bl)
   else if c≠92 then (if c=0\/c∈([34,59,60,62]:List UInt8)\/(b=[]/\(c=32\/c=35)) then none else gK (b++[c]) (decide (c=32)) s)
   else match s with
    | []=>none
    | d::s1=>if d∈qr then gK (b++[d]) false s1 else match s1 with
      | []=>none
      | e::s2=>match QB d e with
        | none=>none
        | some x=>gK (b++[x]) false s2
def aau (o:Option (List UInt8×List UInt8×Bool)):AV:=match o with
 | none=>.tup [.str [],.str [],.bool false]
 | some (v,r,f)=>.tup [.str v,.str r,.bool f]
theorem mT {b:List UInt8} {bl:Bool}:gK b bl []=some (b,[], !bl):=by rw [gK.eq_def]
theorem qm {b:List UInt8} {bl:Bool} {c:UInt8} {s:List UInt8} (h:c=44\/c=43):gK b bl (c::s)=some (b,c::s, !bl):=by rw [gK.eq_def];simp only [if_pos h]
theorem mt {b:List UInt8} {bl:Bool} {c:UInt8} {s:List UInt8} (h:¬ (c=44\/c=43)) (h2:c≠92):gK b bl (c::s)=if c=0\/c∈([34,59,60,62]:List UInt8)\/(b=[]/\(c=32\/c=35)) then none else gK (b++[c]) (decide (c=32)) s:=by
 rw [gK.eq_def];simp only [if_neg h,if_pos h2]
theorem K0 {b:List UInt8} {bl:Bool}:gK b bl [92]=none:=by rw [gK.eq_def];rfl
theorem uP {b:List UInt8} {bl:Bool} {d:UInt8} {s:List UInt8} (h:d∈qr):gK b bl (92::d::s)=gK (b++[d]) false s:=by
 rw [gK.eq_def];simp only [show ¬ ((92:UInt8)=44\/(92:UInt8)=43) by decide,if_false,ne_eq,not_true_eq_false,if_pos h]
theorem KZ {b:List UInt8} {bl:Bool} {d:UInt8} (h:¬ d∈qr):gK b bl [92,d]=none:=by
 rw [gK.eq_def];simp only [show ¬ ((92:UInt8)=44\/(92:UInt8)=43) by decide,if_false,ne_eq,not_true_eq_false,if_neg h]
theorem GY {b:List UInt8} {bl:Bool} {d e:UInt8} {s:List UInt8} (h:¬ d∈qr):gK b bl (92::d::e::s)=match QB d e with|none=>none|some x=>gK (b++[x]) false s:=by
 rw [gK.eq_def];simp only [show ¬ ((92:UInt8)=44\/(92:UInt8)=43) by decide,if_false,ne_eq,not_true_eq_false,if_neg h]
theorem KG {s:List UInt8} {i:Nat} (h:i<s.length):s.drop i=s.getD i 0::s.drop (i+1):=by
 rw [ah2 h];simp [h]
theorem adZ {s:List UInt8} (hs:s.length<=100000) (h:K (aau (gK [] false s)) L):afB 139 [.str s] L K:=by
 replace h:=hid h;refine acg U5 ?_;refine bi (l:=[]) (n:=0) 5 1 rfl (ahQ 1).symm ?_;refine ah (fun n T' L'=>∃ (i m:Nat) (b:List UInt8) (bl:Bool),n=s.length - i/\i<=s.length/\m<=i/\Hid (m=b.length/\gK b bl (s.drop i)=gK [] false s)/\T'=[(7,.int .i64 (i:Int)),(6,.bool bl),(5,.gsl (u8s b) m L.length 1),(0,.str s)]/\L'=L++[.spare m 1]) (CutS (b:=by simp)) ⟨0,0,[],false,rfl,ahp _,by omega,hid ⟨rfl,rfl⟩,rfl,rfl⟩ ?_;rintro _ _ _ ⟨i,m,b,bl,rfl,hi,hm,hb,rfl,rfl⟩;have e1:=kH b;have e2:=iR b;by_cases hlt:i<s.length
 ·have g1:(i:Int)<(s.length:Int):=by omega
  have g2:=ace i (by omega);obtain ⟨c,hc⟩:=aaR (s.getD i 0);have hdr:=KG hlt;rw [hc] at hdr;have hb2:=hb.out.2;rw [hdr] at hb2;have hds:(s.drop i).take (s.length - i)=s.drop i:=ah0 (by simp);have hl1:(i:Int)<=(s.length:Int):=by omega
  by_cases hcc:c=44\/c=43
  ·rw [qm hcc] at hb2;have h':=h.out;rw [<- hb2] at h';simp only [aau] at h';rw [<- hdr] at h';replace h':=hid h';have k1:((c.toNat:Int)=44)\/((c.toNat:Int)=43):=hcc.imp (bF c 44).2 (bF c 43).2;clear hb2 hcc hdr;rcases k1 with k1|k1
   ·refine wk ?_;exact ab rfl h'.out
   ·refine wk ?_;exact ab rfl h'.out
  ·have k1:¬ (c.toNat:Int)=44:=fun e=>hcc (.inl ((bF c 44).1 e))
   have k2:¬ (c.toNat:Int)=43:=fun e=>hcc (.inr ((bF c 43).1 e))
   by_cases h92:c=92
   ·subst h92;have g3:IntKind.i64.wrap ((i:Int)+2)=(i:Int)+2:=ac (by omega) (by omega);have g4:IntKind.i64.wrap ((i:Int)+3)=(i:Int)+3:=ac (by omega) (by omega);have g5:IntKind.i64.wrap ((i:Int)+1+1)=(i:Int)+1+1:=ac (by omega) (by omega);have g6:IntKind.i64.wrap ((i:Int)+2+1)=(i:Int)+2+1:=ac (by omega) (by omega);have t1:((i:Int)+1).toNat=i+1:=by omega
    have t3:((i:Int)+3).toNat=i+3:=by omega
    by_cases h1:i+1<s.length
    ·have f1:(i:Int)+1<(s.length:Int):=by omega
     obtain ⟨d,hd⟩:=aaR (s.getD (i+1) 0);have hdr1:=KG h1;rw [hd] at hdr1;rw [hdr1] at hb2;by_cases hsp:d∈qr
     ·rw [uP hsp] at hb2;have f2:=(qp qr d).2 hsp;clear hdr hdr1;replace hb2:=hid hb2;have kk1:=@hid _ @gC;refine wk ?_;rw [show u8s b++[AV.int IntKind.u8 (d.toNat:Int)]=u8s (b++[d]) by simp [u8s],show decide (((UInt8.toNat 92:Nat):Int)=32)=false from rfl];refine aq _ _ _ (by omega) (CutL (b:=by simp)) ⟨i+1+1,m+1,b++[d],false,rfl,h1,by omega,hid ⟨by simp [hb.out.1],hb2.out⟩,rfl,rfl⟩
     ·have f2:¬ 0<=Lib.indexByte qr d:=fun e=>hsp ((qp qr d).1 e)
      by_cases h2:i+2<s.length
      ·have f3:(i:Int)+2<(s.length:Int):=by omega
       have f4:(i:Int)+1<=(i:Int)+3:=by omega
       have f5:(i:Int)+3<=(s.length:Int):=by omega
       have f6:(0:Int)<=(i:Int)+1:=by omega
       obtain ⟨e,he⟩:=aaR (s.getD (i+2) 0);have hdr2:=KG h2;rw [he] at hdr2;rw [hdr2,GY hsp] at hb2;have hcut:(s.drop (i+1)).take (i+3 - (i+1))=[d,e]:=by
        rw [hdr1,hdr2,show i+3 - (i+1)=2 by omega];rfl
       clear hdr hdr1 hdr2;replace hb2:=hid hb2;have kk1:=@hid _ @gC;refine wk ?_;refine ab7 ?_;rcases hx:QB d e with _|x
       ·rw [show Oi d e=.tup [.str [],.bool false] by simp only [Oi,hx]];have h':=h.out;rw [<- hb2.out,hx] at h';simp only [aau] at h';replace h':=hid h';clear hx;refine sk ?_;refine wk ?_;exact ab rfl h'.out
       ·rw [show Oi d e=.tup [.str [x],.bool true] by simp only [Oi,hx]];have hb3:=hb2.out;rw [hx] at hb3;simp only at hb3;replace hb3:=hid hb3;have q1:[x].getD 0 0=x:=rfl;clear hx hb2;refine sk ?_;refine wk ?_;rw [show u8s b++[AV.int IntKind.u8 (x.toNat:Int)]=u8s (b++[x]) by simp [u8s],show decide (((UInt8.toNat 92:Nat):Int)=32)=false from rfl];refine aq _ _ _ (by omega) (CutL (b:=by simp)) ⟨i+2+1,m+1,b++[x],false,rfl,h2,by omega,hid ⟨by simp [hb.out.1],hb3.out⟩,rfl,rfl⟩
      ·have f3:¬ (i:Int)+2<(s.length:Int):=by omega
       have hnil:s.drop (i+1+1)=[]:=aiX (by omega);rw [hnil,KZ hsp] at hb2;have h':=h.out;rw [<- hb2] at h';replace h':=hid h';clear hdr hdr1 hb2;have kk1:=@hid _ @gC;refine wk ?_;exact ab rfl h'.out
    ·have f1:¬ (i:Int)+1<(s.length:Int):=by omega
     have f3:¬ (i:Int)+2<(s.length:Int):=by omega
     have hnil:s.drop (i+1)=[]:=aiX (by omega);rw [hnil,K0] at hb2;have h':=h.out;rw [<- hb2] at h';replace h':=hid h';clear hdr hb2;have kk1:=@hid _ @gC;refine wk ?_;exact ab rfl h'.out
   ·rw [mt hcc h92] at hb2;have k3:¬ (c.toNat:Int)=92:=fun e=>h92 ((bF c 92).1 e)
    clear hdr;replace hb2:=hid hb2
    repeat' first
     | refine cP ?_
     | (first|refine bY (by kernel_rfl) ?_|refine bj (by kernel_rfl) ?_|refine bm ?_|refine fy ?_|refine cT (fun _=>?_)|refine a8 ?_|refine b9 ?_|refine gC ?_|refine cA (gC ⟨rfl,rfl⟩) (gC ⟨rfl,rfl⟩) ?_|refine bf (gC ⟨rfl,rfl⟩) ?_)
       refine sm ?_
     | (first|refine bU (by kernel_rfl) ?_|refine bT ?_|refine bZ ?_|refine cY (a7 ?_))
       refine sl ?_
     | exact cU
     | first|apply cV|apply bV|apply cW|apply bW|apply cX|apply bX
     | refine br ?_
     | first|refine bp rfl ?_|refine bq rfl ?_|refine aW rfl ?_ ?_|refine bz rfl (fun _=>?_) (fun _=>?_)|refine bw rfl (fun _=>?_) (fun _=>?_)
     | ((first|refine aV (fun _=>?_) (fun _=>?_)|refine a6 (fun _=>?_) (fun _=>?_))<;>try refine sm ?_)
     | refine And.intro trivial ?_
     | refine And.intro (by omega) ?_
     | refine bA rfl (fun _=>?_) (fun _=>?_)
     | refine And.intro ?_ ?_
    ·rename_i hx
     have hbad:c=0\/c∈([34,59,60,62]:List UInt8)\/(b=[]/\(c=32\/c=35)):=by
      rcases hx with (e|e)|⟨e,e'⟩
      ·exact .inl ((bF c 0).1 e)
      ·exact .inr (.inl ((qp _ _).1 e))
      ·refine .inr (.inr ⟨ahX.1 ?_,e'.imp (bF c 32).1 (bF c 35).1⟩);have:=hb.out.1;omega
     have h':=h.out;rw [<- hb2.out,if_pos hbad] at h';exact ab rfl h'
    ·rename_i hx
     have hbad:¬ (c=0\/c∈([34,59,60,62]:List UInt8)\/(b=[]/\(c=32\/c=35))):=fun e=>hx (by
      rcases e with e|e|⟨e,e'⟩
      ·exact .inl (.inl ((bF c 0).2 e))
      ·exact .inl (.inr ((qp _ _).2 e))
      ·refine .inr ⟨?_,e'.imp (bF c 32).2 (bF c 35).2⟩;have:=hb.out.1;rw [e] at this;simp at this;omega)
     have hc32:decide ((c.toNat:Int)=32)=decide (c=32):=by
      have:=bF c 32;simp only [decide_eq_decide];exact this
     rw [show u8s b++[AV.int IntKind.u8 (c.toNat:Int)]=u8s (b++[c]) by simp [u8s],hc32];refine aq _ _ _ (by omega) (CutL (b:=by simp)) ⟨i+1,m+1,b++[c],decide (c=32),rfl,hlt,by omega,hid ⟨by simp [hb.out.1],?_⟩,rfl,rfl⟩;rw [<- hb2.out,if_neg hbad]
 ·have hke:i=s.length:=by omega
  subst hke;have g1:¬ (s.length:Int)<(s.length:Int):=by omega
  have h':=h.out;rw [<- hb.out.2,aij,mT] at h';simp only [aau] at h';replace h':=hid h';have hds:(s.drop s.length).take (s.length - s.length)=[]:=by simp
  refine wk ?_;exact ab rfl h'.out
def lu:List UInt8->Option (List UInt8×List UInt8)
 | []=>none
 | c::s=>if c=61 then some ([],s) else match lu s with
   | none=>none
   | some (a,b)=>some (c::a,b)
theorem Uq:∀ s:List UInt8,(Lib.indexByte s 61=-1/\lu s=none)\/∃ n:Nat,n<s.length/\Lib.indexByte s 61=(n:Int)/\lu s=some (s.take n,s.drop (n+1))
 | []=>.inl ⟨rfl,rfl⟩
 | c::s=>by
   by_cases hc:c=61
   ·subst hc;exact .inr ⟨0,by simp,by simp [Lib.indexByte],by simp [lu]⟩
   ·have e1:(c == 61)=false:=by simpa using hc
    unfold Lib.indexByte;rw [e1];simp only [ahJ,if_false,lu,if_neg hc];rcases Uq s with ⟨h1,h2⟩|⟨n,h0,h1,h2⟩
    ·exact .inl ⟨by rw [h1];rfl,by rw [h2]⟩
    ·refine .inr ⟨n+1,by simp;omega,?_,by rw [h2];simp⟩;rw [h1];have:((n:Int) == -1)=false:=by simp
     rw [this];simp
def Up (s:List UInt8):AV:=match lu s with
 | some (a,b)=>.tup [.str a,.str b,.bool true]
 | none=>.tup [.str s,.str [],.bool false]
theorem XM {a:List UInt8} {c:UInt8} {L:List Blk} {K:afC} (h:K (.int .i64 (Lib.indexByte a c)) L):afB 175 [.str a,.str [c]] L K :=
 mL Tryz.func175 rfl (by kernel_rfl) (fun w0 S0 E w vs hR hv=>by
  simp only [VRL,VR] at hv;obtain ⟨_,_,rfl,rfl,_,_,rfl,rfl,rfl⟩:=hv;exact (Tryz.stringslite_Index_one ⟨⟨a⟩⟩ c w).mono fun e w' ⟨he,hw⟩=>⟨_,he,by simp [VR],by subst hw;exact Vc.refl _⟩) h
theorem adq {s:List UInt8} (hs:s.length<=100000) (h:K (Up s) L):afB 163 [.str s,.str [61]] L K:=by
 have hl:[(61:UInt8)].length=1:=rfl;rcases Uq s with ⟨h1,h2⟩|⟨n,h0,h1,h2⟩
 ·simp only [Up,h2] at h;replace h:=hid h;clear h2;refine aa gb (by simp [cg]) ?_;simp only [cg,ag];have kk1:=@hid _ @XM;refine wk ?_;exact af h.out
 ·simp only [Up,h2] at h;replace h:=hid h;have g1:(0:Int)<=(n:Int):=by omega
  have g2:=ace n (by omega);have g3:(n:Int)<=(s.length:Int):=by omega
  have g4:(n:Int)+1<=(s.length:Int):=by omega
  have g5:(0:Int)<=(n:Int)+1:=by omega
  have g6:((n:Int)+1).toNat=n+1:=by omega
  have g7:(s.drop (n+1)).take (s.length - (n+1))=s.drop (n+1):=ah0 (by simp);clear h2;refine aa gb (by simp [cg]) ?_;simp only [cg,ag];have kk1:=@hid _ @XM;refine wk ?_;exact af h.out
theorem agY {s:List UInt8} (hs:s.length<=100000) (h:K (Up s) L):afB 138 [.str s,.str [61]] L K:=by
 rcases hc:lu s with _|⟨a,b⟩
 all_goals
  simp only [Up,hc] at h;replace h:=hid h
 ·refine acg yH ?_;refine adq hs ?_;simp only [Up,hc];refine sk ?_;refine wk ?_;exact af h.out
 ·refine acg yH ?_;refine adq hs ?_;simp only [Up,hc];refine sk ?_;refine wk ?_;exact af h.out
abbrev Rdn:=List Ava
abbrev aw (r:Rdn):AV:=YD r none
def rV:Nat->List Rdn->Rdn->List UInt8->List Rdn×Int
 | 0,_,_,_=>([],4)
 | f+1,out,now,s=>if out.length=32\/now.length=8 then ([],9) else match lu s with
   | none=>([],4)
   | some (typ,rest)=>if ku typ=false then ([],4) else if lH now typ=true then ([],21) else match gK [] false rest with
     | none=>([],4)
     | some (v,r2,ok)=>if ok=false then ([],4) else match r2 with
       | []=>(out++[now++[(typ,v)]],0)
       | c::s'=>if c=44 then rV f (out++[now++[(typ,v)]]) [] s' else rV f out (now++[(typ,v)]) s'
def fP (s:List UInt8):List Rdn×Int:=if 4096<s.length then ([],5) else if s=[] then ([],0) else rV (s.length+1) [] [] s
def acO (p:List Rdn×Int):AV:=.tup [.sl (p.1.map aw) p.1.length none,.int .i64 p.2]
theorem XY:∀ {s a b:List UInt8},lu s=some (a,b)->b.length<s.length/\a.length<=s.length
 | [],a,b,h=>by simp [lu] at h
 | c::s,a,b,h=>by
   simp only [lu] at h;split at h
   ·simp only [aho,ahx] at h;obtain ⟨rfl,rfl⟩:=h;simp
   ·split at h
    ·cases h
    ·rename_i a' b' hc
     simp only [aho,ahx] at h;obtain ⟨rfl,rfl⟩:=h;have:=XY hc;simp;omega
theorem ab6:∀ (n:Nat) {s b:List UInt8} {bl:Bool} {v r:List UInt8} {ok:Bool},s.length<=n->gK b bl s=some (v,r,ok)->r.length<=s.length:=by
 intro n
 induction n with
 | zero =>
   intro s b bl v r ok hn h;obtain rfl:=ahX.1 (Nat.le_zero.1 hn);rw [mT] at h;cases h;simp
 | succ n ih =>
   intro s b bl v r ok hn h;cases s with
   | nil=>rw [mT] at h;cases h;simp
   | cons c s =>
     simp only [ahD] at hn;by_cases hc:c=44\/c=43
     ·rw [qm hc] at h;cases h;simp
     by_cases h92:c=92
     ·subst h92;cases s with
      | nil=>rw [K0] at h;cases h
      | cons d s =>
        by_cases hd:d∈qr
        ·rw [uP hd] at h;have:=ih (by simp at hn;omega) h;simp;omega
        ·cases s with
         | nil=>rw [KZ hd] at h;cases h
         | cons e s =>
           rw [GY hd] at h;split at h
           ·cases h
           ·have:=ih (by simp at hn;omega) h;simp;omega
     ·rw [mt hc h92] at h;split at h
      ·cases h
      ·have:=ih (by omega) h;simp;omega
section
variable {P:Program} {N:Nat} {own:Nat->Nat->Nat} {Q:Exit->Tm->List Blk->Prop} {T:Tm} {L:List Blk}
theorem WS {lc:bc} (t sz B:Nat) {l:List AV} {n:Nat} {v:AV} (ht:az T t=some v) (hB:B<L.length) (hv:(v=.sl [] 0 (some 0)/\l=[]/\n=0)\/∃ i,B<i/\v=.gsl l n i sz/\L[i]?=some (.spare n sz))
  (h:∀ i X,B<i->(L++X)[i]?=some (.spare n sz)->AW P N own lc Q ((t,.gsl l n i sz)::T) (L++X)):AW P N own lc Q T L:=by
 rcases hv with ⟨rfl,rfl,rfl⟩|⟨i,hBi,rfl,hi⟩
 ·exact bi t sz ht (by simp) (h L.length [.spare 0 sz] hB (by simp))
 ·have h':=h i [] hBi (by simpa using hi);rw [ahO] at h';refine h'.weakT fun t' v' e=>?_
  simp only [az] at e;split at e
  ·rename_i e1;subst e1;cases e;exact ht
  ·exact e
end
variable {L:List Blk} {K:afC}
set_option maxHeartbeats 8000000
set_option maxRecDepth 100000
def agl (B:Nat) (r:Rdn) (v:AV) (L:List Blk):Prop:=(v=.sl [] 0 (some 0)/\aN r=[]/\r.length=0)\/∃ i,B<i/\v=.gsl (aN r) r.length i 2/\L[i]?=some (.spare r.length 2)
theorem VU (r:Rdn) (t v:List UInt8):aN (r++[(t,v)])=aN r++[.str t,.str v]:=by simp [aN,oC]
theorem fV (r:Rdn):AV.frzL (aN r)=aN r:=by
 induction r with
 | nil=>rfl
 | cons a r ih=>simpa [aN,oC,AV.frzL,AV.frz] using ih
theorem gZ {L0 X:List Blk} {e:Int} {K:afC} (h:K (acO ([],e)) L0):Fin L0 (.tup [.sl [] 0 (some 0),.int .i64 e]) (L0++X) K:=ay (ab rfl h)
theorem aO (d:List Rdn):AV.frzL (d.map aw)=d.map aw:=by
 rw [AV.frzL_eq,ahS];refine aiw fun r _=>?_
 simp only [Function.comp,AV.frz,fV]
theorem abE (q:Nat->Bool) (r:Rdn):AV.refsL q (aN r)=true:=by
 induction r with
 | nil=>rfl
 | cons a r ih=>simpa [aN,oC,AV.refsL,AV.refs] using ih
theorem cQ (q:Nat->Bool):∀ d:List Rdn,AV.refsL q (d.map aw)=true
 | []=>rfl
 | r::d=>by simp only [ahH,AV.refsL,AV.refs,abE,cQ q d,ajL]
theorem uQ {s:List UInt8} (h:ku s=true):s.length<=32:=by
 simp only [ku,aht,decide_eq_true_eq] at h;exact h.1.1.2
theorem afY {r:Rdn} {typ:List UInt8} {i n:Nat} (hr:r.length=n) (hn:n<=8) (h1:∀ a∈r,a.1.length<=32) (h2:typ.length<=4096) (h:K (.bool (lH r typ)) L) :
  afB 93 [.gsl (aN r) n i 2,.str typ] L K:=by
 subst hr;exact dQ (by simpa only [AV.frzL,AV.frz,fV] using afl (cap:=none) (by omega) (fun a ha=>by have:=h1 a ha;omega) (by omega) h)
theorem ZT {s:List UInt8} (h:K (acO (fP s)) L):afB 106 [.str s] L K:=by
 refine aa U9 (by simp [OC]) ?_;simp only [OC,ag];by_cases h1:4096<s.length
 ·have f1:(4096:Int)<(s.length:Int):=by omega
  rw [fP,if_pos h1] at h;replace h:=hid h;clear h1;refine wk ?_;exact ay (af h.out)
 have f1:¬ (4096:Int)<(s.length:Int):=by omega
 rw [fP,if_neg h1] at h;by_cases h2:s=[]
 ·rw [if_pos h2] at h;replace h:=hid h;refine wk ?_;exact ay (af h.out)
 rw [if_neg h2] at h;replace h:=hid h;have hs:=hid (show s.length<=4096 by omega);clear h1;obtain ⟨R,hR⟩:=aaR (rV (s.length+1) [] [] s);rw [hR] at h;refine wk ?_;refine bi (l:=[]) (n:=0) 4 1 rfl (ahQ 1).symm ?_;refine ah (fun n T' L'=>∃ (f m:Nat) (out:List Rdn) (now:Rdn) (u:List UInt8) (v:AV) (X:List Blk),f=n/\u.length<=4096/\m=out.length/\m<=32/\now.length<=8/\Hid (u.length<f/\rV f out now u=R/\(∀ a∈now,a.1.length<=32)/\agl L.length now v L')/\L'[L.length]?=some (.spare m 1)/\T'=[(5,v),(4,.gsl (out.map aw) m L.length 1),(0,.str u)]/\L'=L++X) (CutS (b:=by simp)) ⟨s.length+1,0,[],[],s,_,[.spare 0 1],rfl,hs.out,rfl,by omega,by simp,hid ⟨by omega,hR,by simp,.inl ⟨rfl,rfl,rfl⟩⟩,by simp,rfl,rfl⟩ ?_;clear h2;clear hs;rintro _ _ _ ⟨f,m,out,now,u,v,X,rfl,hu,hm,hm32,hn8,hI,ho,rfl,rfl⟩;obtain ⟨hf,hp,ht,hv⟩:=hI.out;clear hI;clear hR;obtain ⟨f,rfl⟩:∃ g,f=g+1:=⟨f - 1,by omega⟩;have hB:L.length<(L++X).length:=(ahm.1 ho).1;refine WS 5 2 L.length rfl hB hv fun i Y hBi hi=>?_
 rw [ahz] at hi ⊢;have ho2:(L++(X++Y))[L.length]?=some (.spare m 1):=by rw [<- ahz,ahq hB];exact ho
 generalize X++Y=Z at hi ho2 ⊢;clear ho hB hv;have s5:∀ A,(L++Z).set i A=L++Z.set (i - L.length) A:=fun A=>ahP _ _ (by omega)
 have s4:∀ (W:List Blk) A,(L++W).set L.length A=L++W.set 0 A:=fun W A=>by rw [ahP _ _ (ahn _),ajb]
 have hz:i - L.length≠0:=by omega
 have s54:∀ A,(L++Z.set (i - L.length) A)[L.length]?=some (.spare m 1):=fun A=>by rw [<- s5,ahL (by omega)];exact ho2
 have s55:∀ A,(L++Z.set (i - L.length) A)[i]?=some A:=fun A=>by rw [<- s5,ahU,if_pos rfl,if_pos (ahm.1 hi).1]
 have hul:=hu;obtain ⟨c,hc⟩:∃ c:Nat,now.length=c:=⟨_,rfl⟩;rw [rV] at hp;rw [hc] at hp hi hn8 ⊢;by_cases hlim:out.length=32\/c=8
 ·rw [if_pos hlim] at hp;have h':=h.out;rw [<- hp] at h';replace h':=hid h';have k:(m:Int)=32\/(m:Int)≠32/\(c:Int)=8:=by omega
  clear hp hlim;clear hm;rcases k with k|⟨k,k'⟩
  ·refine wk ?_;exact gZ h'.out
  ·refine wk ?_;exact gZ h'.out
 rw [if_neg hlim] at hp;have k1:¬ (m:Int)=32:=by omega
 have k2:¬ (c:Int)=8:=by omega
 replace hm:=hid hm;clear hlim;replace hp:=hid hp;replace ht:=hid ht;refine wk ?_;refine agY (by omega) ?_;rcases hcut:lu u with _|⟨typ,rest⟩
 ·rw [show Up u=.tup [.str u,.str [],.bool false] by simp only [Up,hcut]];have h':=h.out;rw [<- hp.out,hcut] at h';simp only at h';replace h':=hid h';refine sk ?_;refine wk ?_;exact gZ h'.out
 rw [show Up u=.tup [.str typ,.str rest,.bool true] by simp only [Up,hcut]];have hp2:=hp.out;rw [hcut] at hp2;simp only at hp2;have hlen:=XY hcut;replace hp2:=hid hp2;clear hcut hp;refine sk ?_;cases hty:ku typ with
 | false =>
   have h':=h.out;rw [<- hp2.out,if_pos hty] at h';replace h':=hid h';have kk1:=@hid _ @Yp;refine wk ?_;exact gZ h'.out
 | true =>
   have hp3:=hp2.out;rw [if_neg (by rw [hty];simp)] at hp3;replace hp3:=hid hp3;clear hp2;have kk1:=@hid _ @Yp;refine wk ?_;refine afY hc hn8 ht.out (by omega) ?_;cases hha:lH now typ with
   | true =>
     have h':=h.out;rw [<- hp3.out,if_pos hha] at h';replace h':=hid h';refine sk ?_;refine wk ?_;exact gZ h'.out
   | false =>
     have hp4:=hp3.out;rw [if_neg (by rw [hha];simp)] at hp4;replace hp4:=hid hp4;clear hp3;refine sk ?_;refine wk ?_;refine adZ (by omega) ?_;rcases hvl:gK [] false rest with _|⟨w,r2,okk⟩
     ·have h':=h.out;rw [<- hp4.out,hvl] at h';simp only at h';replace h':=hid h';simp only [aau];refine sk ?_;refine wk ?_;exact gZ h'.out
     ·have hp5:=hp4.out;rw [hvl] at hp5;simp only at hp5;have hl2:=ab6 _ (ahn _) hvl;replace hp5:=hid hp5;clear hp4 hvl;simp only [aau];refine sk ?_;cases okk with
      | false =>
        have h':=h.out;rw [<- hp5.out,if_pos rfl] at h';replace h':=hid h';refine wk ?_;exact gZ h'.out
      | true =>
        have hp6:=hp5.out;rw [if_neg (by simp)] at hp6;replace hp6:=hid hp6;clear hp5;have q1:(c+1) * 32<=140737488355328:=by omega
        have q2:c+1<=140737488355328:=by omega
        have q3:(m+1) * 24<=140737488355328:=by omega
        have q4:m+1<=140737488355328:=by omega
        have e1:aN now++[AV.str typ,AV.str w]=aN (now++[(typ,w)]):=(VU _ _ _).symm;have e2:out.map aw++[AV.sl (AV.frzL (aN now++[AV.str typ,AV.str w])) (c+1) none]=(out++[now++[(typ,w)]]).map aw:=by
         rw [e1,fV,ahN];simp [hc]
        have e3:(out++[now++[(typ,w)]]).length=m+1:=by simp [hm.out]
        have e4:(now++[(typ,w)]).length=c+1:=by simp [hc]
        have e5:∀ a∈now++[(typ,w)],a.1.length<=32:=fun a ha=>by
         rcases ahr.1 ha with h|h
         ·exact ht.out a h
         ·rw [ahI.1 h];exact uQ hty
        replace e1:=hid e1;replace e2:=hid e2;replace e3:=hid e3;replace e4:=hid e4;replace e5:=hid e5;cases r2 with
        | nil =>
          have h':=h.out;rw [<- hp6.out] at h';simp only at h';replace h':=hid h';refine wk ?_;rw [e2.out];refine ay (ab ?_ ?_)
          ·simp only [AV.frz,AV.frzL,aO,AV.refs,AV.refsL,cQ,ajL]
          ·simp only [AV.frz,AV.frzL,aO];have:=h'.out;simp only [acO,e3.out] at this;exact this
        | cons x s' =>
          simp only at hp6;have q5:¬ (x::s'=[]):=by simp
          have q7:((s'.length:Int)+1).toNat - 1=s'.length:=by omega
          have q8:s'.take (((s'.length:Int)+1).toNat - 1)=s':=by rw [q7,ahA]
          simp only [ahD] at hl2;clear q7;replace q8:=hid q8;by_cases hx:x=44
          ·subst hx;refine wk ?_;rw [q8.out,e2.out];refine aq _ _ _ ?_ (CutS (b:=?_)) ⟨f,m+1,out++[now++[(typ,w)]],[],s',.sl [] 0 (some 0),_,rfl,by omega,e3.out.symm,by omega,by simp,hid ⟨by omega,?_,by simp,.inl ⟨rfl,rfl,rfl⟩⟩,?_,rfl,rfl⟩
           ·omega
           ·have:=(ahm.1 ho2).1;simp at this ⊢;omega
           ·rw [<- hp6.out,if_pos rfl]
           ·have:=(ahm.1 ho2).1;rw [<- s4,ahU,if_pos rfl,if_pos (by simp at this ⊢;omega)]
          ·have q6:¬ (x.toNat:Int)=44:=fun e=>hx ((bF x 44).1 e)
           refine wk ?_;rw [q8.out,e1.out];refine aq _ _ _ ?_ (CutS (b:=?_)) ⟨f,m,out,now++[(typ,w)],s',.gsl (aN (now++[(typ,w)])) (c+1) i 2,_,rfl,by omega,hm.out,hm32,by rw [e4.out];omega,hid ⟨by omega,?_,e5.out,.inr ⟨i,hBi,by rw [e4.out],by rw [e4.out];exact s55 _⟩⟩,s54 _,rfl,rfl⟩
           ·omega
           ·have:=(ahm.1 ho2).1;simp at this ⊢;omega
           ·rw [<- hp6.out,if_neg hx]
def dl:Rdn->Rdn->Int
 | _,[]=>0
 | done,a::t=>if done.length=8 then 9 else if ku a.1=false then 20 else if lH done a.1=true then 21 else dl (done++[a]) t
def jH:Nat->List Rdn->Int
 | _,[]=>0
 | i,r::t=>if i=32 then 9 else if r=[] then 2 else if dl [] r≠0 then dl [] r else jH (i+1) t
theorem mw {d:List Rdn} {k:Nat} (h:k<d.length):(d.map aw).getD k .undef=aw (d.getD k []):=by simp [h]
theorem Rm {r:Rdn} {k:Nat}:(aN r).take (k * 2)=aN (r.take k):=by
 induction r generalizing k with
 | nil=>simp [aN]
 | cons a r ih =>
   cases k with
   | zero=>simp [aN]
   | succ k =>
     have:=@ih k;simp only [aN] at this;rw [show (k+1) * 2=k * 2+1+1 by omega];simp [aN,oC,this]
theorem afX {r:Rdn} {typ:List UInt8} {n:Nat} {cap:Option Nat} (hr:r.length=n) (hn:n<=8) (h1:∀ a∈r,a.1.length<=32) (h2:typ.length<=32) (h:K (.bool (lH r typ)) L) :
  afB 93 [.sl (aN r) n cap,.str typ] L K:=by
 subst hr;exact afl (by omega) (fun a ha=>by have:=h1 a ha;omega) (by omega) h
theorem aeR {d:List Rdn} {cap:Option Nat} (hn:d.length<=1100000) (hr:∀ r∈d,r.length<=1100000) (h:K (.int .i64 (jH 0 d)) L):afB 56 [.sl (d.map aw) d.length cap] L K:=by
 replace h:=hid h;have hat:=hid (fun k=>@mw d k);replace hr:=hid hr;refine acg U7 ?_;refine ah (fun n T' L'=>∃ (i:Nat) (X:List Blk),n=d.length - i/\i<=d.length/\i<=32/\Hid (jH i (d.drop i)=jH 0 d)/\T'=[(9,.int .i64 (i:Int)),(8,.int .i64 d.length),(7,.sl (d.map aw) d.length cap)]/\L'=L++X) (CutS (b:=by simp)) ⟨0,[],rfl,ahp _,by omega,hid rfl,rfl,by simp⟩ ?_;rintro _ _ _ ⟨i,X,rfl,hi,hi32,he,rfl,rfl⟩;by_cases hlt:i<d.length
 ·have g1:(i:Int)<(d.length:Int):=by omega
  have g2:=ace i (by omega);have e2:=hat.out i hlt;have hrl:=hr.out (d.getD i []) (by rw [ahE,ahB hlt];exact ain _);obtain ⟨r,hri⟩:=aaR (d.getD i []);have hdr:d.drop i=r::d.drop (i+1):=by rw [ah2 hlt,<- hri];simp [hlt]
  rw [hri] at e2 hrl;have he2:=he.out;rw [hdr,jH] at he2;clear hdr hri;by_cases h32:i=32
  ·rw [if_pos h32] at he2;have h':=h.out;rw [<- he2] at h';replace h':=hid h';have k1:(i:Int)=32:=by omega
   have g1':(32:Int)<(d.length:Int):=by omega
   clear h32 he2;refine wk ?_;exact ab rfl h'.out
  rw [if_neg h32] at he2;have k1:¬ (i:Int)=32:=by omega
  by_cases hr0:r=[]
  ·rw [if_pos hr0] at he2;subst hr0;have h':=h.out;rw [<- he2] at h';replace h':=hid h';clear h32 he2;refine wk ?_;exact ab rfl h'.out
  rw [if_neg hr0] at he2;have k2:¬ (r.length:Int)=0:=by have:=ah8.2 hr0;omega
  have herr:∀ e:Int,dl [] r=e->e≠0->K (.int .i64 e) L:=fun e a1 a2=>by
   rw [if_pos (by rw [a1];exact a2),a1] at he2;rw [he2];exact h.out
  replace herr:=hid herr;replace he2:=hid he2;clear h32;refine wk ?_;refine ah (fun n T' L'=>∃ (k:Nat) (Y:List Blk),n=r.length - k/\k<=r.length/\k<=8/\Hid (dl (r.take k) (r.drop k)=dl [] r/\∀ a∈r.take k,a.1.length<=32)/\T'=[(23,.int .i64 (k:Int)),(22,.int .i64 r.length),(21,aw r),(4,aw r),(9,.int .i64 (i:Int)),(8,.int .i64 d.length),(7,.sl (d.map aw) d.length cap)]/\L'=L++(X++Y)) (CutS (b:=by simp)) ⟨0,[],rfl,ahp _,by omega,hid ⟨rfl,by simp⟩,rfl,by simp⟩ ?_;rintro _ _ _ ⟨k,Y,rfl,hk,hk8,hrow,rfl,rfl⟩;by_cases hkl:k<r.length
  ·have g3:(k:Int)<(r.length:Int):=by omega
   have g4:=ace k (by omega);have e3:=fW hkl;have e4:k * 2+2<=(aN r).length:=by rw [cr];omega
   obtain ⟨⟨ty,va⟩,ha⟩:∃ a,r.getD k ([],[])=a:=⟨_,rfl⟩;have hdk:r.drop k=(ty,va)::r.drop (k+1):=by rw [ah2 hkl,<- ha];simp [hkl]
   have htk:r.take (k+1)=r.take k++[(ty,va)]:=by rw [ahK hkl,<- ha];simp [hkl]
   rw [ha] at e3;simp only [oC] at e3;obtain ⟨hr1,hr2⟩:=hrow.out;rw [hdk,dl] at hr1;have hlk:(r.take k).length=k:=by simp;omega
   rw [hlk] at hr1;clear hdk ha hrow;have e5:(aN r).take (k * 2)=aN (r.take k):=Rm;have g5:(k:Int)<=(r.length:Int):=by omega
   replace hr1:=hid hr1;replace hr2:=hid hr2;replace htk:=hid htk;have e6:=hid hlk;clear hlk
   repeat' first
    | refine cP ?_
    | (first|refine bY (by kernel_rfl) ?_|refine bj (by kernel_rfl) ?_|refine bm ?_|refine fy ?_|refine cT (fun _=>?_)|refine a8 ?_|refine b9 ?_)
      refine sm ?_
    | (first|refine bU (by kernel_rfl) ?_|refine bT ?_|refine bZ ?_|refine cY (a7 ?_))
      refine sl ?_
    | exact cU
    | first|apply cV|apply bV|apply cW|apply bW|apply cX|apply bX
    | refine br ?_
    | first|refine bp rfl ?_|refine bq rfl ?_|refine aW rfl ?_ ?_|refine bz rfl (fun _=>?_) (fun _=>?_)|refine bw rfl (fun _=>?_) (fun _=>?_)
    | ((first|refine aV (fun _=>?_) (fun _=>?_)|refine a6 (fun _=>?_) (fun _=>?_))<;>try refine sm ?_)
    | refine And.intro trivial ?_
    | refine And.intro (by omega) ?_
    | refine bA rfl (fun _=>?_) (fun _=>?_)
    | refine And.intro ?_ ?_
   ·rename_i h8
    have h':=herr.out 9 (by rw [<- hr1.out,if_pos (by omega)]) (by decide);exact ab rfl h'
   ·rename_i h8
    have hr3:=hr1.out;rw [if_neg (by omega)] at hr3;refine Yp ?_;cases hty:ku ty with
    | false =>
      have h':=hid (herr.out 20 (by rw [<- hr3,if_pos hty]) (by decide));clear hr3;refine sk ?_;refine wk ?_;exact ab rfl h'.out
    | true =>
      rw [if_neg (by rw [hty];simp)] at hr3;replace hr3:=hid hr3;have htl:=uQ hty;refine sk ?_
      repeat' first
       | refine cP ?_
       | (first|refine bY (by kernel_rfl) ?_|refine bj (by kernel_rfl) ?_|refine bm ?_|refine fy ?_|refine cT (fun _=>?_)|refine a8 ?_|refine b9 ?_)
         refine sm ?_
       | (first|refine bU (by kernel_rfl) ?_|refine bT ?_|refine bZ ?_|refine cY (a7 ?_))
         refine sl ?_
       | exact cU
       | first|apply cV|apply bV|apply cW|apply bW|apply cX|apply bX
       | refine br ?_
       | first|refine bp rfl ?_|refine bq rfl ?_|refine aW rfl ?_ ?_|refine bz rfl (fun _=>?_) (fun _=>?_)|refine bw rfl (fun _=>?_) (fun _=>?_)
       | ((first|refine aV (fun _=>?_) (fun _=>?_)|refine a6 (fun _=>?_) (fun _=>?_))<;>try refine sm ?_)
       | refine And.intro trivial ?_
       | refine And.intro (by omega) ?_
       | refine bA rfl (fun _=>?_) (fun _=>?_)
       | refine And.intro ?_ ?_
      refine bf (afX e6.out (by omega) hr2.out htl ⟨rfl,rfl⟩) ?_;cases hha:lH (r.take k) ty with
      | true =>
        have h':=hid (herr.out 21 (by rw [<- hr3.out,if_pos hha]) (by decide));refine sk ?_;refine wk ?_;exact ab rfl h'.out
      | false =>
        have hr4:=hr3.out;rw [if_neg (by rw [hha];simp),<- htk.out] at hr4;replace hr4:=hid hr4;clear hr3;refine sk ?_;refine wk ?_;refine aq _ _ _ (by omega) (CutS (b:=by simp)) ⟨k+1,Y++[.cells [.str ty,.str va]],rfl,hkl,by omega,hid ⟨hr4.out,fun a ha=>?_⟩,rfl,by simp⟩;rw [htk.out] at ha;rcases ahr.1 ha with h|h
        ·exact hr2.out a h
        ·rw [ahI.1 h];exact htl
  ·have hke:k=r.length:=by omega
   subst hke;have g3:¬ (r.length:Int)<(r.length:Int):=by omega
   have hz:=hrow.out.1;rw [aij,dl] at hz;have he3:=he2.out;rw [<- hz] at he3;simp only [ne_eq,not_true_eq_false,if_false] at he3;replace he3:=hid he3;clear hz;refine wk ?_;exact aq _ _ _ (by omega) (CutS (b:=by simp)) ⟨i+1,X++Y,rfl,hlt,by omega,hid he3.out,rfl,rfl⟩
 ·have hke:i=d.length:=by omega
  subst hke;have g1:¬ (d.length:Int)<(d.length:Int):=by omega
  have h':=h.out;rw [<- he.out,aij,jH] at h';replace h':=hid h';refine wk ?_;exact ab rfl h'.out
end Go.Proofs.YtobihfefmlgaoaaGreat.Av
