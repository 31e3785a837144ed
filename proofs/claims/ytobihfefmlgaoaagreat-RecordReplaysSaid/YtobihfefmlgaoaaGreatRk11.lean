/- Joined texts of the walk, made small by a program. -/
import Derived.Test.YtobihfefmlgaoaaGreatRk4
import Derived.Test.YtobihfefmlgaoaaGreatRows
import Derived.KernelRfl
import Derived.Test.YtobihfefmlgaoaaGreatRk9
import Derived.Test.YtobihfefmlgaoaaGreatRk5
import Derived.Test.YtobihfefmlgaoaaGreatRk10
set_option linter.unusedSimpArgs false
set_option linter.unusedVariables false
set_option maxRecDepth 100000
namespace Go.Proofs.YtobihfefmlgaoaaGreat.Av
open Go
def ID:LSO:=[An 2]
def IC:LSO:=[Aa 6 0,Aj 7 101 6,Aa 3 7]
def IB:LSO:=[Aa 8 3,A2 9 8,Bc 10 9 1,Aa 11 10,.grp none 11 true
 [Ai 12 11 3,BV 13 11 12,og 14 11 true (.bin .leq (tm 13) (iv 32))]
 15 (tm 14),Aa 4 15]
def IA:LSO:=[Ac 5 0]
def Iz:LSO:=[Aa 16 5,Aa 17 3,A2 18 17,Ak 19 16 18,Aa 20 19,.grp none 20 true
 [Ai 21 20 4]
 22 (tm 21)]
def Iy:LSO:=[Aa 25 3,Aa 26 5,AI 27 25 26,
 o1 28 (.call 102 [(tm 27),(.av (.str [97,98,99,100,101,102,103,104,105,106,107,108,109,110,111,112,113,114,115,116,117,118,119,120,121,122]))]),Aa 29 28,.grp none 29 false
 [Ag 30 29 5,AD 31 29 30 0,Ag 32 29 31,.grp (some (29,false)) 32 true
 [Ai 33 32 3,Ai 34 32 5,Bp 35 32 33 34,og 36 32 true (.call 102 [(tm 35),(.av (.str [48,49,50,51,52,53,54,55,56,57,45]))])]
 37 (tm 36)]
 38 (tm 37),Aa 4 38]
def Ix:LSO:=[Aa 23 5,Ah 24 23 1,Aa 5 24]
def Iw:LSO:=[Aa 39 4,Aa 2 39]
def zh:aS:=⟨40,(.seq (.sreg ID [])
 (.seq (.sreg IC Cq)
 (.seq (.sreg IB Ct)
 (.seq (.seq (.sreg IA [])
 (.block 0 (.loop (.seq (.seq (.sreg Iz Ct)
 (.cond (tm 22) .skip
 (.exit 0)))
 (.seq (.block 1 (.sreg Iy Cu))
 (.sreg Ix Cq))))))
 (.seq (.sreg Iw Cp)
 .ret))))),[(.tmp 2)]⟩
attribute [push_cast] ID IC IB IA Iz Iy Ix Iw
theorem SD:aT Tryz.prog (fun _ _=>1) 67=some zh.raw:=by kernel_rfl
def Pu:LSO:=[An 4]
def Pt:LSO:=[Ac 5 0]
def Ps:LSO:=[Aa 6 5,Aa 7 1,A2 8 7,Ak 9 6 8]
def Pr:LSO:=[Aa 12 1,Aa 13 5,AI 14 12 13,Aa 15 0,AJ 16 14 15]
def Pq:LSO:=[AC 4]
def Pp:LSO:=[Aa 10 5,Ah 11 10 1,Aa 5 11]
def Po:LSO:=[An 4]
def Ox:aS:=⟨17,(.seq (.sreg Pu [])
 (.seq (.seq (.sreg Pt [])
 (.block 0 (.loop (.seq (.seq (.sreg Ps Cr)
 (.cond (tm 9) .skip
 (.exit 0)))
 (.seq (.block 1 (.seq (.sreg Pr Cs)
 (.cond (tm 16) (.seq (.sreg Pq [])
 .ret)
 .skip)))
 (.sreg Pp Cq))))))
 (.seq (.sreg Po [])
 .ret))),[(.tmp 4)]⟩
attribute [push_cast] Pu Pt Ps Pr Pq Pp Po
theorem U4:aT Tryz.prog (fun _ _=>1) 102=some Ox.raw:=by kernel_rfl
def Me:LSO:=[An 4]
def Md:LSO:=[Aa 7 0,Ae 8 7,Ac 9 0]
def Mc:LSO:=[Ak 10 9 8]
def Mb:LSO:=[Al 11 2 7 9,As 12 2 11,Bq 6,Af 2 6 12]
def Ma:LSO:=[Ad 13 0 6,Ab 14 1 13,Aj 15 101 14,Aa 16 1,Aj 17 101 16,AJ 18 15 17]
def L9:LSO:=[AC 4]
def L8:LSO:=[Ah 19 9 1,Aa 9 19]
def L7:LSO:=[An 4]
def KM:aS:=⟨20,(.seq (.sreg Me [])
 (.seq (.seq (.sreg Md [])
 (.block 0 (.loop (.seq (.sreg Mc [])
 (.seq (.cond (tm 10) .skip
 (.exit 0))
 (.seq (.block 1 (.seq (.sreg Mb Cq)
 (.seq (.sreg Ma Ct)
 (.cond (tm 18) (.seq (.sreg L9 [])
 .ret)
 .skip))))
 (.sreg L8 Cp)))))))
 (.seq (.sreg L7 [])
 .ret))),[(.tmp 4)]⟩
attribute [push_cast] Me Md Mc Mb Ma L9 L8 L7
theorem UA:aT Tryz.prog (fun _ _=>1) 68=some KM.raw:=by kernel_rfl
def EU:LSO:=[Ap 2,Ac 3 0]
def ET:LSO:=[Aa 12 0,A2 13 12,A6 14 13 4096]
def ES:LSO:=[Ap 2,Ac 3 5]
def ER:LSO:=[Ap 4]
def EP:LSO:=[Ac 5 0]
def EO:LSO:=[Aa 15 0,A2 16 15,A6 17 16 0]
def EN:LSO:=[Ap 6]
def EM:LSO:=[Aa 18 4,Ae 19 18,Au 20 19 32]
def EL:LSO:=[Ap 2,Ac 3 9]
def EK:LSO:=[Aa 21 6,Ae 22 21,Au 23 22 8]
def xe:LSO:=[Ap 2,Ac 3 9]
def xc:LSO:=[Aa 24 5,Aa 7 24]
def xb:LSO:=[Aa 25 7,Aa 26 0,A2 27 26,Ak 28 25 27,Aa 29 28,.grp none 29 true
 [Ai 30 29 0,Ai 31 29 7,Bp 32 29 30 31,og 33 29 true (.bin .neq (tm 32) (.av (.int .u8 61)))]
 34 (tm 33)]
def xa:LSO:=[Aa 35 7,Ah 36 35 1,Aa 7 36]
def w9:LSO:=[Aa 37 7,Aa 38 0,A2 39 38,AJ 40 37 39,Aa 41 40,.grp none 41 false
 [Ag 42 41 0,Ag 43 41 5,Ag 44 41 7,og 45 41 false (.slS (tm 42) (some (tm 43)) (some (tm 44))),Bx 46 41 67 45,AY 47 41 46]
 48 (tm 47)]
def w8:LSO:=[Ap 2,Ac 3 4]
def wZ:LSO:=[Aa 49 0,Aa 50 5,Aa 51 7,BR 52 49 50 51,o1 53 (.build [(.str []),(.str [])] [(0,(1,(tm 52)))]),Bq 8,Af 2 8 53]
def wY:LSO:=[Aa 54 6,Ad 55 0 8,Ab 56 1 55,Ay 57 68 54 56]
def wX:LSO:=[Ap 2,Ac 3 21]
def wW:LSO:=[Aa 59 0,Aa 60 7,Ah 61 60 1,Ay 62 108 59 61,Aa 58 62,Aq 63 58,Ar 64 58,Bh 65 58,Aa 9 63,Aa 10 64,Aa 11 65]
def wV:LSO:=[Aa 66 11,AA 67 66]
def wU:LSO:=[Ap 2,Ac 3 4]
def wT:LSO:=[Aa 68 9,Ad 69 1 8,Af 1 69 68]
def wS:LSO:=[Aa 70 6,As 71 2 8,BS 72 71,BJ 73 70 72,Aa 6 73]
def wR:LSO:=[Aa 74 10,Aa 5 74]
def wQ:LSO:=[Aa 75 5,Aa 76 0,A2 77 76,AJ 78 75 77,Aa 79 78,.grp none 79 false
 [Ag 80 79 0,Ag 81 79 5,BK 82 79 80 81,og 83 79 false (.bin .eql (tm 82) (.av (.int .u8 44)))]
 84 (tm 83)]
def wP:LSO:=[Aa 85 5,Ah 86 85 1,Aa 5 86]
def wO:LSO:=[Aa 87 4,Aa 88 6,Be 89 88,Bg 90 87 89,Aa 4 90]
def wN:LSO:=[Aa 91 5,Aa 92 0,A2 93 92,AJ 94 91 93]
def wM:LSO:=[Aa 95 4,Aa 2 95,Ac 3 0]
def wL:LSO:=[Aa 96 5,Ah 97 96 1,Aa 5 97]
def wK:LSO:=[Ap 2,Ac 3 0]
def uE:aS:=⟨98,(.seq (.sreg EU [])
 (.seq (.seq (.sreg ET Cq)
 (.cond (tm 14) (.seq (.sreg ES [])
 .ret)
 .skip))
 (.seq (.sreg ER [])
 (.seq (.sreg EP [])
 (.seq (.block 0 (.loop (.seq (.seq (.sreg EO Cq)
 (.cond (tm 17) .skip
 (.exit 0)))
 (.block 1 (.seq (.sreg EN [])
 (.seq (.seq (.sreg EM Cq)
 (.cond (tm 20) (.seq (.sreg EL [])
 .ret)
 .skip))
 (.seq (.block 2 (.loop (.block 3 (.seq (.seq (.sreg EK Cq)
 (.cond (tm 23) (.seq (.sreg xe [])
 .ret)
 .skip))
 (.seq (.sreg xc Cp)
 (.seq (.block 4 (.loop (.seq (.seq (.sreg xb Ct)
 (.cond (tm 34) .skip
 (.exit 4)))
 (.block 5 (.sreg xa Cq)))))
 (.seq (.seq (.sreg w9 Ct)
 (.cond (tm 48) (.seq (.sreg w8 [])
 .ret)
 .skip))
 (.seq (.sreg wZ Ct)
 (.seq (.seq (.sreg wY Cr)
 (.cond (tm 57) (.seq (.sreg wX [])
 .ret)
 .skip))
 (.seq (.sreg wW CW)
 (.seq (.seq (.sreg wV Cp)
 (.cond (tm 67) (.seq (.sreg wU [])
 .ret)
 .skip))
 (.seq (.sreg wT C0)
 (.seq (.sreg wS Cs)
 (.seq (.sreg wR Cp)
 (.seq (.seq (.sreg wQ Ct)
 (.cond (tm 84) (.exit 2)
 .skip))
 (.sreg wP Cq))))))))))))))))
 (.seq (.sreg wO Cs)
 (.seq (.seq (.sreg wN Cr)
 (.cond (tm 94) (.seq (.sreg wM Cv)
 .ret)
 .skip))
 (.sreg wL Cq))))))))))
 (.seq (.sreg wK [])
 .ret)))))),[(.tmp 2),(.tmp 3)]⟩
attribute [push_cast] EU ET ES ER EP EO EN EM EL EK xe xc xb xa w9 w8 wZ wY wX wW wV wU wT wS wR wQ wP wO wN wM wL wK
theorem Ra:aT Tryz.prog (fun _ _=>1) 75=some uE.raw:=by kernel_rfl
def D5:LSO:=[Ao 4,Ac 5 0,An 6]
def D4:LSO:=[Ap 7]
def D2:LSO:=[AC 8]
def D0:LSO:=[Aa 13 1,Aa 14 0,A2 15 14,Ak 16 13 15,Aa 17 16,.grp none 17 true
 [Ai 18 17 0,Ai 19 17 1,Bp 20 17 18 19,og 21 17 true (.bin .neq (tm 20) (.av (.int .u8 44)))]
 22 (tm 21),Aa 23 22,.grp none 23 true
 [Ai 24 23 0,Ai 25 23 1,Bp 26 23 24 25,og 27 23 true (.bin .neq (tm 26) (.av (.int .u8 43)))]
 28 (tm 27)]
def DZ:LSO:=[Aa 29 0,Aa 30 1,AI 31 29 30,Aa 9 31]
def DY:LSO:=[Aa 32 1,Ah 33 32 1,Aa 1 33]
def DX:LSO:=[Aa 34 1,Aa 35 0,A2 36 35,AJ 37 34 36,Aa 38 37,.grp none 38 false
 [Ag 39 38 0,Ag 40 38 1,BK 41 38 39 40,og 42 38 false (.bin .eql (tm 41) (.av (.int .u8 44)))]
 43 (tm 42),Aa 44 43,.grp none 44 false
 [Ag 45 44 0,Ag 46 44 1,BK 47 44 45 46,og 48 44 false (.bin .eql (tm 47) (.av (.int .u8 43)))]
 49 (tm 48),Aa 10 49]
def DW:LSO:=[Aa 50 9,o1 51 (.bin .eql (tm 50) (.av (.int .u8 92)))]
def DV:LSO:=[Aa 52 1,Aa 53 0,A2 54 53,Ak 55 52 54,Aa 56 55,.grp none 56 true
 [Ai 57 56 0,Ai 58 56 1,Bp 59 56 57 58,og 60 56 true (.call 102 [(tm 59),(.av (.str [34,43,44,59,60,62,92,32,35,61]))])]
 61 (tm 60)]
def DU:LSO:=[Aa 62 7,Aa 63 0,Aa 64 1,AI 65 63 64,AE 66 65,A9 67 62 66,Aa 7 67]
def vV:LSO:=[Aa 68 1,Ah 69 68 1,Aa 1 69]
def vU:LSO:=[Aa 70 1,Ah 71 70 2,Aa 72 0,A2 73 72,o1 74 (.bin .gtr (tm 71) (tm 73))]
def vT:LSO:=[Ao 4,Ac 5 0,An 6]
def vS:LSO:=[Aa 76 0,Aa 77 1,Aa 78 1,Ah 79 78 2,BR 80 76 77 79,Aj 81 141 80,Aa 75 81,Aq 82 75,Ar 83 75,Aa 11 82,Aa 12 83]
def vR:LSO:=[Aa 84 12,AA 85 84]
def vQ:LSO:=[Ao 4,Ac 5 0,An 6]
def vP:LSO:=[Aa 86 7,Aa 87 11,B3 88 87 0,AE 89 88,A9 90 86 89,Aa 7 90]
def vO:LSO:=[Aa 91 1,Ah 92 91 2,Aa 1 92]
def vN:LSO:=[Aa 93 9,BI 94 93,Aa 95 94,.grp none 95 false
 [Ag 96 95 9,og 97 95 false (.call 102 [(tm 96),(.av (.str [34,59,60,62]))])]
 98 (tm 97),Aa 99 98,.grp none 99 false
 [Ag 100 99 8,Ag 101 99 100,.grp (some (99,false)) 101 true
 [Ai 102 101 9,og 103 101 true (.call 102 [(tm 102),(.av (.str [32,35]))])]
 104 (tm 103)]
 105 (tm 104),Aa 106 105,.grp none 106 false
 [Ag 107 106 10,Ag 108 106 107,.grp (some (106,false)) 108 true
 [Ai 109 108 9,BD 110 108 109]
 111 (tm 110)]
 112 (tm 111)]
def vM:LSO:=[Ao 4,Ac 5 0,An 6]
def vL:LSO:=[Aa 113 7,Aa 114 9,AE 115 114,A9 116 113 115,Aa 7 116]
def vK:LSO:=[An 8]
def vJ:LSO:=[Aa 117 7,AN 118 117,Aa 119 1,Aa 4 118,Aa 5 119,AC 6]
def uB:aS:=⟨120,(.seq (.sreg D5 [])
 (.seq (.sreg D4 [])
 (.seq (.sreg D2 [])
 (.seq (.block 0 (.loop (.seq (.seq (.sreg D0 Cw)
 (.cond (tm 28) .skip
 (.exit 0)))
 (.block 1 (.seq (.sreg DZ Cr)
 (.seq (.sreg DY Cq)
 (.seq (.sreg DX C1)
 (.seq (.seq (.sreg DW Cp)
 (.cond (tm 51) (.seq (.sreg DV Ct)
 (.cond (tm 61) (.seq (.sreg DU Cu)
 (.sreg vV Cq))
 (.seq (.seq (.sreg vU Cs)
 (.cond (tm 74) (.seq (.sreg vT [])
 .ret)
 .skip))
 (.seq (.sreg vS CX)
 (.seq (.seq (.sreg vR Cp)
 (.cond (tm 85) (.seq (.sreg vQ [])
 .ret)
 .skip))
 (.seq (.sreg vP Ct)
 (.sreg vO Cq)))))))
 (.seq (.seq (.sreg vN Cw)
 (.cond (tm 112) (.seq (.sreg vM [])
 .ret)
 .skip))
 (.sreg vL Cs))))
 (.sreg vK [])))))))))
 (.seq (.sreg vJ CB)
 .ret))))),[(.tmp 4),(.tmp 5),(.tmp 6)]⟩
attribute [push_cast] D5 D4 D2 D0 DZ DY DX DW DV DU vV vU vT vS vR vQ vP vO vN vM vL vK vJ
theorem Q7:aT Tryz.prog (fun _ _=>1) 108=some uB.raw:=by kernel_rfl
def tL:LSO:=[Ao 2]
def tK:LSO:=[Ap 3]
def tJ:LSO:=[Ac 4 0]
def tI:LSO:=[Aa 6 4,Aa 7 0,A2 8 7,Ak 9 6 8]
def tH:LSO:=[Aa 12 0,Aa 13 4,AI 14 12 13,Aa 5 14]
def tG:LSO:=[Aa 15 5,BI 16 15]
def tF:LSO:=[Aa 17 3,o1 18 (.app 1 1 1 [(.int .u8 0)] (tm 17) (.av (.str [92,48,48]))),Aa 3 18]
def tE:LSO:=[Aa 19 5,o1 20 (.call 102 [(tm 19),(.av (.str [34,43,44,59,60,62,92]))]),Aa 21 20,.grp none 21 false
 [Ag 22 21 4,Bf 23 21 22 0,Ag 24 21 23,.grp (some (21,false)) 24 true
 [Ai 25 24 5,og 26 24 true (.call 102 [(tm 25),(.av (.str [32,35]))])]
 27 (tm 26)]
 28 (tm 27),Aa 29 28,.grp none 29 false
 [Ag 30 29 4,og 31 29 false (.bin .add (tm 30) (iv 1)),Ag 32 29 0,Bo 33 29 32,Cd 34 29 31 33,Ag 35 29 34,.grp (some (29,false)) 35 true
 [Ai 36 35 5,BD 37 35 36]
 38 (tm 37)]
 39 (tm 38)]
def tD:LSO:=[Aa 40 3,o1 41 (.bslice false 1 1 [(.int .u8 0)] [(0,(1,(.av (.int .u8 92))))]),A9 42 40 41,Aa 3 42]
def tC:LSO:=[Aa 43 3,Aa 44 5,AE 45 44,A9 46 43 45,Aa 3 46]
def ry:LSO:=[Aa 10 4,Ah 11 10 1,Aa 4 11]
def rx:LSO:=[Aa 47 3,AN 48 47,Aa 2 48]
def oB:aS:=⟨49,(.seq (.sreg tL [])
 (.seq (.sreg tK [])
 (.seq (.seq (.sreg tJ [])
 (.block 0 (.loop (.seq (.seq (.sreg tI Cr)
 (.cond (tm 9) .skip
 (.exit 0)))
 (.seq (.block 1 (.seq (.sreg tH Cr)
 (.seq (.seq (.sreg tG Cp)
 (.cond (tm 16) (.seq (.sreg tF Cq)
 (.exit 1))
 .skip))
 (.seq (.seq (.sreg tE Ct)
 (.cond (tm 39) (.sreg tD Cr)
 .skip))
 (.sreg tC Cs)))))
 (.sreg ry Cq))))))
 (.seq (.sreg rx Cq)
 .ret)))),[(.tmp 2)]⟩
attribute [push_cast] tL tK tJ tI tH tG tF tE tD tC ry rx
theorem Ow:aT Tryz.prog (fun _ _=>1) 103=some oB.raw:=by kernel_rfl
def Iv:LSO:=[Ao 2]
def Iu:LSO:=[Ao 3]
def It:LSO:=[Aa 8 0,Ae 9 8,Ac 10 0]
def Is:LSO:=[Ak 11 10 9]
def Ir:LSO:=[Aa 12 10,Al 13 1 8 10,Ab 14 1 13,Aa 4 12,Aa 5 14]
def Iq:LSO:=[Aa 15 4,A6 16 15 0]
def Ip:LSO:=[Aa 17 3,o1 18 (.bin .add (tm 17) (.av (.str [44]))),Aa 3 18]
def Io:LSO:=[Aa 19 5,Ae 20 19,Ac 21 0]
def Im:LSO:=[Ak 22 21 20]
def Il:LSO:=[Aa 23 21,Al 24 2 19 21,As 25 2 24,Bq 7,Aa 6 23,Af 2 7 25]
def Eb:LSO:=[Aa 26 6,A6 27 26 0]
def Ea:LSO:=[Aa 28 3,o1 29 (.bin .add (tm 28) (.av (.str [43]))),Aa 3 29]
def D9:LSO:=[Aa 30 3,Ad 31 0 7,Ab 32 1 31,AK 33 30 32,o1 34 (.bin .add (tm 33) (.av (.str [61]))),Ad 35 1 7,Ab 36 1 35,Aj 37 103 36,AK 38 34 37,Aa 3 38]
def D8:LSO:=[Ah 39 21 1,Aa 21 39]
def D7:LSO:=[Ah 40 10 1,Aa 10 40]
def D6:LSO:=[Aa 41 3,Aa 2 41]
def zg:aS:=⟨42,(.seq (.sreg Iv [])
 (.seq (.sreg Iu [])
 (.seq (.seq (.sreg It [])
 (.block 0 (.loop (.seq (.sreg Is [])
 (.seq (.cond (tm 11) .skip
 (.exit 0))
 (.seq (.block 1 (.seq (.sreg Ir Cz)
 (.seq (.seq (.sreg Iq Cp)
 (.cond (tm 16) (.sreg Ip Cq)
 .skip))
 (.seq (.sreg Io [])
 (.block 2 (.loop (.seq (.sreg Im [])
 (.seq (.cond (tm 22) .skip
 (.exit 2))
 (.seq (.block 3 (.seq (.sreg Il Cz)
 (.seq (.seq (.sreg Eb Cp)
 (.cond (tm 27) (.sreg Ea Cq)
 .skip))
 (.sdreg D9 [.pure,.pure,(.read 0 0),.pure,.pure,.pure,(.read 0 0),(.read 0 0)] Cy))))
 (.sreg D8 Cp))))))))))
 (.sreg D7 Cp)))))))
 (.seq (.sreg D6 Cp)
 .ret)))),[(.tmp 2)]⟩
attribute [push_cast] Iv Iu It Is Ir Iq Ip Io Im Il Eb Ea D9 D8 D7 D6
theorem SC:aT Tryz.prog (fun _ _=>1) 69=some zg.raw:=by kernel_rfl
def EJ:LSO:=[Ao 2,Ac 3 0]
def EI:LSO:=[Ac 4 0]
def EH:LSO:=[Aa 9 0,Ae 10 9,Ac 11 0]
def EG:LSO:=[Ak 12 11 10]
def EF:LSO:=[Aa 13 11,Al 14 1 9 11,Ab 15 1 14,Aa 5 13,Aa 6 15]
def EE:LSO:=[Aa 16 5,Au 17 16 32]
def ED:LSO:=[Ao 2,Ac 3 9]
def EB:LSO:=[Aa 18 6,Ae 19 18,Au 20 19 0]
def EA:LSO:=[Ao 2,Ac 3 2]
def Ez:LSO:=[Aa 21 6,Ae 22 21,Ac 23 0]
def wJ:LSO:=[Ak 24 23 22]
def wI:LSO:=[Aa 25 23,Al 26 2 21 23,As 27 2 26,Bq 8,Aa 7 25,Af 2 8 27]
def wH:LSO:=[Aa 28 7,Au 29 28 8]
def wF:LSO:=[Ao 2,Ac 3 9]
def wD:LSO:=[Ad 30 0 8,Ab 31 1 30,Aj 32 67 31,AA 33 32]
def wC:LSO:=[Ao 2,Ac 3 20]
def wB:LSO:=[Aa 34 6,Aa 35 7,Cj 36 34 35,Ad 37 0 8,Ab 38 1 37,Ay 39 68 36 38]
def wy:LSO:=[Ao 2,Ac 3 21]
def ww:LSO:=[Aa 40 4,Ad 41 1 8,Ab 42 1 41,A2 43 42,o1 44 (.minmax false [(tm 43),(iv 5000)]),AK 45 40 44,Aa 4 45]
def wu:LSO:=[Ah 46 23 1,Aa 23 46]
def wo:LSO:=[Ah 47 11 1,Aa 11 47]
def wn:LSO:=[Aa 48 4,A6 49 48 4096,Aa 50 49,.grp none 50 false
 [Ag 51 50 0,Bx 52 50 69 51,Bo 53 50 52,AD 54 50 53 4096]
 55 (tm 54)]
def wl:LSO:=[Ao 2,Ac 3 5]
def wj:LSO:=[Aa 56 0,Aj 57 69 56,Aa 2 57,Ac 3 0]
def uD:aS:=⟨58,(.seq (.sreg EJ [])
 (.seq (.sreg EI [])
 (.seq (.seq (.sreg EH [])
 (.block 0 (.loop (.seq (.sreg EG [])
 (.seq (.cond (tm 12) .skip
 (.exit 0))
 (.seq (.block 1 (.seq (.sreg EF Cz)
 (.seq (.seq (.sreg EE Cp)
 (.cond (tm 17) (.seq (.sreg ED [])
 .ret)
 .skip))
 (.seq (.seq (.sreg EB Cq)
 (.cond (tm 20) (.seq (.sreg EA [])
 .ret)
 .skip))
 (.seq (.sreg Ez [])
 (.block 2 (.loop (.seq (.sreg wJ [])
 (.seq (.cond (tm 24) .skip
 (.exit 2))
 (.seq (.block 3 (.seq (.sreg wI Cz)
 (.seq (.seq (.sreg wH Cp)
 (.cond (tm 29) (.seq (.sreg wF [])
 .ret)
 .skip))
 (.seq (.seq (.sreg wD Cr)
 (.cond (tm 33) (.seq (.sreg wC [])
 .ret)
 .skip))
 (.seq (.seq (.sdreg wB [.pure,.pure,(.read 0 0),.pure,(.read 0 0)] Ct)
 (.cond (tm 39) (.seq (.sreg wy [])
 .ret)
 .skip))
 (.sreg ww Cu))))))
 (.sreg wu Cp)))))))))))
 (.sreg wo Cp)))))))
 (.seq (.seq (.sreg wn Cr)
 (.cond (tm 55) (.seq (.sreg wl [])
 .ret)
 .skip))
 (.seq (.sreg wj C2)
 .ret))))),[(.tmp 2),(.tmp 3)]⟩
attribute [push_cast] EJ EI EH EG EF EE ED EB EA Ez wJ wI wH wF wD wC wB wy ww wu wo wn wl wj
theorem Q9:aT Tryz.prog (fun _ _=>1) 35=some uD.raw:=by kernel_rfl
def El:LSO:=[Ap 2]
def Ek:LSO:=[Ap 3]
def Ej:LSO:=[Aa 12 0,Ae 13 12,Ac 14 0]
def Ei:LSO:=[Ak 15 14 13]
def Eh:LSO:=[Al 16 1 12 14,Ab 17 1 16,Aa 5 17]
def Eg:LSO:=[Ap 6]
def Ef:LSO:=[Aa 18 5,Ae 19 18,Ac 20 0]
def Ee:LSO:=[Ak 21 20 19]
def Ed:LSO:=[Al 22 2 18 20,As 23 2 22,Bq 8,Af 2 8 23]
def Ec:List (am×Kd) :=
 [Aw 24 0 8,Ax 25 1 24 0 1,AS 26 101 25 0 1,Aw 27 1 8,Ax 28 1 27 0 1,AS 29 118 28 0 1,od 30 (.build [(.str []),(.str [])] [(0,(1,(tm 26))),(1,(1,(tm 29)))]) .pure,
 od 9 (.alloc [(.str []),(.str [])]) .eff]
def vW:List am :=
 [⟨none,(.store 2 (tm 9) (tm 30)),none⟩]
def wi:LSO:=[Aa 31 6,Ae 32 31,Aa 10 32]
def wh:LSO:=[Aa 33 10,A6 34 33 0,Aa 35 34,.grp none 35 true
 [Ai 36 35 6,Ai 37 35 10,BB 38 35 37 1,Bn 39 35 2 36 38,A5 40 35 0 39,A4 41 35 1 40,og 42 35 true (.bin .add (tm 41) (.av (.str [61]))),Ai 43 35 6,Ai 44 35 10,BB 45 35 44 1,
 Bn 46 35 2 43 45,A5 47 35 1 46,A4 48 35 1 47,og 49 35 true (.call 103 [(tm 48)]),og 50 35 true (.bin .add (tm 42) (tm 49)),A5 51 35 0 9,A4 52 35 1 51,
 og 53 35 true (.bin .add (tm 52) (.av (.str [61]))),A5 54 35 1 9,A4 55 35 1 54,og 56 35 true (.call 103 [(tm 55)]),og 57 35 true (.bin .add (tm 53) (tm 56)),
 og 58 35 true (.bin .gtr (tm 50) (tm 57))]
 59 (tm 58)]
def wg:LSO:=[Aa 60 10,AX 61 60 1,Aa 10 61]
def wc:LSO:=[Ap 11]
def wb:LSO:=[Aa 62 11,Aa 63 6,Aa 64 10,Cj 65 63 64,BJ 66 62 65,Aa 11 66]
def wa:LSO:=[Aa 67 11,As 68 2 9,BS 69 68,BJ 70 67 69,Aa 11 70]
def v8:LSO:=[Aa 71 11,Aa 72 6,Aa 73 10,o1 74 (.slV 2 (tm 72) (some (tm 73)) none none),BJ 75 71 74,Aa 11 75]
def v7:LSO:=[Aa 76 11,Aa 6 76]
def v6:LSO:=[Ah 77 20 1,Aa 20 77]
def vZ:LSO:=[Aa 78 3,Aa 79 6,Be 80 79,Bg 81 78 80,Aa 3 81]
def vY:LSO:=[Ah 82 14 1,Aa 14 82]
def vX:LSO:=[Aa 83 3,Aa 2 83]
def uC:aS:=⟨84,(.seq (.sreg El [])
 (.seq (.sreg Ek [])
 (.seq (.seq (.sreg Ej [])
 (.block 0 (.loop (.seq (.sreg Ei [])
 (.seq (.cond (tm 15) .skip
 (.exit 0))
 (.seq (.block 1 (.seq (.sreg Eh Cq)
 (.seq (.sreg Eg [])
 (.seq (.seq (.sreg Ef [])
 (.block 2 (.loop (.seq (.sreg Ee [])
 (.seq (.cond (tm 21) .skip
 (.exit 2))
 (.seq (.block 3 (.seq (.sreg Ed Cq)
 (.seq (.dregM Ec vW Cw)
 (.seq (.sreg wi Cq)
 (.seq (.block 4 (.loop (.seq (.seq (.sdreg wh [.pure,.pure,.pure,.pure,.pure,.pure,(.read 0 0),.pure,(.read 0 0),.pure,.pure,.pure,.pure,(.read 0 0),.pure,(.read 0 0),(.read 0 0),.pure,.pure,(.read 0 0),.pure,.pure,(.read 0 0),(.read 0 0),.pure] Cr)
 (.cond (tm 59) .skip
 (.exit 4)))
 (.block 5 (.sreg wg Cq)))))
 (.seq (.sreg wc [])
 (.seq (.sreg wb Ct)
 (.seq (.sreg wa Cs)
 (.seq (.sreg v8 Ct)
 (.sreg v7 Cp))))))))))
 (.sreg v6 Cp)))))))
 (.sreg vZ Cs)))))
 (.sreg vY Cp)))))))
 (.seq (.sreg vX Cp)
 .ret)))),[(.tmp 2)]⟩
attribute [push_cast] El Ek Ej Ei Eh Eg Ef Ee Ed Ec vW wi wh wg wc wb wa v8 v7 v6 vZ vY vX
theorem Q8:aT Tryz.prog (fun _ _=>1) 87=some uC.raw:=by kernel_rfl
def I1:LSO:=[Ao 2,Ac 3 0]
def I0:LSO:=[Aa 7 0,Aj 8 35 7,Aa 6 8,Aq 9 6,Ar 10 6,Aa 4 9,Aa 5 10]
def IZ:LSO:=[Aa 11 5,A0 12 11 0]
def IY:LSO:=[Aa 13 5,Ao 2,Aa 3 13]
def IX:LSO:=[Aa 14 0,Aj 15 87 14,Aj 16 69 15,Aa 2 16,Ac 3 0]
def zk:aS:=⟨17,(.seq (.sreg I1 [])
 (.seq (.sreg I0 Cu)
 (.seq (.seq (.sreg IZ Cp)
 (.cond (tm 12) (.seq (.sreg IY Cv)
 .ret)
 .skip))
 (.seq (.sreg IX Cz)
 .ret)))),[(.tmp 2),(.tmp 3)]⟩
attribute [push_cast] I1 I0 IZ IY IX
theorem SH:aT Tryz.prog (fun _ _=>1) 86=some zk.raw:=by kernel_rfl
attribute [push_cast] zh Ox KM uB oB zg uD uC zk
variable {L:List Blk} {K:afC}
set_option maxHeartbeats 8000000
set_option maxRecDepth 100000
theorem mU {l:List UInt8} {x:UInt8} (hn:l.length<=1100000) (h:K (.bool (l.contains x)) L) :
  afB 102 [.int .u8 x.toNat,.str l] L K:=by
 replace h:=hid h;refine acg U4 ?_;refine ah (fun n T' L'=>∃ (i:Nat),n=l.length - i/\i<=l.length/\Hid (∀ j,j<i->l.getD j 0≠x)/\T'=[(5,.int .i64 (i:Int)),(0,.int .u8 x.toNat),(1,.str l)]/\L=L') (CutS (b:=ahn _)) ⟨0,rfl,ahp _,hid (by simp),rfl,rfl⟩ ?_;rintro _ _ _ ⟨i,rfl,hi,hno,rfl,rfl⟩;by_cases hlt:i<l.length
 ·have h1:(i:Int)<(l.length:Int):=by omega
  have h2:=ace i (by omega);obtain ⟨p,hp⟩:=aaR (l.getD i 0);by_cases hpq:p=x
  ·have hc:l.contains x=true:=by
    rw [aiV,<- hpq,<- hp,ahE,ahB hlt];exact ain _
   have h':=h.out;rw [hc] at h';replace h':=hid h';clear hc;subst hpq;refine wk ?_;exact af h'.out
  ·have k1:¬ (p.toNat:Int)=(x.toNat:Int):=fun e=>hpq ((bF p x).1 e)
   have hp':=hid hp;refine wk ?_;refine aq _ _ _ (by omega) (CutS (b:=ahn _)) ⟨i+1,rfl,hlt,hid fun j hj=>?_,rfl,rfl⟩;rcases ahT j i with e|e
   ·exact hno.out j e
   ·have:j=i:=by omega
    subst this;rw [hp];exact hpq
 ·have hke:i=l.length:=by omega
  subst hke;have h1:¬ (l.length:Int)<(l.length:Int):=by omega
  have hc:l.contains x=false:=by
   rw [<- ai9,aiV];intro hm;obtain ⟨j,hj,e⟩:=aiv.1 hm;exact hno.out j hj (by simp [hj,e])
  have h':=h.out;rw [hc] at h';replace h':=hid h';clear hc;refine wk ?_;exact af h'.out
abbrev oe:List UInt8:=[97,98,99,100,101,102,103,104,105,106,107,108,109,110,111,112,113,114,115,116,117,118,119,120,121,122]
abbrev VL:List UInt8:=[48,49,50,51,52,53,54,55,56,57,45]
theorem aeD:∀ n:_root_.Fin 256,oe.contains (eJ (UInt8.ofNat n.val))=oj (n.val:Int)/\(oe.contains (eJ (UInt8.ofNat n.val)) || VL.contains (eJ (UInt8.ofNat n.val)))=OJ (n.val:Int):=by decide +kernel
theorem Wp (c:UInt8):oe.contains (eJ c)=oj (c.toNat:Int)/\(oe.contains (eJ c) || VL.contains (eJ c))=OJ (c.toNat:Int):=by
 have:=aeD ⟨c.toNat,c.toNat_lt⟩;simpa using this
def okC (j:Nat) (c:UInt8):Bool:=oe.contains (eJ c) || (decide (0<j) && VL.contains (eJ c))
theorem aca (s:List UInt8):ku s=true↔(1<=s.length/\s.length<=32)/\∀ j,j<s.length->okC j (s.getD j 0)=true:=by
 simp only [ku,aht,decide_eq_true_eq,ahC];constructor
 ·rintro ⟨⟨⟨h1,h2⟩,h3⟩,h4⟩;refine ⟨⟨h1,h2⟩,fun j hj=>?_⟩;obtain ⟨e1,e2⟩:=Wp (s.getD j 0);by_cases h0:j=0
  ·subst h0;rw [okC,e1,h3];rfl
  ·have hm:s.getD j 0∈s:=by simp [hj]
   have:=h4 _ hm;rw [<- e2] at this;rw [okC,show decide (0<j)=true by simp;omega,aid];exact this
 ·rintro ⟨⟨h1,h2⟩,h3⟩;refine ⟨⟨⟨h1,h2⟩,?_⟩,fun c hc=>?_⟩
  ·have:=h3 0 (by omega);rw [okC] at this;simp only [Nat.lt_irrefl,decide_false,aiC,Bool.or_false] at this;rw [<- (Wp _).1];exact this
  ·obtain ⟨j,hj,rfl⟩:=aiv.1 hc;have:=h3 j hj;have e:s.getD j 0=s[j]:=by simp [hj]
   rw [e,okC] at this;rw [<- (Wp _).2];cases hl:oe.contains (eJ s[j]) with
   | true=>rfl
   | false =>
     rw [hl,ai3,aht] at this;rw [this.2];rfl
theorem W4 {s:List UInt8} (hs:(s.length:Int)<=140737488351232) (h:K (.bool (ku s)) L):afB 67 [.str s] L K:=by
 replace h:=hid h;obtain ⟨t,ht⟩:=aaR (aH s);have htl:t.length=s.length:=by rw [<- ht];simp [aH]
 have hg:∀ j,j<s.length->t.getD j 0=eJ (s.getD j 0):=fun j hj=>by rw [<- ht];simp [aH,hj]
 replace htl:=hid htl;replace hg:=hid hg;have hit:=hid (aca s);refine acg SD ?_;refine Xb hs ?_;rw [ht];refine sk ?_;refine wk ?_;refine ah (fun n T' L'=>∃ (i:Nat) (b:Bool),n=s.length+1 - i/\i<=s.length/\Hid (b=true↔(1<=s.length/\s.length<=32)/\∀ j,j<i->okC j (s.getD j 0)=true)/\T'=[(5,.int .i64 (i:Int)),(4,.bool b),(3,.str t)]/\L=L') (CutS (b:=ahn _)) ⟨0,_,rfl,ahp _,hid (by have:=htl.out;simp;omega),rfl,rfl⟩ ?_;rintro _ _ _ ⟨i,b,rfl,hi,hb,rfl,rfl⟩;have htl':=htl.out;by_cases hlt:i<s.length
 ·have g1:(i:Int)<(t.length:Int):=by omega
  have g2:=ace i (by omega);have g3:=hg.out i hlt;obtain ⟨c,hc⟩:=aaR (s.getD i 0);rw [hc] at g3;replace hc:=hid hc;clear htl';cases b with
  | false =>
    have hf:ku s=false:=by
     rw [<- ai9,hit.out];intro ⟨q1,q2⟩;have:=hb.out.2 ⟨q1,fun j hj=>q2 j (by omega)⟩;cases this
    have h':=h.out;rw [hf] at h';replace h':=hid h';clear hf;refine wk ?_;exact af h'.out
  | true =>
    have hnext:okC i c=true↔((1<=s.length/\s.length<=32)/\∀ j,j<i+1->okC j (s.getD j 0)=true):=by
     have hb1:=hb.out.1 rfl;constructor
     ·intro e;refine ⟨hb1.1,fun j hj=>?_⟩;rcases ahT j i with q|q
      ·exact hb1.2 j q
      ·have:j=i:=by omega
       subst this;rw [hc.out];exact e
     ·rintro ⟨_,e⟩;have:=e i (by omega)
      rwa [hc.out] at this
    replace hnext:=hid hnext;have hok:okC i c=(oe.contains (eJ c) || (decide (0<i) && VL.contains (eJ c))):=rfl;replace hok:=hid hok;refine wk ?_;refine mU (by simp) ?_;cases hl:oe.contains (eJ c) with
    | true =>
      have hk:=hid (show okC i c=true by rw [hok.out,hl];rfl);refine sk ?_;refine wk ?_;exact aq _ _ _ (by omega) (CutL (b:=ahn _)) ⟨i+1,true,rfl,hlt,hid (by rw [<- hnext.out,hk.out]),rfl,rfl⟩
    | false =>
      by_cases h0:i=0
      ·have hk:=hid (show okC i c=false by rw [hok.out,hl,h0];rfl);have k0:¬ (0:Int)<(i:Int):=by omega
       clear h0;refine sk ?_;refine wk ?_;exact aq _ _ _ (by omega) (CutL (b:=ahn _)) ⟨i+1,false,rfl,hlt,hid (by rw [<- hnext.out,hk.out]),rfl,rfl⟩
      ·have hk:=hid (show okC i c=VL.contains (eJ c) by rw [hok.out,hl,show decide (0<i)=true by simp;omega];simp);have k0:(0:Int)<(i:Int):=by omega
       clear h0;refine sk ?_
       repeat' first
        | refine cP ?_
        | (first|refine bY (by kernel_rfl) ?_|refine bj (by kernel_rfl) ?_|refine bm ?_|refine fy ?_|refine cT (fun _=>?_)|refine a8 ?_|refine b9 ?_)
          refine sm ?_
        | (first|refine bU (by kernel_rfl) ?_|refine bT ?_|refine bZ ?_|refine cY (a7 ?_))
          refine sl ?_
        | exact cU
        | first|apply cV|apply bV|apply cW|apply bW|apply cX|apply bX
        | refine br ?_
        | first|refine bp rfl ?_|refine bq rfl ?_|refine aW rfl ?_ ?_|refine bz rfl (fun _=>?_) (fun _=>?_)|refine bw rfl (fun _=>?_) (fun _=>?_)
        | ((first|refine aV (fun _=>?_) (fun _=>?_)|refine a6 (fun _=>?_) (fun _=>?_))<;>try refine sm ?_)
        | refine And.intro trivial ?_
        | refine And.intro (by omega) ?_
        | refine bA rfl (fun _=>?_) (fun _=>?_)
        | refine And.intro ?_ ?_
       refine bf (mU (by simp) ⟨rfl,rfl⟩) ?_;simp only [Kon,push_cast,reduceIte,Nat.reduceEqDiff,Nat.reduceAdd,Nat.reduceMul,Nat.reduceSub,Nat.reduceLT,Nat.reduceLeDiff,Int.reduceLT,Int.reduceLE,Int.reduceAdd,Int.reduceSub,Int.reduceNeg,Int.reduceToNat,Int.reduceEq,reduceCtorEq, *]
       repeat' first
        | refine cP ?_
        | (first|refine bY (by kernel_rfl) ?_|refine bj (by kernel_rfl) ?_|refine bm ?_|refine fy ?_|refine cT (fun _=>?_)|refine a8 ?_|refine b9 ?_)
          refine sm ?_
        | (first|refine bU (by kernel_rfl) ?_|refine bT ?_|refine bZ ?_|refine cY (a7 ?_))
          refine sl ?_
        | exact cU
        | first|apply cV|apply bV|apply cW|apply bW|apply cX|apply bX
        | refine br ?_
        | first|refine bp rfl ?_|refine bq rfl ?_|refine aW rfl ?_ ?_|refine bz rfl (fun _=>?_) (fun _=>?_)|refine bw rfl (fun _=>?_) (fun _=>?_)
        | ((first|refine aV (fun _=>?_) (fun _=>?_)|refine a6 (fun _=>?_) (fun _=>?_))<;>try refine sm ?_)
        | refine And.intro trivial ?_
        | refine And.intro (by omega) ?_
        | refine bA rfl (fun _=>?_) (fun _=>?_)
        | refine And.intro ?_ ?_
       exact aq _ _ _ (by omega) (CutL (b:=ahn _)) ⟨i+1,VL.contains (eJ c),rfl,hlt,hid (by rw [<- hnext.out,hk.out]),rfl,rfl⟩
 ·have hke:i=s.length:=by omega
  subst hke;have g1:¬ (s.length:Int)<(t.length:Int):=by omega
  have hfin:b=ku s:=by
   have e:=hb.out.trans hit.out.symm;cases b<;>cases hs':ku s<;>simp_all
  have h':=h.out;rw [<- hfin] at h';replace h':=hid h';clear hfin;clear htl';refine wk ?_;exact af h'.out
theorem ZM {s:List UInt8} (hs:(s.length:Int)<=100000) (h:K (.bool (ku s)) L):afB 67 [.str s] L K:=W4 (by omega) h
theorem acw {r:List Ava} {typ:List UInt8} {cap:Option Nat} (hn:r.length<=100000) (h1:∀ a∈r,(a.1.length:Int)<=100000) (h2:(typ.length:Int)<=100000) (h:K (.bool (lH r typ)) L) :
  afB 68 [YD r cap,.str typ] L K:=by
 replace h:=hid h;replace h1:=hid h1;refine acg UA ?_;refine ah (fun n T' L'=>∃ (k:Nat) (Z:List Blk),n=r.length - k/\k<=r.length/\Hid (lH (r.take k) typ=false)/\T'=[(9,.int .i64 (k:Int)),(8,.int .i64 r.length),(7,YD r cap),(1,.str typ)]/\L'=L++Z) (CutS (b:=by simp)) ⟨0,[],rfl,ahp _,hid rfl,rfl,by simp⟩ ?_;rintro _ _ _ ⟨k,Z,rfl,hk,hf,rfl,rfl⟩;by_cases hlt:k<r.length
 ·have g1:(k:Int)<(r.length:Int):=by omega
  have g2:=ace k (by omega);have e1:=fW hlt;have e2:k * 2+2<=(aN r).length:=by rw [cr];omega
  obtain ⟨⟨ty,va⟩,ha⟩:∃ a,r.getD k ([],[])=a:=⟨_,rfl⟩;have ham:(ty,va)∈r:=by rw [<- ha];simp [hlt]
  have htk:r.take (k+1)=r.take k++[(ty,va)]:=by rw [ahK hlt,<- ha];simp [hlt]
  rw [ha] at e1;simp only [oC] at e1;have hs:lH (r.take (k+1)) typ=decide (aH ty=aH typ):=by
   have:=hf.out;simp only [lH] at this ⊢;rw [htk,ajM,this];simp
  have ha1:=h1.out _ ham;simp only at ha1;have hall:aH ty=aH typ->lH r typ=true:=fun e=>aiY.2 ⟨_,ham,by simpa using e⟩
  replace hall:=hid hall;replace hs:=hid hs;clear ha ham htk;by_cases hq:aH ty=aH typ
  ·have h':=h.out;rw [hall.out hq] at h';replace h':=hid h';have kk1:=@hid _ (fun L K=>mN ha1 (L:=L) (K:=K));have kk2:=@hid _ (fun L K=>mN h2 (L:=L) (K:=K));refine wk ?_;exact ab rfl h'.out
  ·have kk1:=@hid _ (fun L K=>mN ha1 (L:=L) (K:=K));have kk2:=@hid _ (fun L K=>mN h2 (L:=L) (K:=K));refine wk ?_;exact aq _ _ _ (by omega) (CutL (b:=by simp)) ⟨k+1,_,rfl,hlt,hid (by rw [hs.out];simpa using hq),rfl,rfl⟩
 ·have hke:k=r.length:=by omega
  subst hke;have g1:¬ (r.length:Int)<(r.length:Int):=by omega
  have hn':=hf.out;rw [ahA] at hn';have h':=h.out;rw [hn'] at h';replace h':=hid h';clear hn';refine wk ?_;exact ab rfl h'.out
theorem mu {s:List UInt8} (hs:s.length<=100000) (h:K (.str (fY s)) L):afB 103 [.str s] L K:=by
 replace h:=hid h;refine acg Ow ?_;refine bi (l:=[]) (n:=0) 3 1 rfl (ahQ 1).symm ?_;refine ah (fun n T' L'=>∃ (i m:Nat) (b:List UInt8),n=s.length - i/\i<=s.length/\m<=3 * i/\Hid (m=b.length/\b++wrL s.length i (s.drop i)=fY s)/\T'=[(4,.int .i64 (i:Int)),(3,.gsl (u8s b) m L.length 1),(0,.str s)]/\L'=L++[.spare m 1]) (CutS (b:=by simp)) ⟨0,0,[],rfl,ahp _,by omega,hid ⟨rfl,rfl⟩,rfl,rfl⟩ ?_;rintro _ _ _ ⟨i,m,b,rfl,hi,hm,hb,rfl,rfl⟩;by_cases hlt:i<s.length
 ·have g1:(i:Int)<(s.length:Int):=by omega
  have g2:=ace i (by omega);obtain ⟨c,hc⟩:=aaR (s.getD i 0);have hdr:=KG hlt;rw [hc] at hdr;have hb2:=hb.out.2;rw [hdr] at hb2;simp only [wrL] at hb2;clear hdr;replace hb2:=hid hb2;obtain ⟨p1,hp1⟩:=aaR (([34,43,44,59,60,62,92]:List UInt8).contains c);obtain ⟨p2,hp2⟩:=aaR (([32,35]:List UInt8).contains c);have hq1:p1=true↔c∈([34,43,44,59,60,62,92]:List UInt8):=by rw [<- hp1,aiV]
  have hq2:p2=true↔(c=32\/c=35):=by rw [<- hp2,aiV];simp
  replace hq1:=hid hq1;replace hq2:=hid hq2
  repeat' first
   | refine cP ?_
   | (first|refine bY (by kernel_rfl) ?_|refine bj (by kernel_rfl) ?_|refine bm ?_|refine fy ?_|refine cT (fun _=>?_)|refine a8 ?_|refine b9 ?_|refine mU (by simp) ?_|refine cA (mU (by simp) ⟨rfl,rfl⟩) (mU (by simp) ⟨rfl,rfl⟩) ?_|refine bf (mU (by simp) ⟨rfl,rfl⟩) ?_)
     refine sm ?_
   | (first|refine bU (by kernel_rfl) ?_|refine bT ?_|refine bZ ?_|refine cY (a7 ?_))
     refine sl ?_
   | exact cU
   | first|apply cV|apply bV|apply cW|apply bW|apply cX|apply bX
   | refine br ?_
   | first|refine bp rfl ?_|refine bq rfl ?_|refine aW rfl ?_ ?_|refine bz rfl (fun _=>?_) (fun _=>?_)|refine bw rfl (fun _=>?_) (fun _=>?_)
   | ((first|refine aV (fun _=>?_) (fun _=>?_)|refine a6 (fun _=>?_) (fun _=>?_))<;>try refine sm ?_)
   | refine And.intro trivial ?_
   | refine And.intro (by omega) ?_
   | refine bA rfl (fun _=>?_) (fun _=>?_)
   | refine And.intro ?_ ?_
  ·rfl
  ·omega
  ·rename_i h0
   have hc0:=(bF c 0).1 h0;rw [show u8s b++AV.frzL (u8s [92,48,48])=u8s (b++[92,48,48]) by simp [u8s,AV.frzL,AV.frz]];refine aq _ _ _ (by omega) (CutL (b:=by simp)) ⟨i+1,m+3,b++[92,48,48],rfl,hlt,by omega,hid ⟨by simp [hb.out.1],?_⟩,rfl,rfl⟩;rw [<- hb2.out,wrB,if_pos hc0,ahz]
  ·rename_i h0 h1
   have hc0:¬ c=0:=fun e=>h0 ((bF c 0).2 e)
   have hq:(i=0/\(c=32\/c=35))\/(i+1=s.length/\c=32)\/c∈[34,43,44,59,60,62,92]:=by
    simp only [aic,aht,decide_eq_true_eq] at h1;rcases h1 with (e|⟨e1,e2⟩)|⟨e1,e2⟩
    ·exact .inr (.inr (hq1.out.1 e))
    ·exact .inl ⟨by omega,hq2.out.1 e2⟩
    ·exact .inr (.inl ⟨by omega,(bF c 32).1 e2⟩)
   rw [show u8s b++[AV.int IntKind.u8 92,AV.int IntKind.u8 (c.toNat:Int)]=u8s (b++[92,c]) by simp [u8s]];refine aq _ _ _ (by omega) (CutL (b:=by simp)) ⟨i+1,m+1+1,b++[92,c],rfl,hlt,by omega,hid ⟨by simp [hb.out.1],?_⟩,rfl,rfl⟩;rw [<- hb2.out,wrB,if_neg hc0,if_pos hq,ahz]
  ·rename_i h0 h1
   have hc0:¬ c=0:=fun e=>h0 ((bF c 0).2 e)
   have hq:¬ ((i=0/\(c=32\/c=35))\/(i+1=s.length/\c=32)\/c∈[34,43,44,59,60,62,92]):=fun hq=>by
    rw [<- ai9] at h1;refine h1 ?_;simp only [aic,aht,decide_eq_true_eq];rcases hq with ⟨e1,e2⟩|⟨e1,e2⟩|e
    ·exact .inl (.inr ⟨by omega,hq2.out.2 e2⟩)
    ·exact .inr ⟨by omega,(bF c 32).2 e2⟩
    ·exact .inl (.inl (hq1.out.2 e))
   rw [show u8s b++[AV.int IntKind.u8 (c.toNat:Int)]=u8s (b++[c]) by simp [u8s]];refine aq _ _ _ (by omega) (CutL (b:=by simp)) ⟨i+1,m+1,b++[c],rfl,hlt,by omega,hid ⟨by simp [hb.out.1],?_⟩,rfl,rfl⟩;rw [<- hb2.out,wrB,if_neg hc0,if_neg hq,ahz]
 ·have hke:i=s.length:=by omega
  subst hke;have g1:¬ (s.length:Int)<(s.length:Int):=by omega
  have e1:=kH b;have e2:=iR b;have e:=hb.out.2;rw [aij,wrL,ahO] at e;have h':=h.out;rw [<- e] at h';replace h':=hid h';clear e;refine wk ?_;exact ab rfl h'.out
def abw (n:Nat):Nat:=if n<10 then 48+n else 87+n
theorem G0 {n:Nat} (hn:n<16) (h:K (.int .u8 (abw n:Nat)) L):afB 167 [.int .u8 n] L K:=by
 unfold abw at h;refine aa Rb (by simp [uF]) ?_;simp only [uF,ag];by_cases h1:n<10
 ·rw [if_pos h1] at h;replace h:=hid h;have k1:(n:Int)<10:=by omega
  have k2:IntKind.u8.wrap (48+(n:Int))=48+(n:Int):=cq (by omega) (by omega);clear h1;refine wk ?_;refine af ?_;simpa using h.out
 ·rw [if_neg h1] at h;replace h:=hid h;have k1:¬ (n:Int)<10:=by omega
  have k2:IntKind.u8.wrap (97+(n:Int))=97+(n:Int):=cq (by omega) (by omega);have k3:IntKind.u8.wrap (97+(n:Int) - 10)=97+(n:Int) - 10:=cq (by omega) (by omega);clear h1;refine wk ?_;refine af ?_;have:=h.out
  rwa [show ((87+n:Nat):Int)=97+(n:Int) - 10 by omega] at this
theorem aeI:∀ (a:_root_.Fin 256) (x:_root_.Fin 16),(abw x.val=(eJ (UInt8.ofNat a.val)).toNat)↔lp (UInt8.ofNat a.val)=some x.val:=by decide +kernel
theorem agJ {a:UInt8} {x:Nat} (hx:x<16):((abw x:Nat):Int)=((eJ a).toNat:Int)↔lp a=some x:=by
 have:=aeI ⟨a.toNat,a.toNat_lt⟩ ⟨x,hx⟩;simp only [UInt8.ofNat_toNat] at this;rw [<- this];omega
def YY (a b:UInt8) (k:Nat):Prop:=lp a=some (k / 16)/\lp b=some (k % 16)
theorem abf {a b:UInt8} {k:Nat} (h:YY a b k):QB a b=some (UInt8.ofNat k):=by
 obtain ⟨h1,h2⟩:=h;simp only [QB,h1,h2]
 congr 2;omega
theorem abg {a b:UInt8} (h:∀ j,j<256->¬ YY a b j):QB a b=none:=by
 unfold QB;rcases h1:lp a with _|x
 ·rfl
 ·rcases h2:lp b with _|y
  ·rfl
  ·have:=K9 h1;have:=K9 h2;exact absurd ⟨by rw [h1];congr 1;omega,by rw [h2];congr 1;omega⟩ (h (16 * x+y) (by omega))
theorem aaM {a b:UInt8} (h:K (Oi a b) L):afB 141 [.str [a,b]] L K:=by
 obtain ⟨p,hp⟩:=aaR (eJ a);obtain ⟨q,hq⟩:=aaR (eJ b);have hf:aH [a,b]=[p,q]:=by simp [aH,hp,hq]
 have hl:[p,q].length=2:=rfl;have hl':[a,b].length=2:=rfl;have ha:[p,q].getD 0 0=p:=rfl;have hb:[p,q].getD 1 0=q:=rfl;have d1:Int.tmod 2 2=0:=by decide
 replace h:=hid h;refine acg Rc ?_;refine mN (by simp) ?_;rw [hf];refine sk ?_;refine wk ?_;refine bi (l:=[]) (n:=0) 4 1 rfl (ahQ 1).symm ?_;refine ah (fun n T' L'=>(n=1/\T'=[(6,.int .i64 0),(4,.gsl [] 0 L.length 1),(5,.str [p,q]),(0,.str [a,b])]/\L'=L++[.spare 0 1])\/(n=0/\∃ (x:UInt8) (w:List AV),Hid (QB a b=some x/\w=u8s [x])/\T'=[(6,.int .i64 2),(4,.gsl w 1 L.length 1),(5,.str [p,q]),(0,.str [a,b])]/\L'=L++[.spare 1 1])) (n0:=1) (T0:=[(6,.int .i64 0),(4,.gsl [] 0 L.length 1),(5,.str [p,q]),(0,.str [a,b])]) (L0:=L++[.spare 0 1]) (CutS (b:=by simp)) (.inl ⟨rfl,rfl,rfl⟩) ?_;rintro _ _ _ (⟨rfl,rfl,rfl⟩|⟨rfl,x,w,hx,rfl,rfl⟩)
 ·refine wk ?_;refine ah (fun n T' L'=>(∃ k:Nat,n=257 - k/\k<=256/\Hid (∀ j,j<k->¬ YY a b j)/\T'=[(8,.int .i64 (k:Int)),(7,.bool false),(6,.int .i64 0),(4,.gsl [] 0 L.length 1),(5,.str [p,q]),(0,.str [a,b])]/\L'=L++[.spare 0 1])\/(n=0/\∃ (x:UInt8) (k:Nat) (w:List AV),k<=256/\Hid (QB a b=some x/\w=u8s [x])/\T'=[(8,.int .i64 (k:Int)),(7,.bool true),(6,.int .i64 0),(4,.gsl w 1 L.length 1),(5,.str [p,q]),(0,.str [a,b])]/\L'=L++[.spare 1 1])) (n0:=257) (T0:=[(8,.int .i64 0),(7,.bool false),(6,.int .i64 0),(4,.gsl [] 0 L.length 1),(5,.str [p,q]),(0,.str [a,b])]) (L0:=L++[.spare 0 1]) (CutS (b:=by simp)) (.inl ⟨0,rfl,by omega,hid (by simp),rfl,rfl⟩) ?_;rintro _ _ _ (⟨k,rfl,hk,hno,rfl,rfl⟩|⟨rfl,x,k,w,hk,hx,rfl,rfl⟩)
  ·by_cases hlt:k<256
   ·have g1:(k:Int)<256:=by omega
    have g2:=ace k (by omega);have g3:IntKind.u8.wrap (k:Int)=(k:Int):=cq (by omega) (by omega);obtain ⟨u,hu⟩:=aaR (k / 16);obtain ⟨v,hv⟩:=aaR (k % 16);have hu16:u<16:=by omega
    have hv16:v<16:=by omega
    have g4:IntKind.i64.wrap (Int.tdiv (k:Int) 16)=(u:Int):=by
     rw [aka (by omega),ac (by omega) (by omega)];omega
    have g5:IntKind.u8.wrap (u:Int)=(u:Int):=cq (by omega) (by omega);have g6:Int.tmod (k:Int) 16=(v:Int):=by
     rw [ajN (by omega)];omega
    have g7:IntKind.u8.wrap (v:Int)=(v:Int):=cq (by omega) (by omega);have m1:=agJ (a:=a) hu16;have m2:=agJ (a:=b) hv16;rw [hp] at m1;rw [hq] at m2;have mk:YY a b k↔lp a=some u/\lp b=some v:=by unfold YY;rw [hu,hv]
    replace hu:=hid hu;replace hv:=hid hv;replace mk:=hid mk;have nxt:=hid fun (e:¬ YY a b k)=>show ∀ j,j<k+1->¬ YY a b j from fun j hj=>by
     rcases ahT j k with e'|e'
     ·exact hno.out j e'
     ·rw [show j=k by omega];exact e
    by_cases h1:lp a=some u
    ·have k1:=m1.2 h1;by_cases h2:lp b=some v
     ·have k2:=m2.2 h2;have hx:=abf (mk.out.2 ⟨h1,h2⟩);have hkk:((UInt8.ofNat k).toNat:Int)=(k:Int):=by simp;omega
      replace hkk:=hid hkk;replace hx:=hid hx;clear m1 m2 h1 h2;have kk1:=@hid _ (fun L K=>G0 hu16 (L:=L) (K:=K));have kk2:=@hid _ (fun L K=>G0 hv16 (L:=L) (K:=K));refine wk ?_;refine aq _ _ _ (by omega) (CutL (b:=by simp)) (.inr ⟨rfl,UInt8.ofNat k,k+1,_,by omega,hid ⟨hx.out,?_⟩,rfl,rfl⟩);simp only [u8s,List.map,hkk.out]
     ·have k2:¬ ((abw v:Nat):Int)=(q.toNat:Int):=fun e=>h2 (m2.1 e)
      have hn:=hid (nxt.out fun e=>h2 (mk.out.1 e).2);clear m1 m2 h1 h2;have kk1:=@hid _ (fun L K=>G0 hu16 (L:=L) (K:=K));have kk2:=@hid _ (fun L K=>G0 hv16 (L:=L) (K:=K));refine wk ?_;exact aq _ _ _ (by omega) (CutL (b:=by simp)) (.inl ⟨k+1,rfl,by omega,hn,rfl,rfl⟩)
    ·have k1:¬ ((abw u:Nat):Int)=(p.toNat:Int):=fun e=>h1 (m1.1 e)
     have hn:=hid (nxt.out fun e=>h1 (mk.out.1 e).1);clear m1 m2 h1;have kk1:=@hid _ (fun L K=>G0 hu16 (L:=L) (K:=K));refine wk ?_;exact aq _ _ _ (by omega) (CutL (b:=by simp)) (.inl ⟨k+1,rfl,by omega,hn,rfl,rfl⟩)
   ·have hke:k=256:=by omega
    subst hke;have h':=h.out;simp only [Oi,abg hno.out] at h';replace h':=hid h';have g1:¬ ((256:Nat):Int)<256:=by omega
    refine wk ?_;exact ab rfl h'.out
  ·by_cases hlt:(k:Int)<256
   ·refine wk ?_;exact aq _ _ _ (by omega) (CutL (b:=by simp)) (.inr ⟨rfl,x,w,hx,rfl,rfl⟩)
   ·refine wk ?_;exact aq _ _ _ (by omega) (CutL (b:=by simp)) (.inr ⟨rfl,x,w,hx,rfl,rfl⟩)
 ·have h':=h.out;simp only [Oi,hx.out.1] at h';replace h':=hid h';rw [hx.out.2];have e1:=kH [x];have e2:=iR [x];refine wk ?_;exact ab rfl h'.out
def mr (b:List UInt8) (bl:Bool) (s:List UInt8):Option (List UInt8×List UInt8):=match gK b bl s with
 | some (v,r,true)=>some (v,r)
 | _=>none
def Yo (n:Nat) (o:Option (List UInt8×List UInt8)):AV:=match o with
 | none=>.tup [.str [],.int .i64 0,.bool false]
 | some (v,r)=>.tup [.str v,.int .i64 ((n - r.length:Nat):Int),.bool true]
theorem aav {b s:List UInt8} {c:UInt8} (h:c=44\/c=43):mr b false (c::s)=some (b,c::s):=by simp only [mr,qm h];rfl
theorem Yn {b s:List UInt8} {c:UInt8} (h:c=44\/c=43):mr b true (c::s)=none:=by simp only [mr,qm h];rfl
theorem abZ {b:List UInt8}:mr b false []=some (b,[]):=by simp only [mr,mT];rfl
theorem aax {b:List UInt8}:mr b true []=none:=by simp only [mr,mT];rfl
theorem ab0 {b s:List UInt8} {bl:Bool} {c:UInt8} (h:¬ (c=44\/c=43)) (h2:c≠92) (hb:c=0\/c∈([34,59,60,62]:List UInt8)\/(b=[]/\(c=32\/c=35))):mr b bl (c::s)=none:=by
 simp only [mr,mt h h2,if_pos hb]
theorem Te {b s:List UInt8} {bl:Bool} {c:UInt8} (h:¬ (c=44\/c=43)) (h2:c≠92) (hb:¬ (c=0\/c∈([34,59,60,62]:List UInt8)\/(b=[]/\(c=32\/c=35)))):mr b bl (c::s)=mr (b++[c]) (decide (c=32)) s:=by
 simp only [mr,mt h h2,if_neg hb]
theorem SX {x:UInt8} {L:List Blk} {K:afC} (h:K (.bool (qr.contains x)) L):afB 102 [.int .u8 x.toNat,.str qr] L K:=mU (by simp) h
theorem V8 {a b c d x:UInt8} {L:List Blk} {K:afC} (h:K (.bool ([a,b,c,d].contains x)) L):afB 102 [.int .u8 x.toNat,.str [a,b,c,d]] L K:=mU (by simp) h
theorem V9 {a b x:UInt8} {L:List Blk} {K:afC} (h:K (.bool ([a,b].contains x)) L):afB 102 [.int .u8 x.toNat,.str [a,b]] L K:=mU (by simp) h
theorem acs {s:List UInt8} {at0:Nat} (hs:s.length<=100000) (hat:at0<=s.length) (h:K (Yo s.length (mr [] false (s.drop at0))) L):afB 108 [.str s,.int .i64 (at0:Int)] L K:=by
 obtain ⟨R,hR⟩:=aaR (mr [] false (s.drop at0));rw [hR] at h;replace h:=hid h;refine acg Q7 ?_;refine bi (l:=[]) (n:=0) 7 1 rfl (ahQ 1).symm ?_;refine ah (fun n T' L'=>∃ (i m:Nat) (b:List UInt8) (bl fb:Bool),n=s.length - i/\i<=s.length/\m<=i/\Hid (m=b.length/\mr b bl (s.drop i)=R/\(bl=true->i<s.length/\s.getD i 0≠44/\s.getD i 0≠43)/\(fb=true↔b=[]))/\T'=[(8,.bool fb),(1,.int .i64 (i:Int)),(7,.gsl (u8s b) m L.length 1),(0,.str s)]/\L'=L++[.spare m 1]) (CutS (b:=by simp)) ⟨at0,0,[],false,true,rfl,hat,by omega,hid ⟨rfl,hR,by simp,by simp⟩,rfl,rfl⟩ ?_;rintro _ _ _ ⟨i,m,b,bl,fb,rfl,hi,hm,hI,rfl,rfl⟩;have e1:=kH b;have e2:=iR b;by_cases hlt:i<s.length
 ·have g1:(i:Int)<(s.length:Int):=by omega
  have g2:=ace i (by omega);obtain ⟨c,hc⟩:=aaR (s.getD i 0);have hdr:=KG hlt;rw [hc] at hdr;have hb2:=hI.out.2.1;rw [hdr] at hb2;by_cases hcc:c=44\/c=43
  ·have hbl:bl=false:=by
    cases bl with
    | false=>rfl
    | true =>
      obtain ⟨_,n1,n2⟩:=hI.out.2.2.1 rfl;rw [hc] at n1 n2;rcases hcc with e|e
      ·exact absurd e n1
      ·exact absurd e n2
   subst hbl;rw [aav hcc] at hb2;have h':=h.out;rw [<- hb2] at h';simp only [Yo] at h';rw [<- hdr,aik,show s.length - (s.length - i)=i by omega] at h';replace h':=hid h';have k1:((c.toNat:Int)=44)\/((c.toNat:Int)=43):=hcc.imp (bF c 44).2 (bF c 43).2;clear hb2 hcc hdr;rcases k1 with k1|k1
   ·refine wk ?_;exact ab rfl h'.out
   ·refine wk ?_;exact ab rfl h'.out
  ·have k1:¬ (c.toNat:Int)=44:=fun e=>hcc (.inl ((bF c 44).1 e))
   have k2:¬ (c.toNat:Int)=43:=fun e=>hcc (.inr ((bF c 43).1 e))
   by_cases h92:c=92
   ·subst h92;have g3:IntKind.i64.wrap ((i:Int)+1+1)=(i:Int)+1+1:=ac (by omega) (by omega);have g4:IntKind.i64.wrap ((i:Int)+1+2)=(i:Int)+1+2:=ac (by omega) (by omega);have t1:((i:Int)+1).toNat=i+1:=by omega
    have t3:((i:Int)+1+2).toNat=i+3:=by omega
    by_cases h1:i+1<s.length
    ·have f1:(i:Int)+1<(s.length:Int):=by omega
     have f0:¬ (i:Int)+1=(s.length:Int):=by omega
     obtain ⟨d,hd⟩:=aaR (s.getD (i+1) 0);have hdr1:=KG h1;rw [hd] at hdr1;rw [hdr1] at hb2;by_cases hsp:d∈qr
     ·simp only [mr,uP hsp] at hb2;have f2:qr.contains d=true:=aiV.2 hsp;clear hdr hdr1 hcc;replace hb2:=hid hb2;have kk1:=@hid _ @SX;have kk2:=@hid _ @V8;have kk3:=@hid _ @V9;refine wk ?_;rw [show u8s b++[AV.int IntKind.u8 (d.toNat:Int)]=u8s (b++[d]) by simp [u8s]];exact aq _ _ _ (by omega) (CutL (b:=by simp)) ⟨i+1+1,m+1,b++[d],false,false,rfl,h1,by omega,hid ⟨by simp [hI.out.1],hb2.out,by simp,by simp⟩,rfl,rfl⟩
     ·have f2:qr.contains d=false:=by
       rw [<- ai9,aiV];exact hsp
      by_cases h2:i+2<s.length
      ·have f3:¬ (s.length:Int)<(i:Int)+1+2:=by omega
       have f4:(i:Int)+1<=(i:Int)+1+2:=by omega
       have f5:(i:Int)+1+2<=(s.length:Int):=by omega
       have f6:(0:Int)<=(i:Int)+1:=by omega
       obtain ⟨e,he⟩:=aaR (s.getD (i+2) 0);have hdr2:=KG h2;rw [he] at hdr2;rw [hdr2] at hb2;simp only [mr,GY hsp] at hb2;have hcut:(s.drop (i+1)).take (i+3 - (i+1))=[d,e]:=by
        rw [hdr1,hdr2,show i+3 - (i+1)=2 by omega];rfl
       clear hdr hdr1 hdr2 hcc;replace hb2:=hid hb2;have kk1:=@hid _ @SX;have kk2:=@hid _ @V8;have kk3:=@hid _ @V9;refine wk ?_;refine aaM ?_;rcases hx:QB d e with _|x
       ·rw [show Oi d e=.tup [.str [],.bool false] by simp only [Oi,hx]];have h':=h.out;rw [<- hb2.out,hx] at h';simp only [Yo] at h';replace h':=hid h';clear hx;refine sk ?_;refine wk ?_;exact ab rfl h'.out
       ·rw [show Oi d e=.tup [.str [x],.bool true] by simp only [Oi,hx]];have hb3:=hb2.out;rw [hx] at hb3;simp only at hb3;replace hb3:=hid hb3;have q1:[x].getD 0 0=x:=rfl;clear hx hb2;refine sk ?_;refine wk ?_;rw [show u8s b++[AV.int IntKind.u8 (x.toNat:Int)]=u8s (b++[x]) by simp [u8s]];exact aq _ _ _ (by omega) (CutL (b:=by simp)) ⟨i+1+2,m+1,b++[x],false,false,rfl,h2,by omega,hid ⟨by simp [hI.out.1],hb3.out,by simp,by simp⟩,rfl,rfl⟩
      ·have f3:(s.length:Int)<(i:Int)+1+2:=by omega
       have hnil:s.drop (i+1+1)=[]:=aiX (by omega);rw [hnil] at hb2;simp only [mr,KZ hsp] at hb2;have h':=h.out;rw [<- hb2] at h';replace h':=hid h';clear hdr hdr1 hb2 hcc;have kk1:=@hid _ @SX;have kk2:=@hid _ @V8;have kk3:=@hid _ @V9;refine wk ?_;exact ab rfl h'.out
    ·have f1:¬ (i:Int)+1<(s.length:Int):=by omega
     have f0:(i:Int)+1=(s.length:Int):=by omega
     have f3:(s.length:Int)<(s.length:Int)+2:=by omega
     have f4:¬ (s.length:Int)<(s.length:Int):=by omega
     have g5:IntKind.i64.wrap (s.length:Int)=(s.length:Int):=ac (by omega) (by omega);have g6:IntKind.i64.wrap ((s.length:Int)+2)=(s.length:Int)+2:=ac (by omega) (by omega);have hnil:s.drop (i+1)=[]:=aiX (by omega);rw [hnil] at hb2;simp only [mr,K0] at hb2;have h':=h.out;rw [<- hb2] at h';replace h':=hid h';clear hdr hb2 hcc;have kk1:=@hid _ @SX;have kk2:=@hid _ @V8;have kk3:=@hid _ @V9;refine wk ?_;exact ab rfl h'.out
   ·have k3:¬ (c.toNat:Int)=92:=fun e=>h92 ((bF c 92).1 e)
    obtain ⟨p1,hp1⟩:=aaR (([34,59,60,62]:List UInt8).contains c);obtain ⟨p2,hp2⟩:=aaR (([32,35]:List UInt8).contains c);have hq1:p1=true↔c∈([34,59,60,62]:List UInt8):=by rw [<- hp1,aiV]
    have hq2:p2=true↔(c=32\/c=35):=by rw [<- hp2,aiV];simp
    replace hq1:=hid hq1;replace hq2:=hid hq2;have h0:=hid (bF c 0);have h32:=hid (bF c 32);have hfb:=hid hI.out.2.2.2;obtain ⟨lst,hlst⟩:∃ lst:Bool,decide (i+1<s.length->s.getD (i+1) 0=44\/s.getD (i+1) 0=43)=lst:=⟨_,rfl⟩;have hbad:=hid fun (e:c=0\/c∈([34,59,60,62]:List UInt8)\/(b=[]/\(c=32\/c=35)))=>(show R=none by rw [<- hb2,ab0 hcc h92 e])
    have hend:=hid fun (e:lst=true/\c=32)=>(show R=none by
     by_cases eb:c=0\/c∈([34,59,60,62]:List UInt8)\/(b=[]/\(c=32\/c=35))
     ·exact hbad.out eb
     ·rw [<- hb2,Te hcc h92 eb,e.2];have el:=of_decide_eq_true (hlst.trans e.1);simp only [decide_true];by_cases h1:i+1<s.length
      ·rw [KG h1,Yn (el h1)]
      ·rw [aiX (by omega),aax])
    have hgo:=hid fun (e:¬ (c=0\/c∈([34,59,60,62]:List UInt8)\/(b=[]/\(c=32\/c=35))))=>(show mr (b++[c]) (decide (c=32)) (s.drop (i+1))=R by rw [<- hb2,Te hcc h92 e])
    replace hlst:=hid hlst;clear hdr hb2 hcc;have bad:R=none->Fin L (.tup [.str [],.int .i64 0,.bool false]) (L++[.spare m 1]) K:=fun e=>ab rfl (by have h':=h.out;rwa [e] at h')
    replace bad:=hid bad;by_cases h1:i+1<s.length
    ·have f1:(i:Int)+1<(s.length:Int):=by omega
     have f0:¬ (i:Int)+1=(s.length:Int):=by omega
     have t1:((i:Int)+1).toNat=i+1:=by omega
     obtain ⟨d,hd⟩:=aaR (s.getD (i+1) 0);have hlst2:=hid (show lst=true↔((d.toNat:Int)=44\/(d.toNat:Int)=43) by
      rw [<- hlst.out,decide_eq_true_eq,hd,show (44:Int)=((44:UInt8).toNat:Int) from rfl,show (43:Int)=((43:UInt8).toNat:Int) from rfl,bF,bF];exact ⟨fun e=>e h1,fun e _=>e⟩)
     repeat' first
      | refine cP ?_
      | (first|refine bY (by kernel_rfl) ?_|refine bj (by kernel_rfl) ?_|refine bm ?_|refine fy ?_|refine cT (fun _=>?_)|refine a8 ?_|refine b9 ?_|refine mU (by simp) ?_|refine cA (mU (by simp) ⟨rfl,rfl⟩) (mU (by simp) ⟨rfl,rfl⟩) ?_|refine bf (mU (by simp) ⟨rfl,rfl⟩) ?_)
        refine sm ?_
      | (first|refine bU (by kernel_rfl) ?_|refine bT ?_|refine bZ ?_|refine cY (a7 ?_))
        refine sl ?_
      | exact cU
      | first|apply cV|apply bV|apply cW|apply bW|apply cX|apply bX
      | refine br ?_
      | first|refine bp rfl ?_|refine bq rfl ?_|refine aW rfl ?_ ?_|refine bz rfl (fun _=>?_) (fun _=>?_)|refine bw rfl (fun _=>?_) (fun _=>?_)
      | ((first|refine aV (fun _=>?_) (fun _=>?_)|refine a6 (fun _=>?_) (fun _=>?_))<;>try refine sm ?_)
      | refine And.intro trivial ?_
      | refine And.intro (by omega) ?_
      | refine bA rfl (fun _=>?_) (fun _=>?_)
      | refine And.intro ?_ ?_
     ·rename_i hx
      refine bad.out ?_;simp only [aic,aht,decide_eq_true_eq] at hx;rcases hx with ((e|e)|⟨e,e'⟩)|e
      ·exact hbad.out (.inl (h0.out.1 e))
      ·exact hbad.out (.inr (.inl (hq1.out.1 e)))
      ·exact hbad.out (.inr (.inr ⟨hfb.out.1 e,hq2.out.1 e'⟩))
      ·exact hend.out ⟨hlst2.out.2 e.1,h32.out.1 e.2⟩
     ·rename_i hx
      rw [<- ai9] at hx;simp only [aic,aht,decide_eq_true_eq] at hx;rw [show u8s b++[AV.int IntKind.u8 (c.toNat:Int)]=u8s (b++[c]) by simp [u8s]];refine aq _ _ _ (by omega) (CutL (b:=by simp)) ⟨i+1,m+1,b++[c],decide (c=32),false,rfl,hlt,by omega,hid ⟨by simp [hI.out.1],?_,fun e=>?_,by simp⟩,rfl,rfl⟩
      ·refine hgo.out fun e=>hx ?_
       rcases e with e|e|⟨e,e'⟩
       ·exact .inl (.inl (.inl (h0.out.2 e)))
       ·exact .inl (.inl (.inr (hq1.out.2 e)))
       ·exact .inl (.inr ⟨hfb.out.2 e,hq2.out.2 e'⟩)
      ·have e32:=h32.out.2 (of_decide_eq_true e);refine ⟨h1,?_,?_⟩
       ·intro e4;exact hx (.inr ⟨.inl (by rw [<- hd,e4];rfl),e32⟩)
       ·intro e4;exact hx (.inr ⟨.inr (by rw [<- hd,e4];rfl),e32⟩)
    ·have f1:¬ (i:Int)+1<(s.length:Int):=by omega
     have f0:(i:Int)+1=(s.length:Int):=by omega
     have g5:IntKind.i64.wrap (s.length:Int)=(s.length:Int):=ac (by omega) (by omega);have hlst2:=hid (show lst=true by rw [<- hlst.out,decide_eq_true_eq];exact fun e=>absurd e h1)
     repeat' first
      | refine cP ?_
      | (first|refine bY (by kernel_rfl) ?_|refine bj (by kernel_rfl) ?_|refine bm ?_|refine fy ?_|refine cT (fun _=>?_)|refine a8 ?_|refine b9 ?_|refine mU (by simp) ?_|refine cA (mU (by simp) ⟨rfl,rfl⟩) (mU (by simp) ⟨rfl,rfl⟩) ?_|refine bf (mU (by simp) ⟨rfl,rfl⟩) ?_)
        refine sm ?_
      | (first|refine bU (by kernel_rfl) ?_|refine bT ?_|refine bZ ?_|refine cY (a7 ?_))
        refine sl ?_
      | exact cU
      | first|apply cV|apply bV|apply cW|apply bW|apply cX|apply bX
      | refine br ?_
      | first|refine bp rfl ?_|refine bq rfl ?_|refine aW rfl ?_ ?_|refine bz rfl (fun _=>?_) (fun _=>?_)|refine bw rfl (fun _=>?_) (fun _=>?_)
      | ((first|refine aV (fun _=>?_) (fun _=>?_)|refine a6 (fun _=>?_) (fun _=>?_))<;>try refine sm ?_)
      | refine And.intro trivial ?_
      | refine And.intro (by omega) ?_
      | refine bA rfl (fun _=>?_) (fun _=>?_)
      | refine And.intro ?_ ?_
     ·rename_i hx
      refine bad.out ?_;simp only [aic,aht,decide_eq_true_eq] at hx;rcases hx with ((e|e)|⟨e,e'⟩)|e
      ·exact hbad.out (.inl (h0.out.1 e))
      ·exact hbad.out (.inr (.inl (hq1.out.1 e)))
      ·exact hbad.out (.inr (.inr ⟨hfb.out.1 e,hq2.out.1 e'⟩))
      ·exact hend.out ⟨hlst2.out,h32.out.1 e⟩
     ·rename_i hx
      rw [<- ai9] at hx;simp only [aic,aht,decide_eq_true_eq] at hx;rw [show u8s b++[AV.int IntKind.u8 (c.toNat:Int)]=u8s (b++[c]) by simp [u8s]];refine aq _ _ _ (by omega) (CutL (b:=by simp)) ⟨i+1,m+1,b++[c],decide (c=32),false,rfl,hlt,by omega,hid ⟨by simp [hI.out.1],?_,fun e=>?_,by simp⟩,rfl,rfl⟩
      ·refine hgo.out fun e=>hx ?_
       rcases e with e|e|⟨e,e'⟩
       ·exact .inl (.inl (.inl (h0.out.2 e)))
       ·exact .inl (.inl (.inr (hq1.out.2 e)))
       ·exact .inl (.inr ⟨hfb.out.2 e,hq2.out.2 e'⟩)
      ·have e32:=h32.out.2 (of_decide_eq_true e);exact absurd (.inr e32) hx
 ·have hke:i=s.length:=by omega
  subst hke;have g1:¬ (s.length:Int)<(s.length:Int):=by omega
  have hbl:bl=false:=by
   cases bl with
   | false=>rfl
   | true=>exact absurd (hI.out.2.2.1 rfl).1 (by omega)
  subst hbl;have h':=h.out;rw [<- hI.out.2.1,aij,abZ] at h';simp only [Yo,ahZ,ajg] at h';replace h':=hid h';refine wk ?_;exact ab rfl h'.out
theorem ab5:∀ (n:Nat) {s b:List UInt8} {bl:Bool} {v r:List UInt8} {ok:Bool},s.length<=n->gK b bl s=some (v,r,ok)->r <:+ s:=by
 intro n
 induction n with
 | zero =>
   intro s b bl v r ok hn h;obtain rfl:=ahX.1 (Nat.le_zero.1 hn);rw [mT] at h;cases h;exact ajk _
 | succ n ih =>
   intro s b bl v r ok hn h;cases s with
   | nil=>rw [mT] at h;cases h;exact ajk _
   | cons c s =>
     simp only [ahD] at hn;by_cases hc:c=44\/c=43
     ·rw [qm hc] at h;cases h;exact ajk _
     by_cases h92:c=92
     ·subst h92;cases s with
      | nil=>rw [K0] at h;cases h
      | cons d s =>
        by_cases hd:d∈qr
        ·rw [uP hd] at h;exact (ih (by simp at hn;omega) h).trans ((ajx _ _).trans (ajx _ _))
        ·cases s with
         | nil=>rw [KZ hd] at h;cases h
         | cons e s =>
           rw [GY hd] at h;split at h
           ·cases h
           ·exact (ih (by simp at hn;omega) h).trans ((ajx _ _).trans ((ajx _ _).trans (ajx _ _)))
     ·rw [mt hc h92] at h;split at h
      ·cases h
      ·exact (ih (by omega) h).trans (ajx _ _)
theorem aaw {s v r:List UInt8} (h:mr [] false s=some (v,r)):gK [] false s=some (v,r,true):=by
 unfold mr at h;split at h
 ·rename_i e;cases h;exact e
 ·cases h
theorem Vs (f:Nat) (out:List Rdn) (now:Rdn) (s:List UInt8):rV (f+1) out now s=if out.length=32\/now.length=8 then ([],9) else match lu s with
  | none=>([],4)
  | some (typ,rest)=>if ku typ=false then ([],4) else if lH now typ=true then ([],21) else match mr [] false rest with
    | none=>([],4)
    | some (v,r2)=>match r2 with
      | []=>(out++[now++[(typ,v)]],0)
      | c::s'=>if c=44 then rV f (out++[now++[(typ,v)]]) [] s' else rV f out (now++[(typ,v)]) s':=by
 rw [rV]
 congr 1
 rcases lu s with _|⟨typ,rest⟩
 ·rfl
 ·simp only
  congr 1
  congr 1
  unfold mr;rcases gK [] false rest with _|⟨v,r2,ok⟩
  ·rfl
  ·cases ok<;>rfl
theorem abz {s:List UInt8} {i j:Nat} (hij:i<=j) (hj:j<s.length) (hc:s.getD j 0≠61) (h:lu (s.drop i)=(lu (s.drop j)).map fun p=>((s.drop i).take (j - i)++p.1,p.2)) :
  lu (s.drop i)=(lu (s.drop (j+1))).map fun p=>((s.drop i).take (j+1 - i)++p.1,p.2):=by
 rw [h,KG hj];simp only [lu,if_neg hc];have ht:(s.drop i).take (j+1 - i)=(s.drop i).take (j - i)++[s.getD j 0]:=by
  rw [show j+1 - i=(j - i)+1 by omega,ahK (by simp;omega)]
  congr 2
  simp [show i+(j - i)=j by omega,hj]
 rw [ht];rcases lu (s.drop (j+1)) with _|⟨a,b⟩
 ·rfl
 ·simp
theorem aem {r:Rdn} {typ:List UInt8} {i n:Nat} (hr:r.length=n) (hn:n<=8) (h1:∀ a∈r,a.1.length<=32) (h2:typ.length<=4096) (h:K (.bool (lH r typ)) L) :
  afB 68 [.gsl (aN r) n i 2,.str typ] L K:=by
 subst hr;exact dQ (by simpa only [AV.frzL,AV.frz,fV] using acw (cap:=none) (by omega) (fun a ha=>by have:=h1 a ha;omega) (by omega) h)
theorem aaL {s:List UInt8} {z:Int} {at0:Nat} (hz:z=(at0:Int)) (hs:s.length<=100000) (hat:at0<=s.length) (h:K (Yo s.length (mr [] false (s.drop at0))) L):afB 108 [.str s,.int .i64 z] L K:=by
 subst hz;exact acs hs hat h
theorem W8 {s:List UInt8} (h:K (acO (fP s)) L):afB 75 [.str s] L K:=by
 refine aa Ra (by simp [uE]) ?_;simp only [uE,ag];by_cases h1:4096<s.length
 ·have f1:(4096:Int)<(s.length:Int):=by omega
  rw [fP,if_pos h1] at h;replace h:=hid h;clear h1;refine wk ?_;exact ay (af h.out)
 have f1:¬ (4096:Int)<(s.length:Int):=by omega
 rw [fP,if_neg h1] at h;have hs:=hid (show s.length<=4096 by omega);clear h1;obtain ⟨R,hR⟩:=aaR ((if s=[] then ([],0) else rV (s.length+1) [] [] s));rw [hR] at h;replace h:=hid h;replace hR:=hid hR;refine wk ?_;refine bi (l:=[]) (n:=0) 4 1 rfl (ahQ 1).symm ?_;refine ah (fun n T' L'=>∃ (f m i:Nat) (out:List Rdn) (X:List Blk),f=n/\i<=s.length/\m<=32/\Hid (s≠[]->s.length - i<f/\rV f out [] (s.drop i)=R)/\Hid (s=[]->out=[])/\Hid (m=out.length)/\L'[L.length]?=some (.spare m 1)/\T'=[(5,.int .i64 (i:Int)),(4,.gsl (out.map aw) m L.length 1),(0,.str s)]/\L'=L++X) (CutS (b:=by simp)) ⟨s.length+1,0,0,[],[.spare 0 1],rfl,ahp _,by omega,hid (fun e=>⟨by omega,by have:=hR.out;rw [if_neg e] at this;simpa using this⟩),hid (fun _=>rfl),hid rfl,by simp,rfl,rfl⟩ ?_;rintro _ _ _ ⟨f,m,i,out,X,rfl,hi,hm32,hI,hI0,hm,ho,rfl,rfl⟩;by_cases h0:s=[]
 ·have h':=h.out;rw [<- hR.out,if_pos h0] at h';replace h':=hid h';have f2:¬ (0:Int)<(s.length:Int):=by rw [h0];simp
  clear h0;refine wk ?_;exact ay (ab rfl h'.out)
 obtain ⟨hf,hp⟩:=hI.out h0;have f2:(0:Int)<(s.length:Int):=by have:=ah8.2 h0;omega
 clear hI hI0 hR h0;have hB:L.length<(L++X).length:=(ahm.1 ho).1;by_cases hlim:m=32
 ·obtain ⟨f,rfl⟩:∃ g,f=g+1:=⟨f - 1,by omega⟩;rw [Vs,if_pos (.inl (by rw [<- hm.out];exact hlim))] at hp;have h':=h.out;rw [<- hp] at h';replace h':=hid h';have k:(m:Int)=32:=by omega
  clear hp hlim hf;refine wk ?_;exact gZ h'.out
 have k1:¬ (m:Int)=32:=by omega
 replace hp:=hid hp;refine wk ?_;refine ah (fun n T' L'=>∃ (g i:Nat) (now:Rdn) (v:AV) (Z:List Blk),g=n/\g<=f/\i<=s.length/\now.length<=8/\Hid (s.length - i<g/\rV g out now (s.drop i)=R/\(∀ a∈now,a.1.length<=32)/\agl L.length now v L')/\L'[L.length]?=some (.spare m 1)/\X.length<=Z.length/\T'=[(6,v),(5,.int .i64 (i:Int)),(4,.gsl (out.map aw) m L.length 1),(0,.str s)]/\L'=L++Z) (CutS (b:=by simp)) ⟨f,i,[],_,X,rfl,ahn _,hi,by simp,hid ⟨hf,hp.out,by simp,.inl ⟨rfl,rfl,rfl⟩⟩,ho,ahn _,rfl,rfl⟩ ?_;clear hp hf ho hi;rintro _ _ _ ⟨g,i,now,v,X1,rfl,hgf,hi,hn8,hI,ho,hXZ,rfl,rfl⟩;obtain ⟨hf,hp,ht,hv⟩:=hI.out;clear hI;obtain ⟨g,rfl⟩:∃ g',g=g'+1:=⟨g - 1,by omega⟩;have hB1:L.length<(L++X1).length:=(ahm.1 ho).1;refine WS 6 2 L.length rfl hB1 hv fun p Y hBi hpi=>?_
 rw [ahz] at hpi ⊢;have ho2:(L++(X1++Y))[L.length]?=some (.spare m 1):=by rw [<- ahz,ahq hB1];exact ho
 have hXZ2:X.length<=(X1++Y).length:=by simp;omega
 generalize X1++Y=Z at hpi ho2 hXZ2 ⊢;clear ho hB1 hv hXZ X1 Y;replace hXZ2:=hid hXZ2;have hpl:=(ahm.1 hpi).1;have hol:=(ahm.1 ho2).1;have hz:p - L.length≠0:=by omega
 obtain ⟨c,hc⟩:∃ c:Nat,now.length=c:=⟨_,rfl⟩;rw [Vs] at hp;rw [hc] at hp hpi hn8 ⊢;rw [ahy] at hpl hol;replace hz:=hid hz;replace hpl:=hid hpl;replace hol:=hid hol;by_cases hlim2:c=8
 ·rw [if_pos (.inr hlim2)] at hp;have h':=h.out;rw [<- hp] at h';replace h':=hid h';have k:(c:Int)=8:=by omega
  clear hp hlim2;refine wk ?_;exact gZ h'.out
 rw [if_neg (by rw [<- hm.out];omega)] at hp;have k2:¬ (c:Int)=8:=by omega
 replace hp:=hid hp;replace ht:=hid ht;replace hf:=hid hf;refine wk ?_;refine ah (fun n T' L'=>∃ j:Nat,n=s.length - j/\i<=j/\j<=s.length/\Hid (lu (s.drop i)=(lu (s.drop j)).map fun p=>((s.drop i).take (j - i)++p.1,p.2))/\T'=[(7,.int .i64 (j:Int)),(6,.gsl (aN now) c p 2),(5,.int .i64 (i:Int)),(4,.gsl (out.map aw) m L.length 1),(0,.str s)]/\L'=L++Z) (CutS (b:=by simp)) ⟨i,rfl,ahn _,hi,hid (by rcases lu (s.drop i) with _|⟨a,b⟩<;>simp),rfl,rfl⟩ ?_;rintro _ _ _ ⟨j,rfl,hij,hj,hcut,rfl,rfl⟩;by_cases hjl:j<s.length;rotate_left
 ·have hje:j=s.length:=by omega
  subst hje;have g1:¬ (s.length:Int)<(s.length:Int):=by omega
  have e:=hcut.out;rw [aij] at e;simp only [lu,ah1] at e;have h':=h.out;rw [<- hp.out,e] at h';simp only at h';replace h':=hid h';clear e;refine wk ?_;exact gZ h'.out
 have g1:(j:Int)<(s.length:Int):=by omega
 have g2:=ace j (by omega);obtain ⟨x,hx⟩:=aaR (s.getD j 0);by_cases h61:x=61;rotate_left
 ·have g3:¬ (x.toNat:Int)=61:=fun e=>h61 ((bF x 61).1 e)
  have hcut':=hid (abz hij hjl (by rw [hx];exact h61) hcut.out);clear h61;refine wk ?_;exact aq _ _ _ (by omega) (CutL (b:=by simp)) ⟨j+1,rfl,by omega,hjl,hcut',rfl,rfl⟩
 subst h61;have g3:((61:UInt8).toNat:Int)=61:=rfl;have hcutS:lu (s.drop i)=some ((s.drop i).take (j - i),s.drop (j+1)):=by
  rw [hcut.out,KG hjl,hx];simp [lu]
 clear hcut;obtain ⟨typ,htyp⟩:=aaR ((s.drop i).take (j - i));have htl:typ.length<=4096:=by rw [<- htyp];have:=hs.out;simp;omega
 have htl3:(typ.length:Int)<=100000:=by omega
 rw [htyp] at hcutS;have hp2:=hp.out;rw [hcutS] at hp2;simp only at hp2;have g4:¬ (j:Int)=(s.length:Int):=by omega
 have g5:(i:Int)<=(j:Int):=by omega
 have g6:(j:Int)<=(s.length:Int):=by omega
 replace hp2:=hid hp2;clear hcutS hp;cases hty:ku typ with
 | false =>
   have h':=h.out;rw [<- hp2.out,if_pos hty] at h';replace h':=hid h';have kk1:=@hid _ (fun L K=>ZM htl3 (L:=L) (K:=K));refine wk ?_;exact gZ h'.out
 | true =>
 have hp3:=hp2.out;rw [if_neg (by rw [hty];simp)] at hp3;replace hp3:=hid hp3;clear hp2;have hpn:=hid (show p≠L.length+Z.length by have:=hpl.out;omega);have b1:∀ b,(L++(Z++[b]))[p]?=some (.spare c 2):=fun b=>by
  rw [<- ahz,ahq (ahm.1 hpi).1];exact hpi
 have b2:∀ A b,(L++(Z++[b])).set p A=L++(Z.set (p - L.length) A++[b]):=fun A b=>by
  rw [ahP _ _ (by omega),aiK _ _ (by have:=hpl.out;omega)]
 have b3:∀ A b,(L++(Z.set (p - L.length) A++[b]))[L.length]?=some (.spare m 1):=fun A b=>by
  rw [<- b2,ahL (by omega),<- ahz,ahq (ahm.1 ho2).1];exact ho2
 have b4:∀ A b,(L++(Z.set (p - L.length) A++[b]))[p]?=some A:=fun A b=>by
  rw [<- b2,ahU,if_pos rfl,if_pos (by have:=hpl.out;simp;omega)]
 have hsl:(i:Int).toNat=i:=by omega
 have kk1:=@hid _ (fun L K=>ZM htl3 (L:=L) (K:=K));refine wk ?_;refine aem hc hn8 ht.out (by omega) ?_;cases hha:lH now typ with
 | true =>
   have h':=h.out;rw [<- hp3.out,if_pos hha] at h';replace h':=hid h';refine sk ?_;refine wk ?_;exact gZ h'.out
 | false =>
 have hp4:=hp3.out;rw [if_neg (by rw [hha];simp)] at hp4;replace hp4:=hid hp4;clear hp3;refine sk ?_;refine wk ?_;refine aaL (at0:=j+1) (by omega) (by have:=hs.out;omega) hjl ?_;rcases hvl:mr [] false (s.drop (j+1)) with _|⟨w,r2⟩
 ·have h':=h.out;rw [<- hp4.out,hvl] at h';simp only at h';replace h':=hid h';simp only [Yo];refine sk ?_;refine wk ?_;exact gZ h'.out
 have hp5:=hp4.out;rw [hvl] at hp5;simp only at hp5;have hsuf:=ab5 _ (ahn _) (aaw hvl);have hsd:r2=s.drop (s.length - r2.length):=List.suffix_iff_eq_drop.1 (hsuf.trans (List.drop_suffix _ _));have hl2:r2.length<=s.length - (j+1):=by have:=hsuf.length_le;simpa using this
 obtain ⟨t,ht0⟩:=aaR (s.length - r2.length);rw [ht0] at hsd;have htj:j<t:=by omega
 have hts:t<=s.length:=by omega
 simp only [Yo,ht0];replace hp5:=hid hp5;clear hp4 hvl hsuf;replace hsd:=hid hsd;have q1:(c+1) * 32<=140737488355328:=by omega
 have q2:c+1<=140737488355328:=by omega
 have q3:(m+1) * 24<=140737488355328:=by omega
 have q4:m+1<=140737488355328:=by omega
 have e1:aN now++[AV.str typ,AV.str w]=aN (now++[(typ,w)]):=(VU _ _ _).symm;have e2:out.map aw++[AV.sl (AV.frzL (aN now++[AV.str typ,AV.str w])) (c+1) none]=(out++[now++[(typ,w)]]).map aw:=by
  rw [e1,fV,ahN];simp [hc]
 have e3:(out++[now++[(typ,w)]]).length=m+1:=by simp [hm.out]
 have e4:(now++[(typ,w)]).length=c+1:=by simp [hc]
 have e5:∀ a∈now++[(typ,w)],a.1.length<=32:=fun a ha=>by
  rcases ahr.1 ha with h|h
  ·exact ht.out a h
  ·rw [ahI.1 h];exact uQ hty
 have s4:∀ (W:List Blk) A,(L++W).set L.length A=L++W.set 0 A:=fun W A=>by rw [ahP _ _ (ahn _),ajb]
 have g7:IntKind.i64.wrap ((t:Int)+1)=(t:Int)+1:=ac (by have:=hs.out;omega) (by have:=hs.out;omega);replace e1:=hid e1;replace e2:=hid e2;replace e3:=hid e3;replace e4:=hid e4;replace e5:=hid e5;cases r2 with
 | nil =>
   have h':=h.out;rw [<- hp5.out] at h';simp only at h';replace h':=hid h';have hte:t=s.length:=by simp at ht0;omega
   subst hte;refine sk ?_;refine wk ?_;rw [e2.out];refine ay (ab ?_ ?_)
   ·simp only [AV.frz,AV.frzL,aO,AV.refs,AV.refsL,cQ,ajL]
   ·simp only [AV.frz,AV.frzL,aO];have:=h'.out;simp only [acO,e3.out] at this;exact this
 | cons x s' =>
   simp only at hp5;have htl2:t<s.length:=by simp at ht0 hl2;omega
   have k3:¬ (t:Int)=(s.length:Int):=by omega
   have k4:(t:Int)<(s.length:Int):=by omega
   have hxd:=hsd.out;rw [KG htl2] at hxd;obtain ⟨hx1,hx2⟩:=List.cons.inj hxd;have hx3:=hx1.symm;replace hx2:=hid hx2;clear hxd hx1;by_cases hx:x=44
   ·subst hx;refine sk ?_;refine wk ?_;rw [e2.out];refine aq _ _ _ ?_ (CutS (b:=?_)) ⟨g,m+1,t+1,out++[now++[(typ,w)]],_,rfl,htl2,?_,hid fun _=>⟨?_,?_⟩,hid fun e=>?_,hid e3.out.symm,?_,rfl,rfl⟩
    ·omega
    ·simp
    ·have:=hm.out;omega
    ·have:=hf.out;omega
    ·rw [<- hx2.out,<- hp5.out,if_pos rfl]
    ·rw [e] at htl2;simp at htl2
    ·rw [<- s4,ahU,if_pos rfl,if_pos (by simp)]
   ·have q6:¬ (x.toNat:Int)=44:=fun e=>hx ((bF x 44).1 e)
    refine sk ?_;refine wk ?_;rw [e1.out];refine aq _ _ _ ?_ (CutS (b:=?_)) ⟨g,t+1,now++[(typ,w)],_,_,rfl,?_,htl2,?_,hid ⟨?_,?_,e5.out,.inr ⟨p,hBi,by rw [e4.out],by rw [e4.out];exact b4 _ _⟩⟩,b3 _ _,?_,rfl,rfl⟩
    ·omega
    ·have:=hXZ2.out;simp;omega
    ·omega
    ·rw [e4.out];omega
    ·have:=hf.out;omega
    ·rw [<- hx2.out,<- hp5.out,if_neg hx]
    ·have:=hXZ2.out;simp;omega
end Go.Proofs.YtobihfefmlgaoaaGreat.Av
