/- Joined texts of the walk, made small by a program. -/
import Derived.Test.YtcmfcpjnhephaaaGreatDoorFk4
import Derived.Test.YtcmfcpjnhephaaaGreatDoorRows
import Derived.KernelRfl
import Derived.Test.YtcmfcpjnhephaaaGreatDoorFk9
import Derived.Test.YtcmfcpjnhephaaaGreatDoorFk6
import Derived.Test.YtcmfcpjnhephaaaGreatDoorFk10
set_option linter.unusedSimpArgs false
set_option linter.unusedVariables false
set_option maxRecDepth 100000
namespace Go.Proofs.YtcmfcpjnhephaaaGreatDoor.Av
open Go
def yi:LSO:=[Af 2]
def yh:LSO:=[Aa 6 0,Ai 7 39 6,Aa 3 7]
def yg:LSO:=[Aa 8 3,Ap 9 8,AY 10 9 1,Aa 11 10,.grp none 11 true
 [Ag 12 11 3,og 13 11 true (.len true (tm 12)),og 14 11 true (.bin .leq (tm 13) (iv 32))]
 15 (tm 14),Aa 4 15]
def yf:LSO:=[Ab 5 0]
def ye:LSO:=[Aa 16 5,Aa 17 3,Ap 18 17,Ak 19 16 18,Aa 20 19,.grp none 20 true
 [Ag 21 20 4]
 22 (tm 21)]
def yd:LSO:=[Aa 25 3,Aa 26 5,A6 27 25 26,
 o1 28 (.call 170 [(tm 27),(.av (.str [97,98,99,100,101,102,103,104,105,106,107,108,109,110,111,112,113,114,115,116,117,118,119,120,121,122]))]),Aa 29 28,.grp none 29 false
 [Ae 30 29 5,A8 31 29 30 0,Ae 32 29 31,.grp (some (29,false)) 32 true
 [Ag 33 32 3,Ag 34 32 5,AT 35 32 33 34,og 36 32 true (.call 170 [(tm 35),(.av (.str [48,49,50,51,52,53,54,55,56,57,45]))])]
 37 (tm 36)]
 38 (tm 37),Aa 4 38]
def yc:LSO:=[Aa 23 5,Ah 24 23 1,Aa 5 24]
def yb:LSO:=[Aa 39 4,Aa 2 39]
def rK:br:=⟨40,(.seq (.sreg yi [])
 (.seq (.sreg yh Ce)
 (.seq (.sreg yg Ch)
 (.seq (.seq (.sreg yf [])
 (.block 0 (.loop (.seq (.seq (.sreg ye Ch)
 (.cond (tm 22) .skip
 (.exit 0)))
 (.seq (.block 1 (.sreg yd Ci))
 (.sreg yc Ce))))))
 (.seq (.sreg yb Cd)
 .ret))))),[(.tmp 2)]⟩
attribute [push_cast] yi yh yg yf ye yd yc yb
theorem KJ:bt Tryz.prog (fun _ _=>1) 134=some rK.raw:=by kernel_rfl
def HB:LSO:=[Af 4]
def HA:LSO:=[Ab 5 0]
def Hz:LSO:=[Aa 6 5,Aa 7 1,Ap 8 7,Ak 9 6 8]
def Hy:LSO:=[Aa 12 1,Aa 13 5,A6 14 12 13,Aa 15 0,AA 16 14 15]
def Hx:LSO:=[Ay 4]
def Hw:LSO:=[Aa 10 5,Ah 11 10 1,Aa 5 11]
def Hv:LSO:=[Af 4]
def GN:br:=⟨17,(.seq (.sreg HB [])
 (.seq (.seq (.sreg HA [])
 (.block 0 (.loop (.seq (.seq (.sreg Hz Cf)
 (.cond (tm 9) .skip
 (.exit 0)))
 (.seq (.block 1 (.seq (.sreg Hy Cg)
 (.cond (tm 16) (.seq (.sreg Hx [])
 .ret)
 .skip)))
 (.sreg Hw Ce))))))
 (.seq (.sreg Hv [])
 .ret))),[(.tmp 4)]⟩
attribute [push_cast] HB HA Hz Hy Hx Hw Hv
theorem MW:bt Tryz.prog (fun _ _=>1) 170=some GN.raw:=by kernel_rfl
def EM:LSO:=[Af 4]
def EL:LSO:=[Aa 7 0,Al 8 7,Ab 9 0]
def EK:LSO:=[Ak 10 9 8]
def EJ:LSO:=[An 11 2 7 9,Aw 12 2 11,AZ 6,Ao 2 6 12]
def EI:LSO:=[Ad 13 0 6,Ac 14 1 13,Ai 15 39 14,Aa 16 1,Ai 17 39 16,AA 18 15 17]
def EH:LSO:=[Ay 4]
def EG:LSO:=[Ah 19 9 1,Aa 9 19]
def EF:LSO:=[Af 4]
def CV:br:=⟨20,(.seq (.sreg EM [])
 (.seq (.seq (.sreg EL [])
 (.block 0 (.loop (.seq (.sreg EK [])
 (.seq (.cond (tm 10) .skip
 (.exit 0))
 (.seq (.block 1 (.seq (.sreg EJ Ce)
 (.seq (.sreg EI Ch)
 (.cond (tm 18) (.seq (.sreg EH [])
 .ret)
 .skip))))
 (.sreg EG Cd)))))))
 (.seq (.sreg EF [])
 .ret))),[(.tmp 4)]⟩
attribute [push_cast] EM EL EK EJ EI EH EG EF
theorem Ml:bt Tryz.prog (fun _ _=>1) 165=some CV.raw:=by kernel_rfl
def uJ:LSO:=[Aj 2,Ab 3 0]
def uI:LSO:=[Aa 12 0,Ap 13 12,A3 14 13 4096]
def uH:LSO:=[Aj 2,Ab 3 5]
def uG:LSO:=[Aj 4]
def uF:LSO:=[Ab 5 0]
def uE:LSO:=[Aa 15 0,Ap 16 15,A3 17 16 0]
def uD:LSO:=[Aj 6]
def uC:LSO:=[Aa 18 4,Al 19 18,As 20 19 32]
def uB:LSO:=[Aj 2,Ab 3 9]
def uA:LSO:=[Aa 21 6,Al 22 21,As 23 22 8]
def qq:LSO:=[Aj 2,Ab 3 9]
def qp:LSO:=[Aa 24 5,Aa 7 24]
def qo:LSO:=[Aa 25 7,Aa 26 0,Ap 27 26,Ak 28 25 27,Aa 29 28,.grp none 29 true
 [Ag 30 29 0,Ag 31 29 7,AT 32 29 30 31,og 33 29 true (.bin .neq (tm 32) (.av (.int .u8 61)))]
 34 (tm 33)]
def qn:LSO:=[Aa 35 7,Ah 36 35 1,Aa 7 36]
def qm:LSO:=[Aa 37 7,Aa 38 0,Ap 39 38,AA 40 37 39,Aa 41 40,.grp none 41 false
 [Ae 42 41 0,Ae 43 41 5,Ae 44 41 7,og 45 41 false (.slS (tm 42) (some (tm 43)) (some (tm 44))),AI 46 41 134 45,AP 47 41 46]
 48 (tm 47)]
def ql:LSO:=[Aj 2,Ab 3 4]
def qj:LSO:=[Aa 49 0,Aa 50 5,Aa 51 7,BC 52 49 50 51,o1 53 (.build [(.str []),(.str [])] [(0,(1,(tm 52)))]),AZ 8,Ao 2 8 53]
def qi:LSO:=[Aa 54 6,Ad 55 0 8,Ac 56 1 55,Aq 57 165 54 56]
def qh:LSO:=[Aj 2,Ab 3 21]
def qg:LSO:=[Aa 59 0,Aa 60 7,Ah 61 60 1,Aq 62 166 59 61,Aa 58 62,Ar 63 58,Au 64 58,Bc 65 58,Aa 9 63,Aa 10 64,Aa 11 65]
def qf:LSO:=[Aa 66 11,Az 67 66]
def qe:LSO:=[Aj 2,Ab 3 4]
def qd:LSO:=[Aa 68 9,Ad 69 1 8,Ao 1 69 68]
def qc:LSO:=[Aa 70 6,Aw 71 2 8,BT 72 71,Bq 73 70 72,Aa 6 73]
def qb:LSO:=[Aa 74 10,Aa 5 74]
def qa:LSO:=[Aa 75 5,Aa 76 0,Ap 77 76,AA 78 75 77,Aa 79 78,.grp none 79 false
 [Ae 80 79 0,Ae 81 79 5,Bg 82 79 80 81,og 83 79 false (.bin .eql (tm 82) (.av (.int .u8 44)))]
 84 (tm 83)]
def p9:LSO:=[Aa 85 5,Ah 86 85 1,Aa 5 86]
def p8:LSO:=[Aa 87 4,Aa 88 6,BD 89 88,BE 90 87 89,Aa 4 90]
def p7:LSO:=[Aa 91 5,Aa 92 0,Ap 93 92,AA 94 91 93]
def p6:LSO:=[Aa 95 4,Aa 2 95,Ab 3 0]
def p5:LSO:=[Aa 96 5,Ah 97 96 1,Aa 5 97]
def p0:LSO:=[Aj 2,Ab 3 0]
def nR:br:=⟨98,(.seq (.sreg uJ [])
 (.seq (.seq (.sreg uI Ce)
 (.cond (tm 14) (.seq (.sreg uH [])
 .ret)
 .skip))
 (.seq (.sreg uG [])
 (.seq (.sreg uF [])
 (.seq (.block 0 (.loop (.seq (.seq (.sreg uE Ce)
 (.cond (tm 17) .skip
 (.exit 0)))
 (.block 1 (.seq (.sreg uD [])
 (.seq (.seq (.sreg uC Ce)
 (.cond (tm 20) (.seq (.sreg uB [])
 .ret)
 .skip))
 (.seq (.block 2 (.loop (.block 3 (.seq (.seq (.sreg uA Ce)
 (.cond (tm 23) (.seq (.sreg qq [])
 .ret)
 .skip))
 (.seq (.sreg qp Cd)
 (.seq (.block 4 (.loop (.seq (.seq (.sreg qo Ch)
 (.cond (tm 34) .skip
 (.exit 4)))
 (.block 5 (.sreg qn Ce)))))
 (.seq (.seq (.sreg qm Ch)
 (.cond (tm 48) (.seq (.sreg ql [])
 .ret)
 .skip))
 (.seq (.sreg qj Ch)
 (.seq (.seq (.sreg qi Cf)
 (.cond (tm 57) (.seq (.sreg qh [])
 .ret)
 .skip))
 (.seq (.sreg qg [true,true,true,false,false,false,false,false,false,false,false])
 (.seq (.seq (.sreg qf Cd)
 (.cond (tm 67) (.seq (.sreg qe [])
 .ret)
 .skip))
 (.seq (.sreg qd C3)
 (.seq (.sreg qc Cg)
 (.seq (.sreg qb Cd)
 (.seq (.seq (.sreg qa Ch)
 (.cond (tm 84) (.exit 2)
 .skip))
 (.sreg p9 Ce))))))))))))))))
 (.seq (.sreg p8 Cg)
 (.seq (.seq (.sreg p7 Cf)
 (.cond (tm 94) (.seq (.sreg p6 Cj)
 .ret)
 .skip))
 (.sreg p5 Ce))))))))))
 (.seq (.sreg p0 [])
 .ret)))))),[(.tmp 2),(.tmp 3)]⟩
attribute [push_cast] uJ uI uH uG uF uE uD uC uB uA qq qp qo qn qm ql qj qi qh qg qf qe qd qc qb qa p9 p8 p7 p6 p5 p0
theorem Jy:bt Tryz.prog (fun _ _=>1) 131=some nR.raw:=by kernel_rfl
def tY:LSO:=[Am 4,Ab 5 0,Af 6]
def tX:LSO:=[Aj 7]
def tW:LSO:=[Ay 8]
def tV:LSO:=[Aa 13 1,Aa 14 0,Ap 15 14,Ak 16 13 15,Aa 17 16,.grp none 17 true
 [Ag 18 17 0,Ag 19 17 1,AT 20 17 18 19,og 21 17 true (.bin .neq (tm 20) (.av (.int .u8 44)))]
 22 (tm 21),Aa 23 22,.grp none 23 true
 [Ag 24 23 0,Ag 25 23 1,AT 26 23 24 25,og 27 23 true (.bin .neq (tm 26) (.av (.int .u8 43)))]
 28 (tm 27)]
def tU:LSO:=[Aa 29 0,Aa 30 1,A6 31 29 30,Aa 9 31]
def tT:LSO:=[Aa 32 1,Ah 33 32 1,Aa 1 33]
def tS:LSO:=[Aa 34 1,Aa 35 0,Ap 36 35,AA 37 34 36,Aa 38 37,.grp none 38 false
 [Ae 39 38 0,Ae 40 38 1,Bg 41 38 39 40,og 42 38 false (.bin .eql (tm 41) (.av (.int .u8 44)))]
 43 (tm 42),Aa 44 43,.grp none 44 false
 [Ae 45 44 0,Ae 46 44 1,Bg 47 44 45 46,og 48 44 false (.bin .eql (tm 47) (.av (.int .u8 43)))]
 49 (tm 48),Aa 10 49]
def tR:LSO:=[Aa 50 9,o1 51 (.bin .eql (tm 50) (.av (.int .u8 92)))]
def tQ:LSO:=[Aa 52 1,Aa 53 0,Ap 54 53,Ak 55 52 54,Aa 56 55,.grp none 56 true
 [Ag 57 56 0,Ag 58 56 1,AT 59 56 57 58,og 60 56 true (.call 170 [(tm 59),(.av (.str [34,43,44,59,60,62,92,32,35,61]))])]
 61 (tm 60)]
def tP:LSO:=[Aa 62 7,Aa 63 0,Aa 64 1,A6 65 63 64,AH 66 65,AB 67 62 66,Aa 7 67]
def pw:LSO:=[Aa 68 1,Ah 69 68 1,Aa 1 69]
def pu:LSO:=[Aa 70 1,Ah 71 70 2,Aa 72 0,Ap 73 72,o1 74 (.bin .gtr (tm 71) (tm 73))]
def pt:LSO:=[Am 4,Ab 5 0,Af 6]
def pq:LSO:=[Aa 76 0,Aa 77 1,Aa 78 1,Ah 79 78 2,BC 80 76 77 79,Ai 81 189 80,Aa 75 81,Ar 82 75,Au 83 75,Aa 11 82,Aa 12 83]
def pp:LSO:=[Aa 84 12,Az 85 84]
def po:LSO:=[Am 4,Ab 5 0,Af 6]
def pn:LSO:=[Aa 86 7,Aa 87 11,B8 88 87 0,AH 89 88,AB 90 86 89,Aa 7 90]
def pl:LSO:=[Aa 91 1,Ah 92 91 2,Aa 1 92]
def pj:LSO:=[Aa 93 9,BA 94 93,Aa 95 94,.grp none 95 false
 [Ae 96 95 9,og 97 95 false (.call 170 [(tm 96),(.av (.str [34,59,60,62]))])]
 98 (tm 97),Aa 99 98,.grp none 99 false
 [Ae 100 99 8,Ae 101 99 100,.grp (some (99,false)) 101 true
 [Ag 102 101 9,og 103 101 true (.call 170 [(tm 102),(.av (.str [32,35]))])]
 104 (tm 103)]
 105 (tm 104),Aa 106 105,.grp none 106 false
 [Ae 107 106 10,Ae 108 106 107,.grp (some (106,false)) 108 true
 [Ag 109 108 9,Bi 110 108 109]
 111 (tm 110)]
 112 (tm 111)]
def pi:LSO:=[Am 4,Ab 5 0,Af 6]
def ph:LSO:=[Aa 113 7,Aa 114 9,AH 115 114,AB 116 113 115,Aa 7 116]
def pg:LSO:=[Af 8]
def pf:LSO:=[Aa 117 7,AJ 118 117,Aa 119 1,Aa 4 118,Aa 5 119,Ay 6]
def nO:br:=⟨120,(.seq (.sreg tY [])
 (.seq (.sreg tX [])
 (.seq (.sreg tW [])
 (.seq (.block 0 (.loop (.seq (.seq (.sreg tV Cm)
 (.cond (tm 28) .skip
 (.exit 0)))
 (.block 1 (.seq (.sreg tU Cf)
 (.seq (.sreg tT Ce)
 (.seq (.sreg tS Cr)
 (.seq (.seq (.sreg tR Cd)
 (.cond (tm 51) (.seq (.sreg tQ Ch)
 (.cond (tm 61) (.seq (.sreg tP Ci)
 (.sreg pw Ce))
 (.seq (.seq (.sreg pu Cg)
 (.cond (tm 74) (.seq (.sreg pt [])
 .ret)
 .skip))
 (.seq (.sreg pq CC)
 (.seq (.seq (.sreg pp Cd)
 (.cond (tm 85) (.seq (.sreg po [])
 .ret)
 .skip))
 (.seq (.sreg pn Ch)
 (.sreg pl Ce)))))))
 (.seq (.seq (.sreg pj Cm)
 (.cond (tm 112) (.seq (.sreg pi [])
 .ret)
 .skip))
 (.sreg ph Cg))))
 (.sreg pg [])))))))))
 (.seq (.sreg pf CA)
 .ret))))),[(.tmp 4),(.tmp 5),(.tmp 6)]⟩
attribute [push_cast] tY tX tW tV tU tT tS tR tQ tP pw pu pt pq pp po pn pl pj pi ph pg pf
theorem Jv:bt Tryz.prog (fun _ _=>1) 166=some nO.raw:=by kernel_rfl
def nw:LSO:=[Am 2]
def nv:LSO:=[Aj 3]
def nu:LSO:=[Ab 4 0]
def nr:LSO:=[Aa 6 4,Aa 7 0,Ap 8 7,Ak 9 6 8]
def nq:LSO:=[Aa 12 0,Aa 13 4,A6 14 12 13,Aa 5 14]
def np:LSO:=[Aa 15 5,BA 16 15]
def nl:LSO:=[Aa 17 3,o1 18 (.app 1 1 1 [(.int .u8 0)] (tm 17) (.av (.str [92,48,48]))),Aa 3 18]
def nk:LSO:=[Aa 19 5,o1 20 (.call 170 [(tm 19),(.av (.str [34,43,44,59,60,62,92]))]),Aa 21 20,.grp none 21 false
 [Ae 22 21 4,AE 23 21 22 0,Ae 24 21 23,.grp (some (21,false)) 24 true
 [Ag 25 24 5,og 26 24 true (.call 170 [(tm 25),(.av (.str [32,35]))])]
 27 (tm 26)]
 28 (tm 27),Aa 29 28,.grp none 29 false
 [Ae 30 29 4,og 31 29 false (.bin .add (tm 30) (iv 1)),Ae 32 29 0,Bh 33 29 32,og 34 29 false (.bin .eql (tm 31) (tm 33)),Ae 35 29 34,.grp (some (29,false)) 35 true
 [Ag 36 35 5,Bi 37 35 36]
 38 (tm 37)]
 39 (tm 38)]
def nj:LSO:=[Aa 40 3,o1 41 (.bslice false 1 1 [(.int .u8 0)] [(0,(1,(.av (.int .u8 92))))]),AB 42 40 41,Aa 3 42]
def ni:LSO:=[Aa 43 3,Aa 44 5,AH 45 44,AB 46 43 45,Aa 3 46]
def mq:LSO:=[Aa 10 4,Ah 11 10 1,Aa 4 11]
def mo:LSO:=[Aa 47 3,AJ 48 47,Aa 2 48]
def k7:br:=⟨49,(.seq (.sreg nw [])
 (.seq (.sreg nv [])
 (.seq (.seq (.sreg nu [])
 (.block 0 (.loop (.seq (.seq (.sreg nr Cf)
 (.cond (tm 9) .skip
 (.exit 0)))
 (.seq (.block 1 (.seq (.sreg nq Cf)
 (.seq (.seq (.sreg np Cd)
 (.cond (tm 16) (.seq (.sreg nl Ce)
 (.exit 1))
 .skip))
 (.seq (.seq (.sreg nk Ch)
 (.cond (tm 39) (.sreg nj Cf)
 .skip))
 (.sreg ni Cg)))))
 (.sreg mq Ce))))))
 (.seq (.sreg mo Ce)
 .ret)))),[(.tmp 2)]⟩
attribute [push_cast] nw nv nu nr nq np nl nk nj ni mq mo
theorem GM:bt Tryz.prog (fun _ _=>1) 197=some k7.raw:=by kernel_rfl
def ya:LSO:=[Am 2]
def x9:LSO:=[Am 3]
def x8:LSO:=[Aa 8 0,Al 9 8,Ab 10 0]
def x0:LSO:=[Ak 11 10 9]
def xZ:LSO:=[Aa 12 10,An 13 1 8 10,Ac 14 1 13,Aa 4 12,Aa 5 14]
def xY:LSO:=[Aa 15 4,A3 16 15 0]
def xX:LSO:=[Aa 17 3,o1 18 (.bin .add (tm 17) (.av (.str [44]))),Aa 3 18]
def xW:LSO:=[Aa 19 5,Al 20 19,Ab 21 0]
def xV:LSO:=[Ak 22 21 20]
def xU:LSO:=[Aa 23 21,An 24 2 19 21,Aw 25 2 24,AZ 7,Aa 6 23,Ao 2 7 25]
def uc:LSO:=[Aa 26 6,A3 27 26 0]
def ub:LSO:=[Aa 28 3,o1 29 (.bin .add (tm 28) (.av (.str [43]))),Aa 3 29]
def ua:LSO:=[Aa 30 3,Ad 31 0 7,Ac 32 1 31,AM 33 30 32,o1 34 (.bin .add (tm 33) (.av (.str [61]))),Ad 35 1 7,Ac 36 1 35,Ai 37 197 36,AM 38 34 37,Aa 3 38]
def t8:LSO:=[Ah 39 21 1,Aa 21 39]
def t7:LSO:=[Ah 40 10 1,Aa 10 40]
def tZ:LSO:=[Aa 41 3,Aa 2 41]
def rJ:br:=⟨42,(.seq (.sreg ya [])
 (.seq (.sreg x9 [])
 (.seq (.seq (.sreg x8 [])
 (.block 0 (.loop (.seq (.sreg x0 [])
 (.seq (.cond (tm 11) .skip
 (.exit 0))
 (.seq (.block 1 (.seq (.sreg xZ Cl)
 (.seq (.seq (.sreg xY Cd)
 (.cond (tm 16) (.sreg xX Ce)
 .skip))
 (.seq (.sreg xW [])
 (.block 2 (.loop (.seq (.sreg xV [])
 (.seq (.cond (tm 22) .skip
 (.exit 2))
 (.seq (.block 3 (.seq (.sreg xU Cl)
 (.seq (.seq (.sreg uc Cd)
 (.cond (tm 27) (.sreg ub Ce)
 .skip))
 (.sdreg ua [.pure,.pure,(.read 0 0),.pure,.pure,.pure,(.read 0 0),(.read 0 0)] C2))))
 (.sreg t8 Cd))))))))))
 (.sreg t7 Cd)))))))
 (.seq (.sreg tZ Cd)
 .ret)))),[(.tmp 2)]⟩
attribute [push_cast] ya x9 x8 x0 xZ xY xX xW xV xU uc ub ua t8 t7 tZ
theorem KI:bt Tryz.prog (fun _ _=>1) 168=some rJ.raw:=by kernel_rfl
def uz:LSO:=[Am 2,Ab 3 0]
def uy:LSO:=[Ab 4 0]
def ux:LSO:=[Aa 9 0,Al 10 9,Ab 11 0]
def uw:LSO:=[Ak 12 11 10]
def uv:LSO:=[Aa 13 11,An 14 1 9 11,Ac 15 1 14,Aa 5 13,Aa 6 15]
def uu:LSO:=[Aa 16 5,As 17 16 32]
def ut:LSO:=[Am 2,Ab 3 9]
def ur:LSO:=[Aa 18 6,Al 19 18,As 20 19 0]
def uq:LSO:=[Am 2,Ab 3 2]
def uo:LSO:=[Aa 21 6,Al 22 21,Ab 23 0]
def pZ:LSO:=[Ak 24 23 22]
def pY:LSO:=[Aa 25 23,An 26 2 21 23,Aw 27 2 26,AZ 8,Aa 7 25,Ao 2 8 27]
def pX:LSO:=[Aa 28 7,As 29 28 8]
def pW:LSO:=[Am 2,Ab 3 9]
def pV:LSO:=[Ad 30 0 8,Ac 31 1 30,Ai 32 134 31,Az 33 32]
def pU:LSO:=[Am 2,Ab 3 20]
def pT:LSO:=[Aa 34 6,Aa 35 7,BV 36 34 35,Ad 37 0 8,Ac 38 1 37,Aq 39 165 36 38]
def pS:LSO:=[Am 2,Ab 3 21]
def pR:LSO:=[Aa 40 4,Ad 41 1 8,Ac 42 1 41,Ap 43 42,o1 44 (.minmax false [(tm 43),(iv 5000)]),AM 45 40 44,Aa 4 45]
def pQ:LSO:=[Ah 46 23 1,Aa 23 46]
def pP:LSO:=[Ah 47 11 1,Aa 11 47]
def pO:LSO:=[Aa 48 4,A3 49 48 4096,Aa 50 49,.grp none 50 false
 [Ae 51 50 0,AI 52 50 168 51,Bh 53 50 52,A8 54 50 53 4096]
 55 (tm 54)]
def pN:LSO:=[Am 2,Ab 3 5]
def pM:LSO:=[Aa 56 0,Ai 57 168 56,Aa 2 57,Ab 3 0]
def nQ:br:=⟨58,(.seq (.sreg uz [])
 (.seq (.sreg uy [])
 (.seq (.seq (.sreg ux [])
 (.block 0 (.loop (.seq (.sreg uw [])
 (.seq (.cond (tm 12) .skip
 (.exit 0))
 (.seq (.block 1 (.seq (.sreg uv Cl)
 (.seq (.seq (.sreg uu Cd)
 (.cond (tm 17) (.seq (.sreg ut [])
 .ret)
 .skip))
 (.seq (.seq (.sreg ur Ce)
 (.cond (tm 20) (.seq (.sreg uq [])
 .ret)
 .skip))
 (.seq (.sreg uo [])
 (.block 2 (.loop (.seq (.sreg pZ [])
 (.seq (.cond (tm 24) .skip
 (.exit 2))
 (.seq (.block 3 (.seq (.sreg pY Cl)
 (.seq (.seq (.sreg pX Cd)
 (.cond (tm 29) (.seq (.sreg pW [])
 .ret)
 .skip))
 (.seq (.seq (.sreg pV Cf)
 (.cond (tm 33) (.seq (.sreg pU [])
 .ret)
 .skip))
 (.seq (.seq (.sdreg pT [.pure,.pure,(.read 0 0),.pure,(.read 0 0)] Ch)
 (.cond (tm 39) (.seq (.sreg pS [])
 .ret)
 .skip))
 (.sreg pR Ci))))))
 (.sreg pQ Cd)))))))))))
 (.sreg pP Cd)))))))
 (.seq (.seq (.sreg pO Cf)
 (.cond (tm 55) (.seq (.sreg pN [])
 .ret)
 .skip))
 (.seq (.sreg pM Cq)
 .ret))))),[(.tmp 2),(.tmp 3)]⟩
attribute [push_cast] uz uy ux uw uv uu ut ur uq uo pZ pY pX pW pV pU pT pS pR pQ pP pO pN pM
theorem Jx:bt Tryz.prog (fun _ _=>1) 167=some nQ.raw:=by kernel_rfl
def um:LSO:=[Aj 2]
def ul:LSO:=[Aj 3]
def uk:LSO:=[Aa 12 0,Al 13 12,Ab 14 0]
def uj:LSO:=[Ak 15 14 13]
def ui:LSO:=[An 16 1 12 14,Ac 17 1 16,Aa 5 17]
def uh:LSO:=[Aj 6]
def ug:LSO:=[Aa 18 5,Al 19 18,Ab 20 0]
def uf:LSO:=[Ak 21 20 19]
def ue:LSO:=[An 22 2 18 20,Aw 23 2 22,AZ 8,Ao 2 8 23]
def ud:List (ai×Kd) :=
 [A0 24 0 8,Ax 25 1 24 0 1,AK 26 39 25 0 1,A0 27 1 8,Ax 28 1 27 0 1,AK 29 90 28 0 1,od 30 (.build [(.str []),(.str [])] [(0,(1,(tm 26))),(1,(1,(tm 29)))]) .pure,
 od 9 (.alloc [(.str []),(.str [])]) .eff]
def py:List ai :=
 [⟨none,(.store 2 (tm 9) (tm 30)),none⟩]
def pL:LSO:=[Aa 31 6,Al 32 31,Aa 10 32]
def pK:LSO:=[Aa 33 10,A3 34 33 0,Aa 35 34,.grp none 35 true
 [Ag 36 35 6,Ag 37 35 10,BY 38 35 37 1,Bz 39 35 2 36 38,Bl 40 35 0 39,Bd 41 35 1 40,og 42 35 true (.bin .add (tm 41) (.av (.str [61]))),Ag 43 35 6,Ag 44 35 10,BY 45 35 44 1,
 Bz 46 35 2 43 45,Bl 47 35 1 46,Bd 48 35 1 47,AF 49 35 197 48,og 50 35 true (.bin .add (tm 42) (tm 49)),Bl 51 35 0 9,Bd 52 35 1 51,
 og 53 35 true (.bin .add (tm 52) (.av (.str [61]))),Bl 54 35 1 9,Bd 55 35 1 54,AF 56 35 197 55,og 57 35 true (.bin .add (tm 53) (tm 56)),
 og 58 35 true (.bin .gtr (tm 50) (tm 57))]
 59 (tm 58)]
def pJ:LSO:=[Aa 60 10,AO 61 60 1,Aa 10 61]
def pI:LSO:=[Aj 11]
def pH:LSO:=[Aa 62 11,Aa 63 6,Aa 64 10,BV 65 63 64,Bq 66 62 65,Aa 11 66]
def pG:LSO:=[Aa 67 11,Aw 68 2 9,BT 69 68,Bq 70 67 69,Aa 11 70]
def pF:LSO:=[Aa 71 11,Aa 72 6,Aa 73 10,o1 74 (.slV 2 (tm 72) (some (tm 73)) none none),Bq 75 71 74,Aa 11 75]
def pE:LSO:=[Aa 76 11,Aa 6 76]
def pD:LSO:=[Ah 77 20 1,Aa 20 77]
def pB:LSO:=[Aa 78 3,Aa 79 6,BD 80 79,BE 81 78 80,Aa 3 81]
def pA:LSO:=[Ah 82 14 1,Aa 14 82]
def pz:LSO:=[Aa 83 3,Aa 2 83]
def nP:br:=⟨84,(.seq (.sreg um [])
 (.seq (.sreg ul [])
 (.seq (.seq (.sreg uk [])
 (.block 0 (.loop (.seq (.sreg uj [])
 (.seq (.cond (tm 15) .skip
 (.exit 0))
 (.seq (.block 1 (.seq (.sreg ui Ce)
 (.seq (.sreg uh [])
 (.seq (.seq (.sreg ug [])
 (.block 2 (.loop (.seq (.sreg uf [])
 (.seq (.cond (tm 21) .skip
 (.exit 2))
 (.seq (.block 3 (.seq (.sreg ue Ce)
 (.seq (.dregM ud py Cm)
 (.seq (.sreg pL Ce)
 (.seq (.block 4 (.loop (.seq (.seq (.sdreg pK [.pure,.pure,.pure,.pure,.pure,.pure,(.read 0 0),.pure,(.read 0 0),.pure,.pure,.pure,.pure,(.read 0 0),.pure,(.read 0 0),(.read 0 0),.pure,.pure,(.read 0 0),.pure,.pure,(.read 0 0),(.read 0 0),.pure] Cf)
 (.cond (tm 59) .skip
 (.exit 4)))
 (.block 5 (.sreg pJ Ce)))))
 (.seq (.sreg pI [])
 (.seq (.sreg pH Ch)
 (.seq (.sreg pG Cg)
 (.seq (.sreg pF Ch)
 (.sreg pE Cd))))))))))
 (.sreg pD Cd)))))))
 (.sreg pB Cg)))))
 (.sreg pA Cd)))))))
 (.seq (.sreg pz Cd)
 .ret)))),[(.tmp 2)]⟩
attribute [push_cast] um ul uk uj ui uh ug uf ue ud py pL pK pJ pI pH pG pF pE pD pB pA pz
theorem Jw:bt Tryz.prog (fun _ _=>1) 169=some nP.raw:=by kernel_rfl
def yn:LSO:=[Am 2,Ab 3 0]
def ym:LSO:=[Aa 7 0,Ai 8 167 7,Aa 6 8,Ar 9 6,Au 10 6,Aa 4 9,Aa 5 10]
def yl:LSO:=[Aa 11 5,AC 12 11 0]
def yk:LSO:=[Aa 13 5,Am 2,Aa 3 13]
def yj:LSO:=[Aa 14 0,Ai 15 169 14,Ai 16 168 15,Aa 2 16,Ab 3 0]
def rL:br:=⟨17,(.seq (.sreg yn [])
 (.seq (.sreg ym Ci)
 (.seq (.seq (.sreg yl Cd)
 (.cond (tm 12) (.seq (.sreg yk Cj)
 .ret)
 .skip))
 (.seq (.sreg yj Cl)
 .ret)))),[(.tmp 2),(.tmp 3)]⟩
attribute [push_cast] yn ym yl yk yj
theorem KK:bt Tryz.prog (fun _ _=>1) 132=some rL.raw:=by kernel_rfl
def ET:LSO:=[Am 2,Ab 3 0]
def ER:LSO:=[Aa 7 0,Ai 8 131 7,Aa 6 8,Ar 9 6,Au 10 6,Aa 4 9,Aa 5 10]
def EP:LSO:=[Aa 11 5,AC 12 11 0]
def EO:LSO:=[Aa 13 5,Am 2,Aa 3 13]
def EN:LSO:=[Aa 14 4,Ai 15 132 14,Ar 16 15,Au 17 15,Aa 2 16,Aa 3 17]
def CW:br:=⟨18,(.seq (.sreg ET [])
 (.seq (.sreg ER Cs)
 (.seq (.seq (.sreg EP Cd)
 (.cond (tm 12) (.seq (.sreg EO Cj)
 .ret)
 .skip))
 (.seq (.sreg EN Cz)
 .ret)))),[(.tmp 2),(.tmp 3)]⟩
attribute [push_cast] ET ER EP EO EN
theorem Mm:bt Tryz.prog (fun _ _=>1) 92=some CW.raw:=by kernel_rfl
attribute [push_cast] rK GN CV nO k7 rJ nQ nP rL CW
variable {L:List Blk} {K:Zy}
set_option maxHeartbeats 8000000
set_option maxRecDepth 100000
theorem ja {l:List UInt8} {x:UInt8} (hn:l.length<=1100000) (h:K (.bool (l.contains x)) L) :
  Zx 170 [.int .u8 x.toNat,.str l] L K:=by
 replace h:=hid h;refine Zw MW ?_;refine ak (fun n T' L'=>∃ (i:Nat),n=l.length - i/\i<=l.length/\Hid (∀ j,j<i->l.getD j 0≠x)/\T'=[(5,.int .i64 (i:Int)),(0,.int .u8 x.toNat),(1,.str l)]/\L=L') (CutS (b:=ZA _)) ⟨0,rfl,ZI _,hid (by simp),rfl,rfl⟩ ?_;rintro _ _ _ ⟨i,rfl,hi,hno,rfl,rfl⟩;by_cases hlt:i<l.length
 ·have h1:(i:Int)<(l.length:Int):=by omega
  have h2:=Zv i (by omega);obtain ⟨p,hp⟩:=Zt (l.getD i 0);by_cases hpq:p=x
  ·have hc:l.contains x=true:=by
    rw [aax,<- hpq,<- hp,Z2,ZR hlt];exact aaI _
   have h':=h.out;rw [hc] at h';replace h':=hid h';clear hc;subst hpq;refine wk ?_;exact aa h'.out
  ·have k1:¬ (p.toNat:Int)=(x.toNat:Int):=fun e=>hpq ((bu p x).1 e)
   have hp':=hid hp;refine wk ?_;refine aj _ _ _ (by omega) (CutS (b:=ZA _)) ⟨i+1,rfl,hlt,hid fun j hj=>?_,rfl,rfl⟩;rcases ZT j i with e|e
   ·exact hno.out j e
   ·have:j=i:=by omega
    subst this;rw [hp];exact hpq
 ·have hke:i=l.length:=by omega
  subst hke;have h1:¬ (l.length:Int)<(l.length:Int):=by omega
  have hc:l.contains x=false:=by
   rw [<- aa0,aax];intro hm;obtain ⟨j,hj,e⟩:=aa1.1 hm;exact hno.out j hj (by simp [hj,e])
  have h':=h.out;rw [hc] at h';replace h':=hid h';clear hc;refine wk ?_;exact aa h'.out
abbrev kE:List UInt8:=[97,98,99,100,101,102,103,104,105,106,107,108,109,110,111,112,113,114,115,116,117,118,119,120,121,122]
abbrev NN:List UInt8:=[48,49,50,51,52,53,54,55,56,57,45]
theorem W2:∀ n:_root_.Fin 256,kE.contains (dA (UInt8.ofNat n.val))=kJ (n.val:Int)/\(kE.contains (dA (UInt8.ofNat n.val)) || NN.contains (dA (UInt8.ofNat n.val)))=G4 (n.val:Int):=by decide +kernel
theorem Oo (c:UInt8):kE.contains (dA c)=kJ (c.toNat:Int)/\(kE.contains (dA c) || NN.contains (dA c))=G4 (c.toNat:Int):=by
 have:=W2 ⟨c.toNat,c.toNat_lt⟩;simpa using this
def okC (j:Nat) (c:UInt8):Bool:=kE.contains (dA c) || (decide (0<j) && NN.contains (dA c))
theorem Uh (s:List UInt8):fq s=true↔(1<=s.length/\s.length<=32)/\∀ j,j<s.length->okC j (s.getD j 0)=true:=by
 simp only [fq,ZE,decide_eq_true_eq,ZJ];constructor
 ·rintro ⟨⟨⟨h1,h2⟩,h3⟩,h4⟩;refine ⟨⟨h1,h2⟩,fun j hj=>?_⟩;obtain ⟨e1,e2⟩:=Oo (s.getD j 0);by_cases h0:j=0
  ·subst h0;rw [okC,e1,h3];rfl
  ·have hm:s.getD j 0∈s:=by simp [hj]
   have:=h4 _ hm;rw [<- e2] at this;rw [okC,show decide (0<j)=true by simp;omega,aaw];exact this
 ·rintro ⟨⟨h1,h2⟩,h3⟩;refine ⟨⟨⟨h1,h2⟩,?_⟩,fun c hc=>?_⟩
  ·have:=h3 0 (by omega);rw [okC] at this;simp only [Nat.lt_irrefl,decide_false,aa5,abH] at this;rw [<- (Oo _).1];exact this
  ·obtain ⟨j,hj,rfl⟩:=aa1.1 hc;have:=h3 j hj;have e:s.getD j 0=s[j]:=by simp [hj]
   rw [e,okC] at this;rw [<- (Oo _).2];cases hl:kE.contains (dA s[j]) with
   | true=>rfl
   | false =>
     rw [hl,aa2,ZE] at this;rw [this.2];rfl
theorem O6 {s:List UInt8} (hs:(s.length:Int)<=140737488351232) (h:K (.bool (fq s)) L):Zx 134 [.str s] L K:=by
 replace h:=hid h;obtain ⟨t,ht⟩:=Zt (ab s);have htl:t.length=s.length:=by rw [<- ht];simp [ab]
 have hg:∀ j,j<s.length->t.getD j 0=dA (s.getD j 0):=fun j hj=>by rw [<- ht];simp [ab,hj]
 replace htl:=hid htl;replace hg:=hid hg;have hit:=hid (Uh s);refine Zw KJ ?_;refine bX hs ?_;rw [ht];refine sk ?_;refine wk ?_;refine ak (fun n T' L'=>∃ (i:Nat) (b:Bool),n=s.length+1 - i/\i<=s.length/\Hid (b=true↔(1<=s.length/\s.length<=32)/\∀ j,j<i->okC j (s.getD j 0)=true)/\T'=[(5,.int .i64 (i:Int)),(4,.bool b),(3,.str t)]/\L=L') (CutS (b:=ZA _)) ⟨0,_,rfl,ZI _,hid (by have:=htl.out;simp;omega),rfl,rfl⟩ ?_;rintro _ _ _ ⟨i,b,rfl,hi,hb,rfl,rfl⟩;have htl':=htl.out;by_cases hlt:i<s.length
 ·have g1:(i:Int)<(t.length:Int):=by omega
  have g2:=Zv i (by omega);have g3:=hg.out i hlt;obtain ⟨c,hc⟩:=Zt (s.getD i 0);rw [hc] at g3;replace hc:=hid hc;clear htl';cases b with
  | false =>
    have hf:fq s=false:=by
     rw [<- aa0,hit.out];intro ⟨q1,q2⟩;have:=hb.out.2 ⟨q1,fun j hj=>q2 j (by omega)⟩;cases this
    have h':=h.out;rw [hf] at h';replace h':=hid h';clear hf;refine wk ?_;exact aa h'.out
  | true =>
    have hnext:okC i c=true↔((1<=s.length/\s.length<=32)/\∀ j,j<i+1->okC j (s.getD j 0)=true):=by
     have hb1:=hb.out.1 rfl;constructor
     ·intro e;refine ⟨hb1.1,fun j hj=>?_⟩;rcases ZT j i with q|q
      ·exact hb1.2 j q
      ·have:j=i:=by omega
       subst this;rw [hc.out];exact e
     ·rintro ⟨_,e⟩;have:=e i (by omega)
      rwa [hc.out] at this
    replace hnext:=hid hnext;have hok:okC i c=(kE.contains (dA c) || (decide (0<i) && NN.contains (dA c))):=rfl;replace hok:=hid hok;refine wk ?_;refine ja (by simp) ?_;cases hl:kE.contains (dA c) with
    | true =>
      have hk:=hid (show okC i c=true by rw [hok.out,hl];rfl);refine sk ?_;refine wk ?_;exact aj _ _ _ (by omega) (CutL (b:=ZA _)) ⟨i+1,true,rfl,hlt,hid (by rw [<- hnext.out,hk.out]),rfl,rfl⟩
    | false =>
      by_cases h0:i=0
      ·have hk:=hid (show okC i c=false by rw [hok.out,hl,h0];rfl);have k0:¬ (0:Int)<(i:Int):=by omega
       clear h0;refine sk ?_;refine wk ?_;exact aj _ _ _ (by omega) (CutL (b:=ZA _)) ⟨i+1,false,rfl,hlt,hid (by rw [<- hnext.out,hk.out]),rfl,rfl⟩
      ·have hk:=hid (show okC i c=NN.contains (dA c) by rw [hok.out,hl,show decide (0<i)=true by simp;omega];simp);have k0:(0:Int)<(i:Int):=by omega
       clear h0;refine sk ?_
       repeat' first
        | refine bb ?_
        | (first|refine aU (by kernel_rfl) ?_|refine aA (by kernel_rfl) ?_|refine aD ?_|refine bS ?_|refine bh (fun _=>?_)|refine ay ?_|refine aW ?_)
          refine sm ?_
        | (first|refine aP (by kernel_rfl) ?_|refine aQ ?_|refine aC ?_|refine aV ?_|refine bq (ax ?_))
          refine sl ?_
        | exact bj
        | first|apply bm|apply aR|apply bo|apply aS|apply bp|apply aT
        | refine aG ?_
        | refine aB ?_
        | first|refine aE rfl ?_|refine aF rfl ?_|refine an rfl ?_ ?_|refine aI rfl (fun _=>?_) (fun _=>?_)|refine aH rfl (fun _=>?_) (fun _=>?_)
        | ((first|refine am (fun _=>?_) (fun _=>?_)|refine aw (fun _=>?_) (fun _=>?_))<;>try refine sm ?_)
        | refine And.intro trivial ?_
        | refine And.intro (by omega) ?_
        | refine aM rfl (fun _=>?_) (fun _=>?_)
        | refine And.intro ?_ ?_
       refine aL (ja (by simp) ⟨rfl,rfl⟩) ?_;simp only [Kon,push_cast,reduceIte,Nat.reduceEqDiff,Nat.reduceAdd,Nat.reduceMul,Nat.reduceSub,Nat.reduceLT,Nat.reduceLeDiff,Int.reduceLT,Int.reduceLE,Int.reduceAdd,Int.reduceSub,Int.reduceNeg,Int.reduceToNat,Int.reduceEq,reduceCtorEq, *]
       repeat' first
        | refine bb ?_
        | (first|refine aU (by kernel_rfl) ?_|refine aA (by kernel_rfl) ?_|refine aD ?_|refine bS ?_|refine bh (fun _=>?_)|refine ay ?_|refine aW ?_)
          refine sm ?_
        | (first|refine aP (by kernel_rfl) ?_|refine aQ ?_|refine aC ?_|refine aV ?_|refine bq (ax ?_))
          refine sl ?_
        | exact bj
        | first|apply bm|apply aR|apply bo|apply aS|apply bp|apply aT
        | refine aG ?_
        | refine aB ?_
        | first|refine aE rfl ?_|refine aF rfl ?_|refine an rfl ?_ ?_|refine aI rfl (fun _=>?_) (fun _=>?_)|refine aH rfl (fun _=>?_) (fun _=>?_)
        | ((first|refine am (fun _=>?_) (fun _=>?_)|refine aw (fun _=>?_) (fun _=>?_))<;>try refine sm ?_)
        | refine And.intro trivial ?_
        | refine And.intro (by omega) ?_
        | refine aM rfl (fun _=>?_) (fun _=>?_)
        | refine And.intro ?_ ?_
       exact aj _ _ _ (by omega) (CutL (b:=ZA _)) ⟨i+1,NN.contains (dA c),rfl,hlt,hid (by rw [<- hnext.out,hk.out]),rfl,rfl⟩
 ·have hke:i=s.length:=by omega
  subst hke;have g1:¬ (s.length:Int)<(t.length:Int):=by omega
  have hfin:b=fq s:=by
   have e:=hb.out.trans hit.out.symm;cases b<;>cases hs':fq s<;>simp_all
  have h':=h.out;rw [<- hfin] at h';replace h':=hid h';clear hfin;clear htl';refine wk ?_;exact aa h'.out
theorem Rw {s:List UInt8} (hs:(s.length:Int)<=100000) (h:K (.bool (fq s)) L):Zx 134 [.str s] L K:=O6 (by omega) h
theorem Uz {r:List Ava} {typ:List UInt8} {cap:Option Nat} (hn:r.length<=100000) (h1:∀ a∈r,(a.1.length:Int)<=100000) (h2:(typ.length:Int)<=100000) (h:K (.bool (gw r typ)) L) :
  Zx 165 [Qp r cap,.str typ] L K:=by
 replace h:=hid h;replace h1:=hid h1;refine Zw Ml ?_;refine ak (fun n T' L'=>∃ (k:Nat) (Z:List Blk),n=r.length - k/\k<=r.length/\Hid (gw (r.take k) typ=false)/\T'=[(9,.int .i64 (k:Int)),(8,.int .i64 r.length),(7,Qp r cap),(1,.str typ)]/\L'=L++Z) (CutS (b:=by simp)) ⟨0,[],rfl,ZI _,hid rfl,rfl,by simp⟩ ?_;rintro _ _ _ ⟨k,Z,rfl,hk,hf,rfl,rfl⟩;by_cases hlt:k<r.length
 ·have g1:(k:Int)<(r.length:Int):=by omega
  have g2:=Zv k (by omega);have e1:=eM hlt;have e2:k * 2+2<=(a7 r).length:=by rw [dt];omega
  obtain ⟨⟨ty,va⟩,ha⟩:∃ a,r.getD k ([],[])=a:=⟨_,rfl⟩;have ham:(ty,va)∈r:=by rw [<- ha];simp [hlt]
  have htk:r.take (k+1)=r.take k++[(ty,va)]:=by rw [ZY hlt,<- ha];simp [hlt]
  rw [ha] at e1;simp only [mL] at e1;have hs:gw (r.take (k+1)) typ=decide (ab ty=ab typ):=by
   have:=hf.out;simp only [gw] at this ⊢;rw [htk,ach,this];simp
  have ha1:=h1.out _ ham;simp only at ha1;have hall:ab ty=ab typ->gw r typ=true:=fun e=>abZ.2 ⟨_,ham,by simpa using e⟩
  replace hall:=hid hall;replace hs:=hid hs;clear ha ham htk;by_cases hq:ab ty=ab typ
  ·have h':=h.out;rw [hall.out hq] at h';replace h':=hid h';have kk1:=@hid _ (fun L K=>iX ha1 (L:=L) (K:=K));have kk2:=@hid _ (fun L K=>iX h2 (L:=L) (K:=K));refine wk ?_;exact ae rfl h'.out
  ·have kk1:=@hid _ (fun L K=>iX ha1 (L:=L) (K:=K));have kk2:=@hid _ (fun L K=>iX h2 (L:=L) (K:=K));refine wk ?_;exact aj _ _ _ (by omega) (CutL (b:=by simp)) ⟨k+1,_,rfl,hlt,hid (by rw [hs.out];simpa using hq),rfl,rfl⟩
 ·have hke:k=r.length:=by omega
  subst hke;have g1:¬ (r.length:Int)<(r.length:Int):=by omega
  have hn':=hf.out;rw [ZW] at hn';have h':=h.out;rw [hn'] at h';replace h':=hid h';clear hn';refine wk ?_;exact ae rfl h'.out
theorem iM {s:List UInt8} (hs:s.length<=100000) (h:K (.str (dS s)) L):Zx 197 [.str s] L K:=by
 replace h:=hid h;refine Zw GM ?_;refine cG (l:=[]) (n:=0) 3 1 rfl (aae 1).symm ?_;refine ak (fun n T' L'=>∃ (i m:Nat) (b:List UInt8),n=s.length - i/\i<=s.length/\m<=3 * i/\Hid (m=b.length/\b++wrL s.length i (s.drop i)=dS s)/\T'=[(4,.int .i64 (i:Int)),(3,.gsl (u8s b) m L.length 1),(0,.str s)]/\L'=L++[.spare m 1]) (CutS (b:=by simp)) ⟨0,0,[],rfl,ZI _,by omega,hid ⟨rfl,rfl⟩,rfl,rfl⟩ ?_;rintro _ _ _ ⟨i,m,b,rfl,hi,hm,hb,rfl,rfl⟩;by_cases hlt:i<s.length
 ·have g1:(i:Int)<(s.length:Int):=by omega
  have g2:=Zv i (by omega);obtain ⟨c,hc⟩:=Zt (s.getD i 0);have hdr:=iH hlt;rw [hc] at hdr;have hb2:=hb.out.2;rw [hdr] at hb2;simp only [wrL] at hb2;clear hdr;replace hb2:=hid hb2;obtain ⟨p1,hp1⟩:=Zt (([34,43,44,59,60,62,92]:List UInt8).contains c);obtain ⟨p2,hp2⟩:=Zt (([32,35]:List UInt8).contains c);have hq1:p1=true↔c∈([34,43,44,59,60,62,92]:List UInt8):=by rw [<- hp1,aax]
  have hq2:p2=true↔(c=32\/c=35):=by rw [<- hp2,aax];simp
  replace hq1:=hid hq1;replace hq2:=hid hq2
  repeat' first
   | refine bb ?_
   | (first|refine aU (by kernel_rfl) ?_|refine aA (by kernel_rfl) ?_|refine aD ?_|refine bS ?_|refine bh (fun _=>?_)|refine ay ?_|refine aW ?_|refine ja (by simp) ?_|refine bg (ja (by simp) ⟨rfl,rfl⟩) (ja (by simp) ⟨rfl,rfl⟩) ?_|refine aL (ja (by simp) ⟨rfl,rfl⟩) ?_)
     refine sm ?_
   | (first|refine aP (by kernel_rfl) ?_|refine aQ ?_|refine aC ?_|refine aV ?_|refine bq (ax ?_))
     refine sl ?_
   | exact bj
   | first|apply bm|apply aR|apply bo|apply aS|apply bp|apply aT
   | refine aG ?_
   | refine aB ?_
   | first|refine aE rfl ?_|refine aF rfl ?_|refine an rfl ?_ ?_|refine aI rfl (fun _=>?_) (fun _=>?_)|refine aH rfl (fun _=>?_) (fun _=>?_)
   | ((first|refine am (fun _=>?_) (fun _=>?_)|refine aw (fun _=>?_) (fun _=>?_))<;>try refine sm ?_)
   | refine And.intro trivial ?_
   | refine And.intro (by omega) ?_
   | refine aM rfl (fun _=>?_) (fun _=>?_)
   | refine And.intro ?_ ?_
  ·rfl
  ·omega
  ·rename_i h0
   have hc0:=(bu c 0).1 h0;rw [show u8s b++AV.frzL (u8s [92,48,48])=u8s (b++[92,48,48]) by simp [u8s,AV.frzL,AV.frz]];refine aj _ _ _ (by omega) (CutL (b:=by simp)) ⟨i+1,m+3,b++[92,48,48],rfl,hlt,by omega,hid ⟨by simp [hb.out.1],?_⟩,rfl,rfl⟩;rw [<- hb2.out,wrB,if_pos hc0,ZO]
  ·rename_i h0 h1
   have hc0:¬ c=0:=fun e=>h0 ((bu c 0).2 e)
   have hq:(i=0/\(c=32\/c=35))\/(i+1=s.length/\c=32)\/c∈[34,43,44,59,60,62,92]:=by
    simp only [aaa,ZE,decide_eq_true_eq] at h1;rcases h1 with (e|⟨e1,e2⟩)|⟨e1,e2⟩
    ·exact .inr (.inr (hq1.out.1 e))
    ·exact .inl ⟨by omega,hq2.out.1 e2⟩
    ·exact .inr (.inl ⟨by omega,(bu c 32).1 e2⟩)
   rw [show u8s b++[AV.int IntKind.u8 92,AV.int IntKind.u8 (c.toNat:Int)]=u8s (b++[92,c]) by simp [u8s]];refine aj _ _ _ (by omega) (CutL (b:=by simp)) ⟨i+1,m+1+1,b++[92,c],rfl,hlt,by omega,hid ⟨by simp [hb.out.1],?_⟩,rfl,rfl⟩;rw [<- hb2.out,wrB,if_neg hc0,if_pos hq,ZO]
  ·rename_i h0 h1
   have hc0:¬ c=0:=fun e=>h0 ((bu c 0).2 e)
   have hq:¬ ((i=0/\(c=32\/c=35))\/(i+1=s.length/\c=32)\/c∈[34,43,44,59,60,62,92]):=fun hq=>by
    rw [<- aa0] at h1;refine h1 ?_;simp only [aaa,ZE,decide_eq_true_eq];rcases hq with ⟨e1,e2⟩|⟨e1,e2⟩|e
    ·exact .inl (.inr ⟨by omega,hq2.out.2 e2⟩)
    ·exact .inr ⟨by omega,(bu c 32).2 e2⟩
    ·exact .inl (.inl (hq1.out.2 e))
   rw [show u8s b++[AV.int IntKind.u8 (c.toNat:Int)]=u8s (b++[c]) by simp [u8s]];refine aj _ _ _ (by omega) (CutL (b:=by simp)) ⟨i+1,m+1,b++[c],rfl,hlt,by omega,hid ⟨by simp [hb.out.1],?_⟩,rfl,rfl⟩;rw [<- hb2.out,wrB,if_neg hc0,if_neg hq,ZO]
 ·have hke:i=s.length:=by omega
  subst hke;have g1:¬ (s.length:Int)<(s.length:Int):=by omega
  have e1:=fP b;have e2:=fc b;have e:=hb.out.2;rw [aai,wrL,aah] at e;have h':=h.out;rw [<- e] at h';replace h':=hid h';clear e;refine wk ?_;exact ae rfl h'.out
def Tu (n:Nat):Nat:=if n<10 then 48+n else 87+n
theorem wl {n:Nat} (hn:n<16) (h:K (.int .u8 (Tu n:Nat)) L):Zx 221 [.int .u8 n] L K:=by
 unfold Tu at h;refine ad Jz (by simp [nS]) ?_;simp only [nS,aq];by_cases h1:n<10
 ·rw [if_pos h1] at h;replace h:=hid h;have k1:(n:Int)<10:=by omega
  have k2:IntKind.u8.wrap (48+(n:Int))=48+(n:Int):=cv (by omega) (by omega);clear h1;refine wk ?_;refine aa ?_;simpa using h.out
 ·rw [if_neg h1] at h;replace h:=hid h;have k1:¬ (n:Int)<10:=by omega
  have k2:IntKind.u8.wrap (97+(n:Int))=97+(n:Int):=cv (by omega) (by omega);have k3:IntKind.u8.wrap (97+(n:Int) - 10)=97+(n:Int) - 10:=cv (by omega) (by omega);clear h1;refine wk ?_;refine aa ?_;have:=h.out
  rwa [show ((87+n:Nat):Int)=97+(n:Int) - 10 by omega] at this
theorem W8:∀ (a:_root_.Fin 256) (x:_root_.Fin 16),(Tu x.val=(dA (UInt8.ofNat a.val)).toNat)↔gg (UInt8.ofNat a.val)=some x.val:=by decide +kernel
theorem Y1 {a:UInt8} {x:Nat} (hx:x<16):((Tu x:Nat):Int)=((dA a).toNat:Int)↔gg a=some x:=by
 have:=W8 ⟨a.toNat,a.toNat_lt⟩ ⟨x,hx⟩;simp only [UInt8.ofNat_toNat] at this;rw [<- this];omega
def QO (a b:UInt8) (k:Nat):Prop:=gg a=some (k / 16)/\gg b=some (k % 16)
theorem S5 {a b:UInt8} {k:Nat} (h:QO a b k):IA a b=some (UInt8.ofNat k):=by
 obtain ⟨h1,h2⟩:=h;simp only [IA,h1,h2]
 congr 2;omega
theorem S6 {a b:UInt8} (h:∀ j,j<256->¬ QO a b j):IA a b=none:=by
 unfold IA;rcases h1:gg a with _|x
 ·rfl
 ·rcases h2:gg b with _|y
  ·rfl
  ·have:=Dt h1;have:=Dt h2;exact absurd ⟨by rw [h1];congr 1;omega,by rw [h2];congr 1;omega⟩ (h (16 * x+y) (by omega))
theorem Sv {a b:UInt8} (h:K (GA a b) L):Zx 189 [.str [a,b]] L K:=by
 obtain ⟨p,hp⟩:=Zt (dA a);obtain ⟨q,hq⟩:=Zt (dA b);have hf:ab [a,b]=[p,q]:=by simp [ab,hp,hq]
 have hl:[p,q].length=2:=rfl;have hl':[a,b].length=2:=rfl;have ha:[p,q].getD 0 0=p:=rfl;have hb:[p,q].getD 1 0=q:=rfl;have d1:Int.tmod 2 2=0:=by decide
 replace h:=hid h;refine Zw JA ?_;refine iX (by simp) ?_;rw [hf];refine sk ?_;refine wk ?_;refine cG (l:=[]) (n:=0) 4 1 rfl (aae 1).symm ?_;refine ak (fun n T' L'=>(n=1/\T'=[(6,.int .i64 0),(4,.gsl [] 0 L.length 1),(5,.str [p,q]),(0,.str [a,b])]/\L'=L++[.spare 0 1])\/(n=0/\∃ (x:UInt8) (w:List AV),Hid (IA a b=some x/\w=u8s [x])/\T'=[(6,.int .i64 2),(4,.gsl w 1 L.length 1),(5,.str [p,q]),(0,.str [a,b])]/\L'=L++[.spare 1 1])) (n0:=1) (T0:=[(6,.int .i64 0),(4,.gsl [] 0 L.length 1),(5,.str [p,q]),(0,.str [a,b])]) (L0:=L++[.spare 0 1]) (CutS (b:=by simp)) (.inl ⟨rfl,rfl,rfl⟩) ?_;rintro _ _ _ (⟨rfl,rfl,rfl⟩|⟨rfl,x,w,hx,rfl,rfl⟩)
 ·refine wk ?_;refine ak (fun n T' L'=>(∃ k:Nat,n=257 - k/\k<=256/\Hid (∀ j,j<k->¬ QO a b j)/\T'=[(8,.int .i64 (k:Int)),(7,.bool false),(6,.int .i64 0),(4,.gsl [] 0 L.length 1),(5,.str [p,q]),(0,.str [a,b])]/\L'=L++[.spare 0 1])\/(n=0/\∃ (x:UInt8) (k:Nat) (w:List AV),k<=256/\Hid (IA a b=some x/\w=u8s [x])/\T'=[(8,.int .i64 (k:Int)),(7,.bool true),(6,.int .i64 0),(4,.gsl w 1 L.length 1),(5,.str [p,q]),(0,.str [a,b])]/\L'=L++[.spare 1 1])) (n0:=257) (T0:=[(8,.int .i64 0),(7,.bool false),(6,.int .i64 0),(4,.gsl [] 0 L.length 1),(5,.str [p,q]),(0,.str [a,b])]) (L0:=L++[.spare 0 1]) (CutS (b:=by simp)) (.inl ⟨0,rfl,by omega,hid (by simp),rfl,rfl⟩) ?_;rintro _ _ _ (⟨k,rfl,hk,hno,rfl,rfl⟩|⟨rfl,x,k,w,hk,hx,rfl,rfl⟩)
  ·by_cases hlt:k<256
   ·have g1:(k:Int)<256:=by omega
    have g2:=Zv k (by omega);have g3:IntKind.u8.wrap (k:Int)=(k:Int):=cv (by omega) (by omega);obtain ⟨u,hu⟩:=Zt (k / 16);obtain ⟨v,hv⟩:=Zt (k % 16);have hu16:u<16:=by omega
    have hv16:v<16:=by omega
    have g4:IntKind.i64.wrap (Int.tdiv (k:Int) 16)=(u:Int):=by
     rw [Int.tdiv_eq_ediv_of_nonneg (by omega),ac (by omega) (by omega)];omega
    have g5:IntKind.u8.wrap (u:Int)=(u:Int):=cv (by omega) (by omega);have g6:Int.tmod (k:Int) 16=(v:Int):=by
     rw [abA (by omega)];omega
    have g7:IntKind.u8.wrap (v:Int)=(v:Int):=cv (by omega) (by omega);have m1:=Y1 (a:=a) hu16;have m2:=Y1 (a:=b) hv16;rw [hp] at m1;rw [hq] at m2;have mk:QO a b k↔gg a=some u/\gg b=some v:=by unfold QO;rw [hu,hv]
    replace hu:=hid hu;replace hv:=hid hv;replace mk:=hid mk;have nxt:=hid fun (e:¬ QO a b k)=>show ∀ j,j<k+1->¬ QO a b j from fun j hj=>by
     rcases ZT j k with e'|e'
     ·exact hno.out j e'
     ·rw [show j=k by omega];exact e
    by_cases h1:gg a=some u
    ·have k1:=m1.2 h1;by_cases h2:gg b=some v
     ·have k2:=m2.2 h2;have hx:=S5 (mk.out.2 ⟨h1,h2⟩);have hkk:((UInt8.ofNat k).toNat:Int)=(k:Int):=by simp;omega
      replace hkk:=hid hkk;replace hx:=hid hx;clear m1 m2 h1 h2;have kk1:=@hid _ (fun L K=>wl hu16 (L:=L) (K:=K));have kk2:=@hid _ (fun L K=>wl hv16 (L:=L) (K:=K));refine wk ?_;refine aj _ _ _ (by omega) (CutL (b:=by simp)) (.inr ⟨rfl,UInt8.ofNat k,k+1,_,by omega,hid ⟨hx.out,?_⟩,rfl,rfl⟩);simp only [u8s,List.map,hkk.out]
     ·have k2:¬ ((Tu v:Nat):Int)=(q.toNat:Int):=fun e=>h2 (m2.1 e)
      have hn:=hid (nxt.out fun e=>h2 (mk.out.1 e).2);clear m1 m2 h1 h2;have kk1:=@hid _ (fun L K=>wl hu16 (L:=L) (K:=K));have kk2:=@hid _ (fun L K=>wl hv16 (L:=L) (K:=K));refine wk ?_;exact aj _ _ _ (by omega) (CutL (b:=by simp)) (.inl ⟨k+1,rfl,by omega,hn,rfl,rfl⟩)
    ·have k1:¬ ((Tu u:Nat):Int)=(p.toNat:Int):=fun e=>h1 (m1.1 e)
     have hn:=hid (nxt.out fun e=>h1 (mk.out.1 e).1);clear m1 m2 h1;have kk1:=@hid _ (fun L K=>wl hu16 (L:=L) (K:=K));refine wk ?_;exact aj _ _ _ (by omega) (CutL (b:=by simp)) (.inl ⟨k+1,rfl,by omega,hn,rfl,rfl⟩)
   ·have hke:k=256:=by omega
    subst hke;have h':=h.out;simp only [GA,S6 hno.out] at h';replace h':=hid h';have g1:¬ ((256:Nat):Int)<256:=by omega
    refine wk ?_;exact ae rfl h'.out
  ·by_cases hlt:(k:Int)<256
   ·refine wk ?_;exact aj _ _ _ (by omega) (CutL (b:=by simp)) (.inr ⟨rfl,x,w,hx,rfl,rfl⟩)
   ·refine wk ?_;exact aj _ _ _ (by omega) (CutL (b:=by simp)) (.inr ⟨rfl,x,w,hx,rfl,rfl⟩)
 ·have h':=h.out;simp only [GA,hx.out.1] at h';replace h':=hid h';rw [hx.out.2];have e1:=fP [x];have e2:=fc [x];refine wk ?_;exact ae rfl h'.out
def iK (b:List UInt8) (bl:Bool) (s:List UInt8):Option (List UInt8×List UInt8):=match eG b bl s with
 | some (v,r,true)=>some (v,r)
 | _=>none
def Qf (n:Nat) (o:Option (List UInt8×List UInt8)):AV:=match o with
 | none=>.tup [.str [],.int .i64 0,.bool false]
 | some (v,r)=>.tup [.str v,.int .i64 ((n - r.length:Nat):Int),.bool true]
theorem R8 {b s:List UInt8} {c:UInt8} (h:c=44\/c=43):iK b false (c::s)=some (b,c::s):=by simp only [iK,l5 h];rfl
theorem Qe {b s:List UInt8} {c:UInt8} (h:c=44\/c=43):iK b true (c::s)=none:=by simp only [iK,l5 h];rfl
theorem Ua {b:List UInt8}:iK b false []=some (b,[]):=by simp only [iK,i8];rfl
theorem Sa {b:List UInt8}:iK b true []=none:=by simp only [iK,i8];rfl
theorem Ub {b s:List UInt8} {bl:Bool} {c:UInt8} (h:¬ (c=44\/c=43)) (h2:c≠92) (hb:c=0\/c∈([34,59,60,62]:List UInt8)\/(b=[]/\(c=32\/c=35))):iK b bl (c::s)=none:=by
 simp only [iK,iL h h2,if_pos hb]
theorem K6 {b s:List UInt8} {bl:Bool} {c:UInt8} (h:¬ (c=44\/c=43)) (h2:c≠92) (hb:¬ (c=0\/c∈([34,59,60,62]:List UInt8)\/(b=[]/\(c=32\/c=35)))):iK b bl (c::s)=iK (b++[c]) (decide (c=32)) s:=by
 simp only [iK,iL h h2,if_neg hb]
theorem KU {x:UInt8} {L:List Blk} {K:Zy} (h:K (.bool (md.contains x)) L):Zx 170 [.int .u8 x.toNat,.str md] L K:=ja (by simp) h
theorem N7 {a b c d x:UInt8} {L:List Blk} {K:Zy} (h:K (.bool ([a,b,c,d].contains x)) L):Zx 170 [.int .u8 x.toNat,.str [a,b,c,d]] L K:=ja (by simp) h
theorem N8 {a b x:UInt8} {L:List Blk} {K:Zy} (h:K (.bool ([a,b].contains x)) L):Zx 170 [.int .u8 x.toNat,.str [a,b]] L K:=ja (by simp) h
theorem Ur {s:List UInt8} {at0:Nat} (hs:s.length<=100000) (hat:at0<=s.length) (h:K (Qf s.length (iK [] false (s.drop at0))) L):Zx 166 [.str s,.int .i64 (at0:Int)] L K:=by
 obtain ⟨R,hR⟩:=Zt (iK [] false (s.drop at0));rw [hR] at h;replace h:=hid h;refine Zw Jv ?_;refine cG (l:=[]) (n:=0) 7 1 rfl (aae 1).symm ?_;refine ak (fun n T' L'=>∃ (i m:Nat) (b:List UInt8) (bl fb:Bool),n=s.length - i/\i<=s.length/\m<=i/\Hid (m=b.length/\iK b bl (s.drop i)=R/\(bl=true->i<s.length/\s.getD i 0≠44/\s.getD i 0≠43)/\(fb=true↔b=[]))/\T'=[(8,.bool fb),(1,.int .i64 (i:Int)),(7,.gsl (u8s b) m L.length 1),(0,.str s)]/\L'=L++[.spare m 1]) (CutS (b:=by simp)) ⟨at0,0,[],false,true,rfl,hat,by omega,hid ⟨rfl,hR,by simp,by simp⟩,rfl,rfl⟩ ?_;rintro _ _ _ ⟨i,m,b,bl,fb,rfl,hi,hm,hI,rfl,rfl⟩;have e1:=fP b;have e2:=fc b;by_cases hlt:i<s.length
 ·have g1:(i:Int)<(s.length:Int):=by omega
  have g2:=Zv i (by omega);obtain ⟨c,hc⟩:=Zt (s.getD i 0);have hdr:=iH hlt;rw [hc] at hdr;have hb2:=hI.out.2.1;rw [hdr] at hb2;by_cases hcc:c=44\/c=43
  ·have hbl:bl=false:=by
    cases bl with
    | false=>rfl
    | true =>
      obtain ⟨_,n1,n2⟩:=hI.out.2.2.1 rfl;rw [hc] at n1 n2;rcases hcc with e|e
      ·exact absurd e n1
      ·exact absurd e n2
   subst hbl;rw [R8 hcc] at hb2;have h':=h.out;rw [<- hb2] at h';simp only [Qf] at h';rw [<- hdr,abC,show s.length - (s.length - i)=i by omega] at h';replace h':=hid h';have k1:((c.toNat:Int)=44)\/((c.toNat:Int)=43):=hcc.imp (bu c 44).2 (bu c 43).2;clear hb2 hcc hdr;rcases k1 with k1|k1
   ·refine wk ?_;exact ae rfl h'.out
   ·refine wk ?_;exact ae rfl h'.out
  ·have k1:¬ (c.toNat:Int)=44:=fun e=>hcc (.inl ((bu c 44).1 e))
   have k2:¬ (c.toNat:Int)=43:=fun e=>hcc (.inr ((bu c 43).1 e))
   by_cases h92:c=92
   ·subst h92;have g3:IntKind.i64.wrap ((i:Int)+1+1)=(i:Int)+1+1:=ac (by omega) (by omega);have g4:IntKind.i64.wrap ((i:Int)+1+2)=(i:Int)+1+2:=ac (by omega) (by omega);have t1:((i:Int)+1).toNat=i+1:=by omega
    have t3:((i:Int)+1+2).toNat=i+3:=by omega
    by_cases h1:i+1<s.length
    ·have f1:(i:Int)+1<(s.length:Int):=by omega
     have f0:¬ (i:Int)+1=(s.length:Int):=by omega
     obtain ⟨d,hd⟩:=Zt (s.getD (i+1) 0);have hdr1:=iH h1;rw [hd] at hdr1;rw [hdr1] at hb2;by_cases hsp:d∈md
     ·simp only [iK,nZ hsp] at hb2;have f2:md.contains d=true:=aax.2 hsp;clear hdr hdr1 hcc;replace hb2:=hid hb2;have kk1:=@hid _ @KU;have kk2:=@hid _ @N7;have kk3:=@hid _ @N8;refine wk ?_;rw [show u8s b++[AV.int IntKind.u8 (d.toNat:Int)]=u8s (b++[d]) by simp [u8s]];exact aj _ _ _ (by omega) (CutL (b:=by simp)) ⟨i+1+1,m+1,b++[d],false,false,rfl,h1,by omega,hid ⟨by simp [hI.out.1],hb2.out,by simp,by simp⟩,rfl,rfl⟩
     ·have f2:md.contains d=false:=by
       rw [<- aa0,aax];exact hsp
      by_cases h2:i+2<s.length
      ·have f3:¬ (s.length:Int)<(i:Int)+1+2:=by omega
       have f4:(i:Int)+1<=(i:Int)+1+2:=by omega
       have f5:(i:Int)+1+2<=(s.length:Int):=by omega
       have f6:(0:Int)<=(i:Int)+1:=by omega
       obtain ⟨e,he⟩:=Zt (s.getD (i+2) 0);have hdr2:=iH h2;rw [he] at hdr2;rw [hdr2] at hb2;simp only [iK,v8 hsp] at hb2;have hcut:(s.drop (i+1)).take (i+3 - (i+1))=[d,e]:=by
        rw [hdr1,hdr2,show i+3 - (i+1)=2 by omega];rfl
       clear hdr hdr1 hdr2 hcc;replace hb2:=hid hb2;have kk1:=@hid _ @KU;have kk2:=@hid _ @N7;have kk3:=@hid _ @N8;refine wk ?_;refine Sv ?_;rcases hx:IA d e with _|x
       ·rw [show GA d e=.tup [.str [],.bool false] by simp only [GA,hx]];have h':=h.out;rw [<- hb2.out,hx] at h';simp only [Qf] at h';replace h':=hid h';clear hx;refine sk ?_;refine wk ?_;exact ae rfl h'.out
       ·rw [show GA d e=.tup [.str [x],.bool true] by simp only [GA,hx]];have hb3:=hb2.out;rw [hx] at hb3;simp only at hb3;replace hb3:=hid hb3;have q1:[x].getD 0 0=x:=rfl;clear hx hb2;refine sk ?_;refine wk ?_;rw [show u8s b++[AV.int IntKind.u8 (x.toNat:Int)]=u8s (b++[x]) by simp [u8s]];exact aj _ _ _ (by omega) (CutL (b:=by simp)) ⟨i+1+2,m+1,b++[x],false,false,rfl,h2,by omega,hid ⟨by simp [hI.out.1],hb3.out,by simp,by simp⟩,rfl,rfl⟩
      ·have f3:(s.length:Int)<(i:Int)+1+2:=by omega
       have hnil:s.drop (i+1+1)=[]:=abn (by omega);rw [hnil] at hb2;simp only [iK,Dj hsp] at hb2;have h':=h.out;rw [<- hb2] at h';replace h':=hid h';clear hdr hdr1 hb2 hcc;have kk1:=@hid _ @KU;have kk2:=@hid _ @N7;have kk3:=@hid _ @N8;refine wk ?_;exact ae rfl h'.out
    ·have f1:¬ (i:Int)+1<(s.length:Int):=by omega
     have f0:(i:Int)+1=(s.length:Int):=by omega
     have f3:(s.length:Int)<(s.length:Int)+2:=by omega
     have f4:¬ (s.length:Int)<(s.length:Int):=by omega
     have g5:IntKind.i64.wrap (s.length:Int)=(s.length:Int):=ac (by omega) (by omega);have g6:IntKind.i64.wrap ((s.length:Int)+2)=(s.length:Int)+2:=ac (by omega) (by omega);have hnil:s.drop (i+1)=[]:=abn (by omega);rw [hnil] at hb2;simp only [iK,Dk] at hb2;have h':=h.out;rw [<- hb2] at h';replace h':=hid h';clear hdr hb2 hcc;have kk1:=@hid _ @KU;have kk2:=@hid _ @N7;have kk3:=@hid _ @N8;refine wk ?_;exact ae rfl h'.out
   ·have k3:¬ (c.toNat:Int)=92:=fun e=>h92 ((bu c 92).1 e)
    obtain ⟨p1,hp1⟩:=Zt (([34,59,60,62]:List UInt8).contains c);obtain ⟨p2,hp2⟩:=Zt (([32,35]:List UInt8).contains c);have hq1:p1=true↔c∈([34,59,60,62]:List UInt8):=by rw [<- hp1,aax]
    have hq2:p2=true↔(c=32\/c=35):=by rw [<- hp2,aax];simp
    replace hq1:=hid hq1;replace hq2:=hid hq2;have h0:=hid (bu c 0);have h32:=hid (bu c 32);have hfb:=hid hI.out.2.2.2;obtain ⟨lst,hlst⟩:∃ lst:Bool,decide (i+1<s.length->s.getD (i+1) 0=44\/s.getD (i+1) 0=43)=lst:=⟨_,rfl⟩;have hbad:=hid fun (e:c=0\/c∈([34,59,60,62]:List UInt8)\/(b=[]/\(c=32\/c=35)))=>(show R=none by rw [<- hb2,Ub hcc h92 e])
    have hend:=hid fun (e:lst=true/\c=32)=>(show R=none by
     by_cases eb:c=0\/c∈([34,59,60,62]:List UInt8)\/(b=[]/\(c=32\/c=35))
     ·exact hbad.out eb
     ·rw [<- hb2,K6 hcc h92 eb,e.2];have el:=of_decide_eq_true (hlst.trans e.1);simp only [decide_true];by_cases h1:i+1<s.length
      ·rw [iH h1,Qe (el h1)]
      ·rw [abn (by omega),Sa])
    have hgo:=hid fun (e:¬ (c=0\/c∈([34,59,60,62]:List UInt8)\/(b=[]/\(c=32\/c=35))))=>(show iK (b++[c]) (decide (c=32)) (s.drop (i+1))=R by rw [<- hb2,K6 hcc h92 e])
    replace hlst:=hid hlst;clear hdr hb2 hcc;have bad:R=none->Fin L (.tup [.str [],.int .i64 0,.bool false]) (L++[.spare m 1]) K:=fun e=>ae rfl (by have h':=h.out;rwa [e] at h')
    replace bad:=hid bad;by_cases h1:i+1<s.length
    ·have f1:(i:Int)+1<(s.length:Int):=by omega
     have f0:¬ (i:Int)+1=(s.length:Int):=by omega
     have t1:((i:Int)+1).toNat=i+1:=by omega
     obtain ⟨d,hd⟩:=Zt (s.getD (i+1) 0);have hlst2:=hid (show lst=true↔((d.toNat:Int)=44\/(d.toNat:Int)=43) by
      rw [<- hlst.out,decide_eq_true_eq,hd,show (44:Int)=((44:UInt8).toNat:Int) from rfl,show (43:Int)=((43:UInt8).toNat:Int) from rfl,bu,bu];exact ⟨fun e=>e h1,fun e _=>e⟩)
     repeat' first
      | refine bb ?_
      | (first|refine aU (by kernel_rfl) ?_|refine aA (by kernel_rfl) ?_|refine aD ?_|refine bS ?_|refine bh (fun _=>?_)|refine ay ?_|refine aW ?_|refine ja (by simp) ?_|refine bg (ja (by simp) ⟨rfl,rfl⟩) (ja (by simp) ⟨rfl,rfl⟩) ?_|refine aL (ja (by simp) ⟨rfl,rfl⟩) ?_)
        refine sm ?_
      | (first|refine aP (by kernel_rfl) ?_|refine aQ ?_|refine aC ?_|refine aV ?_|refine bq (ax ?_))
        refine sl ?_
      | exact bj
      | first|apply bm|apply aR|apply bo|apply aS|apply bp|apply aT
      | refine aG ?_
      | refine aB ?_
      | first|refine aE rfl ?_|refine aF rfl ?_|refine an rfl ?_ ?_|refine aI rfl (fun _=>?_) (fun _=>?_)|refine aH rfl (fun _=>?_) (fun _=>?_)
      | ((first|refine am (fun _=>?_) (fun _=>?_)|refine aw (fun _=>?_) (fun _=>?_))<;>try refine sm ?_)
      | refine And.intro trivial ?_
      | refine And.intro (by omega) ?_
      | refine aM rfl (fun _=>?_) (fun _=>?_)
      | refine And.intro ?_ ?_
     ·rename_i hx
      refine bad.out ?_;simp only [aaa,ZE,decide_eq_true_eq] at hx;rcases hx with ((e|e)|⟨e,e'⟩)|e
      ·exact hbad.out (.inl (h0.out.1 e))
      ·exact hbad.out (.inr (.inl (hq1.out.1 e)))
      ·exact hbad.out (.inr (.inr ⟨hfb.out.1 e,hq2.out.1 e'⟩))
      ·exact hend.out ⟨hlst2.out.2 e.1,h32.out.1 e.2⟩
     ·rename_i hx
      rw [<- aa0] at hx;simp only [aaa,ZE,decide_eq_true_eq] at hx;rw [show u8s b++[AV.int IntKind.u8 (c.toNat:Int)]=u8s (b++[c]) by simp [u8s]];refine aj _ _ _ (by omega) (CutL (b:=by simp)) ⟨i+1,m+1,b++[c],decide (c=32),false,rfl,hlt,by omega,hid ⟨by simp [hI.out.1],?_,fun e=>?_,by simp⟩,rfl,rfl⟩
      ·refine hgo.out fun e=>hx ?_
       rcases e with e|e|⟨e,e'⟩
       ·exact .inl (.inl (.inl (h0.out.2 e)))
       ·exact .inl (.inl (.inr (hq1.out.2 e)))
       ·exact .inl (.inr ⟨hfb.out.2 e,hq2.out.2 e'⟩)
      ·have e32:=h32.out.2 (of_decide_eq_true e);refine ⟨h1,?_,?_⟩
       ·intro e4;exact hx (.inr ⟨.inl (by rw [<- hd,e4];rfl),e32⟩)
       ·intro e4;exact hx (.inr ⟨.inr (by rw [<- hd,e4];rfl),e32⟩)
    ·have f1:¬ (i:Int)+1<(s.length:Int):=by omega
     have f0:(i:Int)+1=(s.length:Int):=by omega
     have g5:IntKind.i64.wrap (s.length:Int)=(s.length:Int):=ac (by omega) (by omega);have hlst2:=hid (show lst=true by rw [<- hlst.out,decide_eq_true_eq];exact fun e=>absurd e h1)
     repeat' first
      | refine bb ?_
      | (first|refine aU (by kernel_rfl) ?_|refine aA (by kernel_rfl) ?_|refine aD ?_|refine bS ?_|refine bh (fun _=>?_)|refine ay ?_|refine aW ?_|refine ja (by simp) ?_|refine bg (ja (by simp) ⟨rfl,rfl⟩) (ja (by simp) ⟨rfl,rfl⟩) ?_|refine aL (ja (by simp) ⟨rfl,rfl⟩) ?_)
        refine sm ?_
      | (first|refine aP (by kernel_rfl) ?_|refine aQ ?_|refine aC ?_|refine aV ?_|refine bq (ax ?_))
        refine sl ?_
      | exact bj
      | first|apply bm|apply aR|apply bo|apply aS|apply bp|apply aT
      | refine aG ?_
      | refine aB ?_
      | first|refine aE rfl ?_|refine aF rfl ?_|refine an rfl ?_ ?_|refine aI rfl (fun _=>?_) (fun _=>?_)|refine aH rfl (fun _=>?_) (fun _=>?_)
      | ((first|refine am (fun _=>?_) (fun _=>?_)|refine aw (fun _=>?_) (fun _=>?_))<;>try refine sm ?_)
      | refine And.intro trivial ?_
      | refine And.intro (by omega) ?_
      | refine aM rfl (fun _=>?_) (fun _=>?_)
      | refine And.intro ?_ ?_
     ·rename_i hx
      refine bad.out ?_;simp only [aaa,ZE,decide_eq_true_eq] at hx;rcases hx with ((e|e)|⟨e,e'⟩)|e
      ·exact hbad.out (.inl (h0.out.1 e))
      ·exact hbad.out (.inr (.inl (hq1.out.1 e)))
      ·exact hbad.out (.inr (.inr ⟨hfb.out.1 e,hq2.out.1 e'⟩))
      ·exact hend.out ⟨hlst2.out,h32.out.1 e⟩
     ·rename_i hx
      rw [<- aa0] at hx;simp only [aaa,ZE,decide_eq_true_eq] at hx;rw [show u8s b++[AV.int IntKind.u8 (c.toNat:Int)]=u8s (b++[c]) by simp [u8s]];refine aj _ _ _ (by omega) (CutL (b:=by simp)) ⟨i+1,m+1,b++[c],decide (c=32),false,rfl,hlt,by omega,hid ⟨by simp [hI.out.1],?_,fun e=>?_,by simp⟩,rfl,rfl⟩
      ·refine hgo.out fun e=>hx ?_
       rcases e with e|e|⟨e,e'⟩
       ·exact .inl (.inl (.inl (h0.out.2 e)))
       ·exact .inl (.inl (.inr (hq1.out.2 e)))
       ·exact .inl (.inr ⟨hfb.out.2 e,hq2.out.2 e'⟩)
      ·have e32:=h32.out.2 (of_decide_eq_true e);exact absurd (.inr e32) hx
 ·have hke:i=s.length:=by omega
  subst hke;have g1:¬ (s.length:Int)<(s.length:Int):=by omega
  have hbl:bl=false:=by
   cases bl with
   | false=>rfl
   | true=>exact absurd (hI.out.2.2.1 rfl).1 (by omega)
  subst hbl;have h':=h.out;rw [<- hI.out.2.1,aai,Ua] at h';simp only [Qf,aav,abV] at h';replace h':=hid h';refine wk ?_;exact ae rfl h'.out
theorem Uc:∀ (n:Nat) {s b:List UInt8} {bl:Bool} {v r:List UInt8} {ok:Bool},s.length<=n->eG b bl s=some (v,r,ok)->r <:+ s:=by
 intro n
 induction n with
 | zero =>
   intro s b bl v r ok hn h;obtain rfl:=aaj.1 (Nat.le_zero.1 hn);rw [i8] at h;cases h;exact List.suffix_refl _
 | succ n ih =>
   intro s b bl v r ok hn h;cases s with
   | nil=>rw [i8] at h;cases h;exact List.suffix_refl _
   | cons c s =>
     simp only [ZN] at hn;by_cases hc:c=44\/c=43
     ·rw [l5 hc] at h;cases h;exact List.suffix_refl _
     by_cases h92:c=92
     ·subst h92;cases s with
      | nil=>rw [Dk] at h;cases h
      | cons d s =>
        by_cases hd:d∈md
        ·rw [nZ hd] at h;exact (ih (by simp at hn;omega) h).trans ((abM _ _).trans (abM _ _))
        ·cases s with
         | nil=>rw [Dj hd] at h;cases h
         | cons e s =>
           rw [v8 hd] at h;split at h
           ·cases h
           ·exact (ih (by simp at hn;omega) h).trans ((abM _ _).trans ((abM _ _).trans (abM _ _)))
     ·rw [iL hc h92] at h;split at h
      ·cases h
      ·exact (ih (by omega) h).trans (abM _ _)
theorem R9 {s v r:List UInt8} (h:iK [] false s=some (v,r)):eG [] false s=some (v,r,true):=by
 unfold iK at h;split at h
 ·rename_i e;cases h;exact e
 ·cases h
theorem Nr (f:Nat) (out:List Rdn) (now:Rdn) (s:List UInt8):mK (f+1) out now s=if out.length=32\/now.length=8 then ([],9) else match gi s with
  | none=>([],4)
  | some (typ,rest)=>if fq typ=false then ([],4) else if gw now typ=true then ([],21) else match iK [] false rest with
    | none=>([],4)
    | some (v,r2)=>match r2 with
      | []=>(out++[now++[(typ,v)]],0)
      | c::s'=>if c=44 then mK f (out++[now++[(typ,v)]]) [] s' else mK f out (now++[(typ,v)]) s':=by
 rw [mK]
 congr 1
 rcases gi s with _|⟨typ,rest⟩
 ·rfl
 ·simp only
  congr 1
  congr 1
  unfold iK;rcases eG [] false rest with _|⟨v,r2,ok⟩
  ·rfl
  ·cases ok<;>rfl
theorem Tw {s:List UInt8} {i j:Nat} (hij:i<=j) (hj:j<s.length) (hc:s.getD j 0≠61) (h:gi (s.drop i)=(gi (s.drop j)).map fun p=>((s.drop i).take (j - i)++p.1,p.2)) :
  gi (s.drop i)=(gi (s.drop (j+1))).map fun p=>((s.drop i).take (j+1 - i)++p.1,p.2):=by
 rw [h,iH hj];simp only [gi,if_neg hc];have ht:(s.drop i).take (j+1 - i)=(s.drop i).take (j - i)++[s.getD j 0]:=by
  rw [show j+1 - i=(j - i)+1 by omega,ZY (by simp;omega)]
  congr 2
  simp [show i+(j - i)=j by omega,hj]
 rw [ht];rcases gi (s.drop (j+1)) with _|⟨a,b⟩
 ·rfl
 ·simp
theorem WS {r:Rdn} {typ:List UInt8} {i n:Nat} (hr:r.length=n) (hn:n<=8) (h1:∀ a∈r,a.1.length<=32) (h2:typ.length<=4096) (h:K (.bool (gw r typ)) L) :
  Zx 165 [.gsl (a7 r) n i 2,.str typ] L K:=by
 subst hr;exact rb (by simpa only [AV.frzL,AV.frz,fJ] using Uz (cap:=none) (by omega) (fun a ha=>by have:=h1 a ha;omega) (by omega) h)
theorem Su {s:List UInt8} {z:Int} {at0:Nat} (hz:z=(at0:Int)) (hs:s.length<=100000) (hat:at0<=s.length) (h:K (Qf s.length (iK [] false (s.drop at0))) L):Zx 166 [.str s,.int .i64 z] L K:=by
 subst hz;exact Ur hs hat h
theorem Uu {s:List UInt8} (h:K (Qw (qF s)) L):Zx 131 [.str s] L K:=by
 refine ad Jy (by simp [nR]) ?_;simp only [nR,aq];by_cases h1:4096<s.length
 ·have f1:(4096:Int)<(s.length:Int):=by omega
  rw [qF,if_pos h1] at h;replace h:=hid h;clear h1;refine wk ?_;exact bv (aa h.out)
 have f1:¬ (4096:Int)<(s.length:Int):=by omega
 rw [qF,if_neg h1] at h;have hs:=hid (show s.length<=4096 by omega);clear h1;obtain ⟨R,hR⟩:=Zt ((if s=[] then ([],0) else mK (s.length+1) [] [] s));rw [hR] at h;replace h:=hid h;replace hR:=hid hR;refine wk ?_;refine cG (l:=[]) (n:=0) 4 1 rfl (aae 1).symm ?_;refine ak (fun n T' L'=>∃ (f m i:Nat) (out:List Rdn) (X:List Blk),f=n/\i<=s.length/\m<=32/\Hid (s≠[]->s.length - i<f/\mK f out [] (s.drop i)=R)/\Hid (s=[]->out=[])/\Hid (m=out.length)/\L'[L.length]?=some (.spare m 1)/\T'=[(5,.int .i64 (i:Int)),(4,.gsl (out.map cf) m L.length 1),(0,.str s)]/\L'=L++X) (CutS (b:=by simp)) ⟨s.length+1,0,0,[],[.spare 0 1],rfl,ZI _,by omega,hid (fun e=>⟨by omega,by have:=hR.out;rw [if_neg e] at this;simpa using this⟩),hid (fun _=>rfl),hid rfl,by simp,rfl,rfl⟩ ?_;rintro _ _ _ ⟨f,m,i,out,X,rfl,hi,hm32,hI,hI0,hm,ho,rfl,rfl⟩;by_cases h0:s=[]
 ·have h':=h.out;rw [<- hR.out,if_pos h0] at h';replace h':=hid h';have f2:¬ (0:Int)<(s.length:Int):=by rw [h0];simp
  clear h0;refine wk ?_;exact bv (ae rfl h'.out)
 obtain ⟨hf,hp⟩:=hI.out h0;have f2:(0:Int)<(s.length:Int):=by have:=aaQ.2 h0;omega
 clear hI hI0 hR h0;have hB:L.length<(L++X).length:=(Zz.1 ho).1;by_cases hlim:m=32
 ·obtain ⟨f,rfl⟩:∃ g,f=g+1:=⟨f - 1,by omega⟩;rw [Nr,if_pos (.inl (by rw [<- hm.out];exact hlim))] at hp;have h':=h.out;rw [<- hp] at h';replace h':=hid h';have k:(m:Int)=32:=by omega
  clear hp hlim hf;refine wk ?_;exact eS h'.out
 have k1:¬ (m:Int)=32:=by omega
 replace hp:=hid hp;refine wk ?_;refine ak (fun n T' L'=>∃ (g i:Nat) (now:Rdn) (v:AV) (Z:List Blk),g=n/\g<=f/\i<=s.length/\now.length<=8/\Hid (s.length - i<g/\mK g out now (s.drop i)=R/\(∀ a∈now,a.1.length<=32)/\YI L.length now v L')/\L'[L.length]?=some (.spare m 1)/\X.length<=Z.length/\T'=[(6,v),(5,.int .i64 (i:Int)),(4,.gsl (out.map cf) m L.length 1),(0,.str s)]/\L'=L++Z) (CutS (b:=by simp)) ⟨f,i,[],_,X,rfl,ZA _,hi,by simp,hid ⟨hf,hp.out,by simp,.inl ⟨rfl,rfl,rfl⟩⟩,ho,ZA _,rfl,rfl⟩ ?_;clear hp hf ho hi;rintro _ _ _ ⟨g,i,now,v,X1,rfl,hgf,hi,hn8,hI,ho,hXZ,rfl,rfl⟩;obtain ⟨hf,hp,ht,hv⟩:=hI.out;clear hI;obtain ⟨g,rfl⟩:∃ g',g=g'+1:=⟨g - 1,by omega⟩;have hB1:L.length<(L++X1).length:=(Zz.1 ho).1;refine OU 6 2 L.length rfl hB1 hv fun p Y hBi hpi=>?_
 rw [ZO] at hpi ⊢;have ho2:(L++(X1++Y))[L.length]?=some (.spare m 1):=by rw [<- ZO,ZM hB1];exact ho
 have hXZ2:X.length<=(X1++Y).length:=by simp;omega
 generalize X1++Y=Z at hpi ho2 hXZ2 ⊢;clear ho hB1 hv hXZ X1 Y;replace hXZ2:=hid hXZ2;have hpl:=(Zz.1 hpi).1;have hol:=(Zz.1 ho2).1;have hz:p - L.length≠0:=by omega
 obtain ⟨c,hc⟩:∃ c:Nat,now.length=c:=⟨_,rfl⟩;rw [Nr] at hp;rw [hc] at hp hpi hn8 ⊢;rw [ZQ] at hpl hol;replace hz:=hid hz;replace hpl:=hid hpl;replace hol:=hid hol;by_cases hlim2:c=8
 ·rw [if_pos (.inr hlim2)] at hp;have h':=h.out;rw [<- hp] at h';replace h':=hid h';have k:(c:Int)=8:=by omega
  clear hp hlim2;refine wk ?_;exact eS h'.out
 rw [if_neg (by rw [<- hm.out];omega)] at hp;have k2:¬ (c:Int)=8:=by omega
 replace hp:=hid hp;replace ht:=hid ht;replace hf:=hid hf;refine wk ?_;refine ak (fun n T' L'=>∃ j:Nat,n=s.length - j/\i<=j/\j<=s.length/\Hid (gi (s.drop i)=(gi (s.drop j)).map fun p=>((s.drop i).take (j - i)++p.1,p.2))/\T'=[(7,.int .i64 (j:Int)),(6,.gsl (a7 now) c p 2),(5,.int .i64 (i:Int)),(4,.gsl (out.map cf) m L.length 1),(0,.str s)]/\L'=L++Z) (CutS (b:=by simp)) ⟨i,rfl,ZA _,hi,hid (by rcases gi (s.drop i) with _|⟨a,b⟩<;>simp),rfl,rfl⟩ ?_;rintro _ _ _ ⟨j,rfl,hij,hj,hcut,rfl,rfl⟩;by_cases hjl:j<s.length;rotate_left
 ·have hje:j=s.length:=by omega
  subst hje;have g1:¬ (s.length:Int)<(s.length:Int):=by omega
  have e:=hcut.out;rw [aai] at e;simp only [gi,Z6] at e;have h':=h.out;rw [<- hp.out,e] at h';simp only at h';replace h':=hid h';clear e;refine wk ?_;exact eS h'.out
 have g1:(j:Int)<(s.length:Int):=by omega
 have g2:=Zv j (by omega);obtain ⟨x,hx⟩:=Zt (s.getD j 0);by_cases h61:x=61;rotate_left
 ·have g3:¬ (x.toNat:Int)=61:=fun e=>h61 ((bu x 61).1 e)
  have hcut':=hid (Tw hij hjl (by rw [hx];exact h61) hcut.out);clear h61;refine wk ?_;exact aj _ _ _ (by omega) (CutL (b:=by simp)) ⟨j+1,rfl,by omega,hjl,hcut',rfl,rfl⟩
 subst h61;have g3:((61:UInt8).toNat:Int)=61:=rfl;have hcutS:gi (s.drop i)=some ((s.drop i).take (j - i),s.drop (j+1)):=by
  rw [hcut.out,iH hjl,hx];simp [gi]
 clear hcut;obtain ⟨typ,htyp⟩:=Zt ((s.drop i).take (j - i));have htl:typ.length<=4096:=by rw [<- htyp];have:=hs.out;simp;omega
 have htl3:(typ.length:Int)<=100000:=by omega
 rw [htyp] at hcutS;have hp2:=hp.out;rw [hcutS] at hp2;simp only at hp2;have g4:¬ (j:Int)=(s.length:Int):=by omega
 have g5:(i:Int)<=(j:Int):=by omega
 have g6:(j:Int)<=(s.length:Int):=by omega
 replace hp2:=hid hp2;clear hcutS hp;cases hty:fq typ with
 | false =>
   have h':=h.out;rw [<- hp2.out,if_pos hty] at h';replace h':=hid h';have kk1:=@hid _ (fun L K=>Rw htl3 (L:=L) (K:=K));refine wk ?_;exact eS h'.out
 | true =>
 have hp3:=hp2.out;rw [if_neg (by rw [hty];simp)] at hp3;replace hp3:=hid hp3;clear hp2;have hpn:=hid (show p≠L.length+Z.length by have:=hpl.out;omega);have b1:∀ b,(L++(Z++[b]))[p]?=some (.spare c 2):=fun b=>by
  rw [<- ZO,ZM (Zz.1 hpi).1];exact hpi
 have b2:∀ A b,(L++(Z++[b])).set p A=L++(Z.set (p - L.length) A++[b]):=fun A b=>by
  rw [aaz _ _ (by omega),aaC _ _ (by have:=hpl.out;omega)]
 have b3:∀ A b,(L++(Z.set (p - L.length) A++[b]))[L.length]?=some (.spare m 1):=fun A b=>by
  rw [<- b2,ZU (by omega),<- ZO,ZM (Zz.1 ho2).1];exact ho2
 have b4:∀ A b,(L++(Z.set (p - L.length) A++[b]))[p]?=some A:=fun A b=>by
  rw [<- b2,ZX,if_pos rfl,if_pos (by have:=hpl.out;simp;omega)]
 have hsl:(i:Int).toNat=i:=by omega
 have kk1:=@hid _ (fun L K=>Rw htl3 (L:=L) (K:=K));refine wk ?_;refine WS hc hn8 ht.out (by omega) ?_;cases hha:gw now typ with
 | true =>
   have h':=h.out;rw [<- hp3.out,if_pos hha] at h';replace h':=hid h';refine sk ?_;refine wk ?_;exact eS h'.out
 | false =>
 have hp4:=hp3.out;rw [if_neg (by rw [hha];simp)] at hp4;replace hp4:=hid hp4;clear hp3;refine sk ?_;refine wk ?_;refine Su (at0:=j+1) (by omega) (by have:=hs.out;omega) hjl ?_;rcases hvl:iK [] false (s.drop (j+1)) with _|⟨w,r2⟩
 ·have h':=h.out;rw [<- hp4.out,hvl] at h';simp only at h';replace h':=hid h';simp only [Qf];refine sk ?_;refine wk ?_;exact eS h'.out
 have hp5:=hp4.out;rw [hvl] at hp5;simp only at hp5;have hsuf:=Uc _ (ZA _) (R9 hvl);have hsd:r2=s.drop (s.length - r2.length):=List.suffix_iff_eq_drop.1 (hsuf.trans (List.drop_suffix _ _));have hl2:r2.length<=s.length - (j+1):=by have:=hsuf.length_le;simpa using this
 obtain ⟨t,ht0⟩:=Zt (s.length - r2.length);rw [ht0] at hsd;have htj:j<t:=by omega
 have hts:t<=s.length:=by omega
 simp only [Qf,ht0];replace hp5:=hid hp5;clear hp4 hvl hsuf;replace hsd:=hid hsd;have q1:(c+1) * 32<=140737488355328:=by omega
 have q2:c+1<=140737488355328:=by omega
 have q3:(m+1) * 24<=140737488355328:=by omega
 have q4:m+1<=140737488355328:=by omega
 have e1:a7 now++[AV.str typ,AV.str w]=a7 (now++[(typ,w)]):=(NY _ _ _).symm;have e2:out.map cf++[AV.sl (AV.frzL (a7 now++[AV.str typ,AV.str w])) (c+1) none]=(out++[now++[(typ,w)]]).map cf:=by
  rw [e1,fJ,Z7];simp [hc]
 have e3:(out++[now++[(typ,w)]]).length=m+1:=by simp [hm.out]
 have e4:(now++[(typ,w)]).length=c+1:=by simp [hc]
 have e5:∀ a∈now++[(typ,w)],a.1.length<=32:=fun a ha=>by
  rcases ZD.1 ha with h|h
  ·exact ht.out a h
  ·rw [ZS.1 h];exact n9 hty
 have s4:∀ (W:List Blk) A,(L++W).set L.length A=L++W.set 0 A:=fun W A=>by rw [aaz _ _ (ZA _),aaY]
 have g7:IntKind.i64.wrap ((t:Int)+1)=(t:Int)+1:=ac (by have:=hs.out;omega) (by have:=hs.out;omega);replace e1:=hid e1;replace e2:=hid e2;replace e3:=hid e3;replace e4:=hid e4;replace e5:=hid e5;cases r2 with
 | nil =>
   have h':=h.out;rw [<- hp5.out] at h';simp only at h';replace h':=hid h';have hte:t=s.length:=by simp at ht0;omega
   subst hte;refine sk ?_;refine wk ?_;rw [e2.out];refine bv (ae ?_ ?_)
   ·simp only [AV.frz,AV.frzL,oc,AV.refs,AV.refsL,Dp,abl]
   ·simp only [AV.frz,AV.frzL,oc];have:=h'.out;simp only [Qw,e3.out] at this;exact this
 | cons x s' =>
   simp only at hp5;have htl2:t<s.length:=by simp at ht0 hl2;omega
   have k3:¬ (t:Int)=(s.length:Int):=by omega
   have k4:(t:Int)<(s.length:Int):=by omega
   have hxd:=hsd.out;rw [iH htl2] at hxd;obtain ⟨hx1,hx2⟩:=List.cons.inj hxd;have hx3:=hx1.symm;replace hx2:=hid hx2;clear hxd hx1;by_cases hx:x=44
   ·subst hx;refine sk ?_;refine wk ?_;rw [e2.out];refine aj _ _ _ ?_ (CutS (b:=?_)) ⟨g,m+1,t+1,out++[now++[(typ,w)]],_,rfl,htl2,?_,hid fun _=>⟨?_,?_⟩,hid fun e=>?_,hid e3.out.symm,?_,rfl,rfl⟩
    ·omega
    ·simp
    ·have:=hm.out;omega
    ·have:=hf.out;omega
    ·rw [<- hx2.out,<- hp5.out,if_pos rfl]
    ·rw [e] at htl2;simp at htl2
    ·rw [<- s4,ZX,if_pos rfl,if_pos (by simp)]
   ·have q6:¬ (x.toNat:Int)=44:=fun e=>hx ((bu x 44).1 e)
    refine sk ?_;refine wk ?_;rw [e1.out];refine aj _ _ _ ?_ (CutS (b:=?_)) ⟨g,t+1,now++[(typ,w)],_,_,rfl,?_,htl2,?_,hid ⟨?_,?_,e5.out,.inr ⟨p,hBi,by rw [e4.out],by rw [e4.out];exact b4 _ _⟩⟩,b3 _ _,?_,rfl,rfl⟩
    ·omega
    ·have:=hXZ2.out;simp;omega
    ·omega
    ·rw [e4.out];omega
    ·have:=hf.out;omega
    ·rw [<- hx2.out,<- hp5.out,if_neg hx]
    ·have:=hXZ2.out;simp;omega
end Go.Proofs.YtcmfcpjnhephaaaGreatDoor.Av
