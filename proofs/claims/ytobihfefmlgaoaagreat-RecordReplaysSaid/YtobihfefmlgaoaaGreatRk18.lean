/- Joined texts of the walk, made small by a program. -/
import Derived.Test.YtobihfefmlgaoaaGreatRk4
import Derived.Test.YtobihfefmlgaoaaGreatRows
import Derived.KernelRfl
import Derived.Test.YtobihfefmlgaoaaGreatRk9
import Derived.Test.YtobihfefmlgaoaaGreatRk5
import Derived.Lib.ValidLaws
import Derived.Test.YtobihfefmlgaoaaGreatRk10
import Derived.Test.YtobihfefmlgaoaaGreatRk12
set_option linter.unusedSimpArgs false
set_option linter.unusedVariables false
set_option maxRecDepth 100000
namespace Go.Proofs.YtobihfefmlgaoaaGreat.Av
open Go
def LZ:LSO:=[B9 2,Ac 3 0]
def LY:LSO:=[Aa 7 0,Aj 8 35 7,Aa 6 8,Aq 9 6,Ar 10 6,Aa 4 9,Aa 5 10]
def LX:LSO:=[Aa 11 5,A0 12 11 0]
def LW:LSO:=[Aa 13 5,B9 2,Aa 3 13]
def LV:LSO:=[Aa 14 0,Ae 15 14,Au 16 15 0]
def LU:LSO:=[B9 2,Ac 3 2]
def LT:LSO:=[Aa 17 0,Aj 18 36 17,o1 19 (.build [(.sl [] 0 (some 0)),(.sl [] 0 (some 0)),(.int .i64 0)] [(0,(1,(tm 18)))]),A8 20 19,Aa 2 20,Ac 3 0]
def gT:aS:=⟨21,(.seq (.sreg LZ [])
 (.seq (.sreg LY Cu)
 (.seq (.seq (.sreg LX Cp)
 (.cond (tm 12) (.seq (.sreg LW Cv)
 .ret)
 .skip))
 (.seq (.seq (.sreg LV Cq)
 (.cond (tm 16) (.seq (.sreg LU [])
 .ret)
 .skip))
 (.seq (.sreg LT C6)
 .ret))))),[(.tmp 2),(.tmp 3)]⟩
attribute [push_cast] LZ LY LX LW LV LU LT
theorem rO:aT Tryz.prog (fun _ _=>1) 14=some gT.raw:=by kernel_rfl
def tB:LSO:=[Ac 4 0]
def tz:LSO:=[Aa 11 1,Aj 12 86 11,Aa 10 12,Aq 13 10,Ar 14 10,Aa 5 13,Aa 6 14]
def tx:LSO:=[Ac 7 0]
def tw:LSO:=[Aa 15 6,Au 16 15 0,Aa 17 16,.grp none 17 true
 [Ai 18 17 7,Ai 19 17 0,Bt 20 17 19,A5 21 17 1 20,A4 22 17 1 21,AU 23 17 22,og 24 17 true (.bin .lss (tm 18) (tm 23))]
 25 (tm 24)]
def tv:LSO:=[Aa 29 0,Am 30 29,Ad 31 1 30,Ab 32 1 31,Aa 33 7,Al 34 3 32 33,Ad 35 1 34,Ab 36 1 35,Aj 37 86 36,Aa 28 37,Aq 38 28,Ar 39 28,Aa 8 38,Aa 9 39]
def tu:LSO:=[Aa 40 5,Aa 41 8,AJ 42 40 41]
def tt:LSO:=[Aa 43 7,Aa 4 43]
def tq:LSO:=[Aa 26 7,Ah 27 26 1,Aa 7 27]
def tp:LSO:=[Ac 4 (-1)]
def gD:aS:=⟨44,(.seq (.sreg tB [])
 (.seq (.sreg tz Cx)
 (.seq (.seq (.sreg tx [])
 (.block 0 (.loop (.seq (.seq (.sreg tw Cr)
 (.cond (tm 25) .skip
 (.exit 0)))
 (.seq (.block 1 (.seq (.sreg tv [false,true,false,false,false,false,false,false,false,false,false,false,false,false])
 (.seq (.sreg tu Cq)
 (.cond (tm 42) (.seq (.sreg tt Cp)
 .ret)
 .skip))))
 (.sreg tq Cq))))))
 (.seq (.sreg tp [])
 .ret)))),[(.tmp 4)]⟩
attribute [push_cast] tB tz tx tw tv tu tt tq tp
theorem rN:aT Tryz.prog (fun _ _=>1) 46=some gD.raw:=by kernel_rfl
def pS:LSO:=[Ac 4 0]
def pR:LSO:=[Aa 6 0,Am 7 6,Ad 8 1 7,Ab 9 1 8,Ae 10 9,Ac 11 0]
def pQ:LSO:=[Ak 12 11 10]
def pP:LSO:=[Aa 13 11,Aa 5 13]
def pO:LSO:=[Aa 14 0,Am 15 14,Ad 16 1 15,Ab 17 1 16,Aa 18 5,Al 19 3 17 18,Ad 20 0 19,Ab 21 1 20,Aa 22 1,AJ 23 21 22]
def pN:LSO:=[Aa 24 5,Aa 4 24]
def pM:LSO:=[Ah 25 11 1,Aa 11 25]
def pL:LSO:=[Ac 4 (-1)]
def lB:aS:=⟨26,(.seq (.sreg pS [])
 (.seq (.seq (.sreg pR C6)
 (.block 0 (.loop (.seq (.sreg pQ [])
 (.seq (.cond (tm 12) .skip
 (.exit 0))
 (.seq (.block 1 (.seq (.sreg pP Cp)
 (.seq (.sreg pO Cy)
 (.cond (tm 23) (.seq (.sreg pN Cp)
 .ret)
 .skip))))
 (.sreg pM Cp)))))))
 (.seq (.sreg pL [])
 .ret))),[(.tmp 4)]⟩
attribute [push_cast] pS pR pQ pP pO pN pM pL
theorem KL:aT Tryz.prog (fun _ _=>1) 58=some lB.raw:=by kernel_rfl
def pJ:LSO:=[Ac 4 0]
def pI:LSO:=[Aa 6 0,Aa 7 1,Ay 8 46 6 7,Aa 5 8]
def pH:LSO:=[Aa 9 5,AB 10 9 0]
def pG:LSO:=[Ac 4 0]
def pF:LSO:=[Aa 11 0,Am 12 11,Ad 13 1 12,Ab 14 1 13,Aa 15 5,Al 16 3 14 15,Ad 17 0 16,Ab 18 1 17,Aa 4 18]
def fe:aS:=⟨19,(.seq (.sreg pJ [])
 (.seq (.sreg pI Cr)
 (.seq (.seq (.sreg pH Cp)
 (.cond (tm 10) (.seq (.sreg pG [])
 .ret)
 .skip))
 (.seq (.sreg pF C1)
 .ret)))),[(.tmp 4)]⟩
attribute [push_cast] pJ pI pH pG pF
theorem oq:aT Tryz.prog (fun _ _=>1) 78=some fe.raw:=by kernel_rfl
def pE:LSO:=[Ac 4 0]
def pD:LSO:=[Aa 8 0,Aa 9 1,Ay 10 58 8 9,Aa 5 10]
def pC:LSO:=[Ac 6 0]
def pB:LSO:=[Aa 11 0,Am 12 11,Ad 13 1 12,Ab 14 1 13,Ae 15 14,Ac 16 0]
def pA:LSO:=[Ak 17 16 15]
def pw:LSO:=[Aa 18 16,Aa 7 18]
def pu:LSO:=[Aa 19 5,Bc 20 19 0,Aa 21 20,.grp none 21 true
 [Ai 22 21 0,Bt 23 21 22,A5 24 21 1 23,A4 25 21 1 24,Ai 26 21 7,Bn 27 21 3 25 26,A5 28 21 1 27,A4 29 21 1 28,AU 30 21 29,Ai 31 21 0,Bt 32 21 31,A5 33 21 1 32,A4 34 21 1 33,
 Ai 35 21 5,Bn 36 21 3 34 35,A5 37 21 1 36,A4 38 21 1 37,AU 39 21 38,Ch 40 21 39 1,og 41 21 true (.bin .eql (tm 30) (tm 40))]
 42 (tm 41),Aa 43 42,.grp none 43 true
 [Ai 44 43 0,Bt 45 43 44,A5 46 43 1 45,A4 47 43 1 46,Ai 48 43 7,Bn 49 43 3 47 48,A5 50 43 1 49,A4 51 43 1 50,Ai 52 43 0,Bt 53 43 52,A5 54 43 1 53,A4 55 43 1 54,Ai 56 43 5,
 Bn 57 43 3 55 56,A5 58 43 1 57,A4 59 43 1 58,Bu 60 43 47 51 59]
 61 (tm 60)]
def pr:LSO:=[Aa 62 6,Ah 63 62 1,Aa 6 63]
def pq:LSO:=[Ah 64 16 1,Aa 16 64]
def pn:LSO:=[Aa 65 6,Aa 4 65]
def fc:aS:=⟨66,(.seq (.sreg pE [])
 (.seq (.sreg pD Cr)
 (.seq (.sreg pC [])
 (.seq (.seq (.sreg pB C6)
 (.block 0 (.loop (.seq (.sreg pA [])
 (.seq (.cond (tm 17) .skip
 (.exit 0))
 (.seq (.block 1 (.seq (.sreg pw Cp)
 (.seq (.sdreg pu [.pure,.pure,.pure,.pure,(.read 0 0),.pure,(.read 0 0),.pure,(.read 0 0),.pure,(.read 0 0),(.read 0 0),.pure,(.read 0 0),.pure,(.read 0 0),.pure,(.read 0 0),.pure,(.read 0 0),(.read 0 0),.pure,.pure,.pure,.pure,.pure,(.read 0 0),.pure,(.read 0 0),.pure,(.read 0 0),.pure,(.read 0 0),.pure,(.read 0 0),.pure,(.read 0 0),.pure,(.read 0 0),.pure,(.read 0 0)] Ct)
 (.cond (tm 61) (.sreg pr Cq)
 .skip))))
 (.sreg pq Cp)))))))
 (.seq (.sreg pn Cp)
 .ret))))),[(.tmp 4)]⟩
attribute [push_cast] pE pD pC pB pA pw pu pr pq pn
theorem oo:aT Tryz.prog (fun _ _=>1) 32=some fc.raw:=by kernel_rfl
def DM:LSO:=[An 4]
def DL:LSO:=[Ac 5 1]
def DK:LSO:=[Aa 10 5,Aa 11 0,Ae 12 11,o1 13 (.bin .leq (tm 10) (tm 12)),Aa 14 13,.grp none 14 true
 [Ai 15 14 5,Ai 16 14 1,AU 17 14 16,og 18 14 true (.bin .leq (tm 15) (tm 17))]
 19 (tm 18)]
def DJ:LSO:=[Aa 23 0,Aa 24 0,Ae 25 24,Aa 26 5,AT 27 25 26,Aa 28 0,Ae 29 28,Aa 30 5,AT 31 29 30,Ah 32 31 1,o1 33 (.slV 1 (tm 23) (some (tm 27)) (some (tm 32)) none),
 Aj 34 86 33,Aa 22 34,Aq 35 22,Ar 36 22,Aa 6 35,Aa 7 36]
def DI:LSO:=[Aa 38 1,Aa 39 1,Ae 40 39,Aa 41 5,AT 42 40 41,Aa 43 1,Ae 44 43,Aa 45 5,AT 46 44 45,Ah 47 46 1,o1 48 (.slV 1 (tm 38) (some (tm 42)) (some (tm 47)) none),
 Aj 49 86 48,Aa 37 49,Aq 50 37,Ar 51 37,Aa 8 50,Aa 9 51]
def DH:LSO:=[Aa 52 6,Aa 53 8,AM 54 52 53]
def DG:LSO:=[Aa 55 6,Aa 56 8,Ak 57 55 56,Aa 4 57]
def DF:LSO:=[Aa 20 5,Ah 21 20 1,Aa 5 21]
def DE:LSO:=[Aa 58 0,Ae 59 58,Aa 60 1,Ae 61 60,Ak 62 59 61,Aa 4 62]
def uA:aS:=⟨63,(.seq (.sreg DM [])
 (.seq (.seq (.sreg DL [])
 (.block 0 (.loop (.seq (.seq (.sreg DK Ct)
 (.cond (tm 19) .skip
 (.exit 0)))
 (.seq (.block 1 (.seq (.sreg DJ CT)
 (.seq (.sreg DI CT)
 (.seq (.sreg DH Cq)
 (.cond (tm 54) (.seq (.sreg DG Cr)
 .ret)
 .skip)))))
 (.sreg DF Cq))))))
 (.seq (.sreg DE Ct)
 .ret))),[(.tmp 4)]⟩
attribute [push_cast] DM DL DK DJ DI DH DG DF DE
theorem Q6:aT Tryz.prog (fun _ _=>1) 109=some uA.raw:=by kernel_rfl
def nw:LSO:=[Ap 6]
def nv:LSO:=[Aa 17 0,Aa 18 1,Ay 19 58 17 18,Aa 7 19]
def nu:LSO:=[Aa 20 7,AB 21 20 0,Aa 22 21,.grp none 22 false
 [Ag 23 22 2,B1 24 22 23 0]
 25 (tm 24),Aa 26 25,.grp none 26 false
 [Ag 27 26 2,AD 28 26 27 2]
 29 (tm 28)]
def nr:LSO:=[Ap 6]
def nq:LSO:=[Ap 8]
def np:LSO:=[Aa 30 0,Am 31 30,Ad 32 1 31,Ab 33 1 32,Ae 34 33,Ac 35 0]
def nn:LSO:=[Ak 36 35 34]
def nj:LSO:=[Al 37 3 33 35,As 38 3 37,BA 10,Af 3 10 38]
def ni:LSO:=[Ad 39 1 10,Ab 40 1 39,Ae 41 40,Aa 42 0,Am 43 42,Ad 44 1 43,Ab 45 1 44,Aa 46 7,Al 47 3 45 46,Ad 48 1 47,Ab 49 1 48,Ae 50 49,AT 51 41 50,Aa 11 51]
def nh:LSO:=[Ad 52 1 10,Ab 53 1 52,Aa 54 0,Am 55 54,Ad 56 1 55,Ab 57 1 56,Aa 58 7,Al 59 3 57 58,Ad 60 1 59,Ab 61 1 60,Ay 62 47 53 61,AA 63 62,Aa 64 63,
 .grp none 64 false
 [Ag 65 64 2,B1 66 64 65 2,Ag 67 64 66,.grp (some (64,false)) 67 true
 [Ai 68 67 11,Ai 69 67 2,Ce 70 67 68 69]
 71 (tm 70)]
 72 (tm 71)]
def mg:LSO:=[Aa 73 8,Ae 74 73,Aa 12 74]
def mf:LSO:=[Aa 75 12,A6 76 75 0,Aa 77 76,.grp none 77 true
 [A5 78 77 1 10,A4 79 77 1 78,Ai 80 77 8,Ai 81 77 12,BB 82 77 81 1,Bn 83 77 3 80 82,A5 84 77 1 83,A4 85 77 1 84,Bu 86 77 109 79 85]
 87 (tm 86)]
def me:LSO:=[Aa 88 12,AX 89 88 1,Aa 12 89]
def mc:LSO:=[Ap 13]
def ma:LSO:=[Aa 90 13,Aa 91 8,Aa 92 12,o1 93 (.slV 3 (tm 91) none (some (tm 92)) none),BP 94 90 93,Aa 13 94]
def l9:LSO:=[Aa 95 13,As 96 3 10,o1 97 (.bslice false 3 1 [(.int .i64 0),(.sl [] 0 (some 0)),(.sl [] 0 (some 0))] [(0,(3,(tm 96)))]),BP 98 95 97,Aa 13 98]
def l8:LSO:=[Aa 99 13,Aa 100 8,Aa 101 12,o1 102 (.slV 3 (tm 100) (some (tm 101)) none none),BP 103 99 102,Aa 13 103]
def l7:LSO:=[Aa 104 13,Aa 8 104]
def l6:LSO:=[Ah 105 35 1,Aa 35 105]
def l5:LSO:=[Ap 14]
def lZ:LSO:=[Aa 106 8,Ae 107 106,Ac 108 0]
def lY:LSO:=[Ak 109 108 107]
def lX:LSO:=[Al 110 3 106 108,As 111 3 110,BA 16,Af 3 16 111]
def lW:LSO:=[Aa 112 14,Ad 113 0 16,Ab 114 1 113,o1 115 (.bslice false 1 1 [(.int .i64 0)] [(0,(1,(tm 114)))]),
 o1 116 (.app 1 1 8 [(.int .i64 0)] (tm 112) (tm 115)),Aa 14 116]
def lV:LSO:=[Ah 117 108 1,Aa 108 117]
def lU:LSO:=[Aa 118 14,Aa 6 118]
def bI:aS:=⟨119,(.seq (.sreg nw [])
 (.seq (.sreg nv Cr)
 (.seq (.seq (.sreg nu Ct)
 (.cond (tm 29) (.seq (.sreg nr [])
 .ret)
 .skip))
 (.seq (.sreg nq [])
 (.seq (.seq (.sreg np CB)
 (.block 0 (.loop (.seq (.sreg nn [])
 (.seq (.cond (tm 36) .skip
 (.exit 0))
 (.seq (.block 1 (.seq (.sreg nj Cq)
 (.seq (.sdreg ni [.pure,(.read 0 0),(.read 0 0),.pure,(.read 0 0),.pure,(.read 0 0),.pure,(.read 0 0),.pure,(.read 0 0),(.read 0 0)] CG)
 (.seq (.seq (.sdreg nh [.pure,(.read 0 0),.pure,(.read 0 0),.pure,(.read 0 0),.pure,(.read 0 0),.pure,(.read 0 0),(.read 0 0),.pure,.pure,.pure,.pure,.pure,.pure,.pure] CG)
 (.cond (tm 72) (.exit 1)
 .skip))
 (.seq (.sreg mg Cq)
 (.seq (.block 2 (.loop (.seq (.seq (.sdreg mf [.pure,.pure,.pure,.pure,(.read 0 0),.pure,.pure,.pure,(.read 0 0),.pure,(.read 0 0)] Cr)
 (.cond (tm 87) .skip
 (.exit 2)))
 (.block 3 (.sreg me Cq)))))
 (.seq (.sreg mc [])
 (.seq (.sreg ma Ct)
 (.seq (.sreg l9 Cs)
 (.seq (.sreg l8 Ct)
 (.sreg l7 Cp)))))))))))
 (.sreg l6 Cp)))))))
 (.seq (.sreg l5 [])
 (.seq (.seq (.sreg lZ [])
 (.block 4 (.loop (.seq (.sreg lY [])
 (.seq (.cond (tm 109) .skip
 (.exit 4))
 (.seq (.block 5 (.seq (.sreg lX Cq)
 (.sreg lW Ct)))
 (.sreg lV Cp)))))))
 (.seq (.sreg lU Cp)
 .ret)))))))),[(.tmp 6)]⟩
attribute [push_cast] nw nv nu nr nq np nn nj ni nh mg mf me mc ma l9 l8 l7 l6 l5 lZ lY lX lW lV lU
theorem d9:aT Tryz.prog (fun _ _=>1) 77=some bI.raw:=by kernel_rfl
def H1:LSO:=[An 4]
def H0:LSO:=[Aa 5 0,Ae 6 5,Aa 7 1,Ae 8 7,AJ 9 6 8,Aa 10 9,.grp none 10 true
 [Ai 11 10 0,Ai 12 10 1,Bu 13 10 47 11 12]
 14 (tm 13),Aa 4 14]
def lz:aS:=⟨15,(.seq (.sreg H1 [])
 (.seq (.sreg H0 Cw)
 .ret)),[(.tmp 4)]⟩
attribute [push_cast] H1 H0
theorem GN:aT Tryz.prog (fun _ _=>1) 85=some lz.raw:=by kernel_rfl
def DD:LSO:=[Ap 6]
def DC:LSO:=[Ap 7]
def DB:LSO:=[Aa 8 7,Aa 9 0,Aa 10 0,Ae 11 10,Aa 12 1,AT 13 11 12,Cf 14 9 13,Bg 15 8 14,Aa 7 15]
def DA:LSO:=[Aa 16 7,Aa 17 2,Bg 18 16 17,Aa 6 18]
def uz:aS:=⟨19,(.seq (.sreg DD [])
 (.seq (.sreg DC [])
 (.seq (.sreg DB C1)
 (.seq (.sreg DA Cr)
 .ret)))),[(.tmp 6)]⟩
attribute [push_cast] DD DC DB DA
theorem Q5:aT Tryz.prog (fun _ _=>1) 48=some uz.raw:=by kernel_rfl
def qe:LSO:=[A8 3 1,Ac 4 0]
def qd:LSO:=[Ad 14 0 3,Ab 15 1 14,AB 16 15 1,Aa 17 16,.grp none 17 false
 [A3 18 17 0 3,A1 19 17 1 18,AD 20 17 19 4]
 21 (tm 20)]
def qc:LSO:=[Ac 4 1]
def p9:LSO:=[Aa 22 0,Ad 23 1 3,Ab 24 1 23,Ay 25 46 22 24,Aa 5 25]
def pZ:LSO:=[Ad 26 0 3,Ab 27 1 26,Au 28 27 1]
def pY:LSO:=[Ad 30 1 3,Ab 31 1 30,Aj 32 35 31,Aa 29 32,Aq 33 29,Ar 34 29,Aa 6 33,Aa 7 34]
def pX:LSO:=[Aa 35 7,A0 36 35 0]
def pW:LSO:=[Ac 4 34]
def pV:LSO:=[Aa 37 5,Bc 38 37 0]
def pU:LSO:=[Ac 4 68]
def n8:LSO:=[Ad 39 1 3,Ab 40 1 39,Aa 41 0,Am 42 41,Ad 43 0 42,Ab 44 1 43,Ay 45 85 40 44,AA 46 45,Aa 47 46,.grp none 47 true
 [A5 48 47 1 3,A4 49 47 1 48,AU 50 47 49,Bd 51 47 50 0,Ai 52 47 51,.grp (some (47,true)) 52 false
 [Ag 53 52 0,A3 54 52 1 3,A1 55 52 1 54,og 56 52 false (.slV 1 (tm 55) (some (iv 1)) none none),Bw 57 52 46 53 56,B1 58 52 57 0]
 59 (tm 58)]
 60 (tm 59)]
def n7:LSO:=[Ac 4 32]
def nZ:LSO:=[Aa 61 0,Am 62 61,Ad 63 1 62,Ab 64 1 63,Ae 65 64,Bc 66 65 4096]
def nY:LSO:=[Ac 4 80]
def nX:LSO:=[Ac 4 0]
def nW:LSO:=[Aa 67 5,AB 68 67 0]
def nV:LSO:=[Ac 4 32]
def nU:LSO:=[Ad 69 0 3,Ab 70 1 69,Au 71 70 2,Aa 72 71,.grp none 72 true
 [Ai 73 72 0,Ai 74 72 0,Bt 75 72 74,A5 76 72 1 75,A4 77 72 1 76,Ai 78 72 5,Bn 79 72 3 77 78,A5 80 72 0 79,A4 81 72 1 80,Bu 82 72 32 73 81,BC 83 72 82 0]
 84 (tm 83)]
def nT:LSO:=[Ac 4 66]
def nS:LSO:=[Ad 85 0 3,Ab 86 1 85,Au 87 86 4]
def nR:LSO:=[Ad 89 2 3,Ab 90 1 89,Aj 91 35 90,Aa 88 91,Aq 92 88,Ar 93 88,Aa 8 92,Aa 9 93]
def nQ:LSO:=[Ad 94 1 3,Ab 95 1 94,Aa 96 0,Am 97 96,Ad 98 0 97,Ab 99 1 98,Ay 100 85 95 99]
def nP:LSO:=[Ac 4 53]
def nO:LSO:=[Aa 101 9,A0 102 101 0,Aa 103 102,.grp none 103 false
 [A3 104 103 2 3,A1 105 103 1 104,AH 106 103 105,Bf 107 103 106 0]
 108 (tm 107)]
def nN:LSO:=[Ac 4 34]
def nM:LSO:=[Ad 109 2 3,Ab 110 1 109,BH 111 110 1,Ad 112 1 3,Ab 113 1 112,Ay 114 47 111 113]
def nL:LSO:=[Ac 4 53]
def nK:LSO:=[Aa 115 0,Ad 116 2 3,Ab 117 1 116,BH 118 117 1,Ay 119 46 115 118,AB 120 119 0]
def nJ:LSO:=[Ac 4 32]
def nI:LSO:=[Aa 121 0,Ad 122 2 3,Ab 123 1 122,Ay 124 46 121 123,Bc 125 124 0,Aa 126 125,.grp none 126 true
 [Ai 127 126 0,A5 128 126 2 3,A4 129 126 1 128,Bu 130 126 46 127 129,Ai 131 126 5,Ce 132 126 130 131]
 133 (tm 132)]
def nH:LSO:=[Ac 4 68]
def nG:LSO:=[Aa 134 0,Am 135 134,Ad 136 1 135,Ab 137 1 136,Ae 138 137,Ac 139 0]
def nF:LSO:=[Ak 140 139 138]
def nE:LSO:=[Al 141 3 137 139,As 142 3 141,BA 11,Af 3 11 142]
def nD:LSO:=[Ad 143 1 11,Ab 144 1 143,Ad 145 1 3,Ab 146 1 145,Ay 147 47 144 146]
def nC:LSO:=[Ad 149 1 11,Ab 150 1 149,Ad 151 1 3,Ab 152 1 151,Ae 153 152,Ad 154 2 3,Ab 155 1 154,B8 156 48 150 153 155,Aj 157 35 156,Aa 148 157,Aq 158 148,
 Ar 159 148,Aa 12 158,Aa 13 159]
def nB:LSO:=[Aa 160 13,A0 161 160 0]
def nA:LSO:=[Ac 4 34]
def nz:LSO:=[Ah 162 139 1,Aa 139 162]
def ny:LSO:=[Ac 4 0]
def aj:aS:=⟨163,(.seq (.sreg qe [])
 (.seq (.seq (.sreg qd Cs)
 (.cond (tm 21) (.seq (.sreg qc [])
 .ret)
 .skip))
 (.seq (.sreg p9 Cs)
 (.seq (.seq (.sreg pZ Cq)
 (.cond (tm 28) (.seq (.sreg pY Cw)
 (.seq (.seq (.sreg pX Cp)
 (.cond (tm 36) (.seq (.sreg pW [])
 .ret)
 .skip))
 (.seq (.seq (.sreg pV Cp)
 (.cond (tm 38) (.seq (.sreg pU [])
 .ret)
 .skip))
 (.seq (.seq (.sdreg n8 [.pure,(.read 0 0),.pure,(.read 0 0),.pure,(.read 0 0),(.read 0 0),.pure,.pure,.pure,(.read 0 0),(.read 0 0),.pure,.pure,.pure,.pure,(.read 0 0),(.read 0 0)] Cy)
 (.cond (tm 60) (.seq (.sreg n7 [])
 .ret)
 .skip))
 (.seq (.seq (.sreg nZ Ct)
 (.cond (tm 66) (.seq (.sreg nY [])
 .ret)
 .skip))
 (.seq (.sreg nX [])
 .ret))))))
 .skip))
 (.seq (.seq (.sreg nW Cp)
 (.cond (tm 68) (.seq (.sreg nV [])
 .ret)
 .skip))
 (.seq (.seq (.sreg nU Cs)
 (.cond (tm 84) (.seq (.sreg nT [])
 .ret)
 .skip))
 (.seq (.seq (.sreg nS Cq)
 (.cond (tm 87) (.seq (.sreg nR Cw)
 (.seq (.seq (.sdreg nQ [.pure,(.read 0 0),.pure,(.read 0 0),.pure,(.read 0 0)] Cu)
 (.cond (tm 100) (.seq (.sreg nP [])
 .ret)
 .skip))
 (.seq (.seq (.sreg nO Cr)
 (.cond (tm 108) (.seq (.sreg nN [])
 .ret)
 .skip))
 (.seq (.seq (.sdreg nM [.pure,(.read 0 0),(.read 0 0),.pure,(.read 0 0)] Ct)
 (.cond (tm 114) (.seq (.sreg nL [])
 .ret)
 .skip))
 (.seq (.seq (.sreg nK Ct)
 (.cond (tm 120) (.seq (.sreg nJ [])
 .ret)
 .skip))
 (.seq (.seq (.sreg nI Cu)
 (.cond (tm 133) (.seq (.sreg nH [])
 .ret)
 .skip))
 (.seq (.sreg nG CB)
 (.block 0 (.loop (.seq (.sreg nF [])
 (.seq (.cond (tm 140) .skip
 (.exit 0))
 (.seq (.block 1 (.seq (.sreg nE Cq)
 (.seq (.sreg nD Cs)
 (.cond (tm 147) (.seq (.sreg nC CG)
 (.seq (.sreg nB Cp)
 (.cond (tm 161) (.seq (.sreg nA [])
 .ret)
 .skip)))
 .skip))))
 (.sreg nz Cp)))))))))))))
 .skip))
 (.seq (.sreg ny [])
 .ret)))))))),[(.tmp 4)]⟩
attribute [push_cast] qe qd qc p9 pZ pY pX pW pV pU n8 n7 nZ nY nX nW nV nU nT nS nR nQ nP nO nN nM nL nK nJ nI nH nG nF nE nD nC nB nA nz ny
theorem aD:aT Tryz.prog (fun _ _=>1) 45=some aj.raw:=by kernel_rfl
def tj:LSO:=[A8 3 1,Ac 4 0]
def ti:LSO:=[Aa 10 0,As 11 4 3,Ay 12 45 10 11,Aa 5 12]
def th:LSO:=[Aa 13 5,A0 14 13 0]
def tf:LSO:=[Aa 15 5,Aa 4 15]
def td:LSO:=[Aa 16 0,Ad 17 1 3,Ab 18 1 17,Ay 19 46 16 18,Aa 6 19]
def tc:LSO:=[Ap 7]
def ta:LSO:=[Aa 20 0,Am 21 20,Ad 22 1 21,Ab 23 1 22,Ae 24 23,Ac 25 0]
def sZ:LSO:=[Ak 26 25 24]
def sY:LSO:=[Aa 27 25,Al 28 3 23 25,As 29 3 28,BA 9,Aa 8 27,Af 3 9 29]
def sX:LSO:=[Ad 30 0 3,Ab 31 1 30,Au 32 31 4,Aa 33 32,.grp none 33 true
 [A5 34 33 1 9,A4 35 33 1 34,A5 36 33 1 3,A4 37 33 1 36,Bu 38 33 47 35 37]
 39 (tm 38)]
def rj:LSO:=[Ad 40 1 9,Ab 41 1 40,Ad 42 1 3,Ab 43 1 42,Ae 44 43,Ad 45 2 3,Ab 46 1 45,B8 47 48 41 44 46,Aj 48 36 47,Ad 49 1 9,Af 1 49 48]
def ri:LSO:=[Aa 50 8,Aa 51 6,AJ 52 50 51,Aa 53 52,.grp none 53 true
 [A5 54 53 0 3,A4 55 53 1 54,Bd 56 53 55 3,Ai 57 53 56,.grp (some (53,true)) 57 false
 [A3 58 57 0 3,A1 59 57 1 58,Bf 60 57 59 4]
 61 (tm 60)]
 62 (tm 61)]
def rh:LSO:=[Ad 63 3 3,Ab 64 1 63,Aj 65 49 64,Ad 66 2 9,Af 1 66 65]
def rg:LSO:=[Aa 67 8,Aa 68 6,AM 69 67 68,Aa 70 69,.grp none 70 false
 [A3 71 70 0 3,A1 72 70 1 71,Bv 73 70 72 2]
 74 (tm 73)]
def rf:LSO:=[Aa 75 7,As 76 3 9,o1 77 (.bslice false 3 1 [(.int .i64 0),(.sl [] 0 (some 0)),(.sl [] 0 (some 0))] [(0,(3,(tm 76)))]),BP 78 75 77,Aa 7 78]
def re:LSO:=[Ah 79 25 1,Aa 25 79]
def rd:LSO:=[Ad 80 0 3,Ab 81 1 80,Au 82 81 1]
def ra:LSO:=[Aa 83 0,Am 84 83,Ad 85 2 84,Ab 86 1 85,Ah 87 86 1,Am 88 83,Ad 89 2 88,Af 1 89 87]
def q9:List (am×Kd) :=
 [Az 90 7,Az 91 0,AF 92 91 0 0,Aw 93 2 92,Ax 94 1 93 0 0,Aw 95 1 3,Ax 96 1 95 0 0,AS 97 36 96 0 0,Aw 98 3 3,Ax 99 1 98 0 0,AS 100 49 99 0 0,
 od 101 (.build [(.int .i64 0),(.sl [] 0 (some 0)),(.sl [] 0 (some 0))] [(0,(1,(tm 94))),(1,(1,(tm 97))),(2,(1,(tm 100)))]) .pure,
 od 102 (.bslice false 3 1 [(.int .i64 0),(.sl [] 0 (some 0)),(.sl [] 0 (some 0))] [(0,(3,(tm 101)))]) (.read 0 0)]
def pK:List am :=
 [⟨(some 103),(.app 1 3 56 [(.int .i64 0),(.sl [] 0 (some 0)),(.sl [] 0 (some 0))] (tm 90) (tm 102)),none⟩,⟨(some 7),(.mv (tm 103)),none⟩]
def q0:LSO:=[Aa 104 0,Aa 105 7,Am 106 104,Ad 107 1 106,Af 1 107 105]
def qZ:LSO:=[Ac 4 0]
def bM:aS:=⟨108,(.seq (.sreg tj [])
 (.seq (.sreg ti Cr)
 (.seq (.seq (.sreg th Cp)
 (.cond (tm 14) (.seq (.sreg tf Cp)
 .ret)
 .skip))
 (.seq (.sreg td Cs)
 (.seq (.sreg tc [])
 (.seq (.seq (.sreg ta CB)
 (.block 0 (.loop (.seq (.sreg sZ [])
 (.seq (.cond (tm 26) .skip
 (.exit 0))
 (.seq (.block 1 (.seq (.sreg sY Cz)
 (.seq (.seq (.sreg sX Cs)
 (.cond (tm 39) (.sreg rj CF)
 .skip))
 (.seq (.seq (.sreg ri Cs)
 (.cond (tm 62) (.sreg rh C3)
 .skip))
 (.seq (.sreg rg Cs)
 (.cond (tm 74) (.sreg rf Cs)
 .skip))))))
 (.sreg re Cp)))))))
 (.seq (.seq (.sreg rd Cq)
 (.cond (tm 82) (.seq (.sreg ra C7)
 (.dregM q9 pK CU))
 .skip))
 (.seq (.sreg q0 C3)
 (.seq (.sreg qZ [])
 .ret))))))))),[(.tmp 4)]⟩
attribute [push_cast] tj ti th tf td tc ta sZ sY sX rj ri rh rg rf re rd ra q9 pK q0 qZ
theorem d7:aT Tryz.prog (fun _ _=>1) 21=some bM.raw:=by kernel_rfl
def Es:LSO:=[An 4]
def Er:LSO:=[Aa 10 0,Aj 11 35 10,Aa 9 11,Aq 12 9,Ar 13 9,Aa 5 12,Aa 6 13]
def Ep:LSO:=[Aa 15 1,Aj 16 86 15,Aa 14 16,Aq 17 14,Ar 18 14,Aa 7 17,Aa 8 18]
def Eo:LSO:=[Aa 19 6,A0 20 19 0,Aa 21 20,.grp none 21 false
 [Ag 22 21 8,Bv 23 21 22 0]
 24 (tm 23),Aa 25 24,.grp none 25 false
 [Ag 26 25 0,AH 27 25 26,Ag 28 25 1,AH 29 25 28,Cg 30 25 27 29]
 31 (tm 30)]
def En:LSO:=[An 4]
def Em:LSO:=[Aa 32 0,Aa 33 0,Ae 34 33,Aa 35 1,Ae 36 35,AT 37 34 36,o1 38 (.slV 1 (tm 32) (some (tm 37)) none none),Aj 39 87 38,Aj 40 69 39,Aa 41 7,AJ 42 40 41,
 Aa 4 42]
def dh:aS:=⟨43,(.seq (.sreg Es [])
 (.seq (.sreg Er Cu)
 (.seq (.sreg Ep Cx)
 (.seq (.seq (.sreg Eo Ct)
 (.cond (tm 31) (.seq (.sreg En [])
 .ret)
 .skip))
 (.seq (.sreg Em CH)
 .ret))))),[(.tmp 4)]⟩
attribute [push_cast] Es Er Ep Eo En Em
theorem ie:aT Tryz.prog (fun _ _=>1) 47=some dh.raw:=by kernel_rfl
def IW:LSO:=[An 4]
def IV:LSO:=[Aa 7 0,Ae 8 7,Aa 9 1,Ae 10 9,AM 11 8 10]
def IU:LSO:=[An 4]
def IT:LSO:=[Aa 12 0,Ae 13 12,Ac 14 0]
def IS:LSO:=[Ak 15 14 13]
def IR:LSO:=[Aa 16 14,Aa 5 16]
def IQ:LSO:=[Aa 17 0,Aa 18 5,Al 19 1 17 18,Ab 20 1 19,Ae 21 20,Aa 22 1,Aa 23 5,Al 24 1 22 23,Ab 25 1 24,Ae 26 25,AM 27 21 26]
def IP:LSO:=[An 4]
def IN:LSO:=[Aa 28 0,Aa 29 5,Al 30 1 28 29,Ab 31 1 30,Ae 32 31,Ac 33 0]
def IM:LSO:=[Ak 34 33 32]
def Ey:LSO:=[Aa 35 33,Aa 6 35]
def Ex:LSO:=[Aa 36 0,Aa 37 5,Al 38 1 36 37,Ab 39 1 38,Aa 40 6,Al 41 2 39 40,As 42 2 41,Aa 43 1,Aa 44 5,Al 45 1 43 44,Ab 46 1 45,Aa 47 6,Al 48 2 46 47,As 49 2 48,
 o1 50 (.eq2 true (tm 42) (tm 49))]
def Ew:LSO:=[An 4]
def Ev:LSO:=[Ah 51 33 1,Aa 33 51]
def Eu:LSO:=[Ah 52 14 1,Aa 14 52]
def Et:LSO:=[AC 4]
def zj:aS:=⟨53,(.seq (.sreg IW [])
 (.seq (.seq (.sreg IV Cs)
 (.cond (tm 11) (.seq (.sreg IU [])
 .ret)
 .skip))
 (.seq (.seq (.sreg IT Cv)
 (.block 0 (.loop (.seq (.sreg IS [])
 (.seq (.cond (tm 15) .skip
 (.exit 0))
 (.seq (.block 1 (.seq (.sreg IR Cp)
 (.seq (.seq (.sdreg IQ [.pure,.pure,(.read 0 0),(.read 0 0),(.read 0 0),.pure,.pure,(.read 0 0),(.read 0 0),(.read 0 0)] CD)
 (.cond (tm 27) (.seq (.sreg IP [])
 .ret)
 .skip))
 (.seq (.sreg IN C6)
 (.block 2 (.loop (.seq (.sreg IM [])
 (.seq (.cond (tm 34) .skip
 (.exit 2))
 (.seq (.block 3 (.seq (.sreg Ey Cp)
 (.seq (.sdreg Ex [.pure,.pure,(.read 0 0),(.read 0 0),.pure,(.read 0 0),(.read 0 0),.pure,.pure,(.read 0 0),(.read 0 0),.pure,(.read 0 0),(.read 0 0)] CU)
 (.cond (tm 50) (.seq (.sreg Ew [])
 .ret)
 .skip))))
 (.sreg Ev Cp))))))))))
 (.sreg Eu Cp)))))))
 (.seq (.sreg Et [])
 .ret)))),[(.tmp 4)]⟩
attribute [push_cast] IW IV IU IT IS IR IQ IP IN IM Ey Ex Ew Ev Eu Et
theorem SG:aT Tryz.prog (fun _ _=>1) 29=some zj.raw:=by kernel_rfl
def IL:LSO:=[Ap 2]
def IK:LSO:=[Ap 3]
def IJ:LSO:=[Aa 6 0,Ae 7 6,Ac 8 0]
def II:LSO:=[Ak 9 8 7]
def IH:LSO:=[Al 10 1 6 8,Ab 11 1 10,Aa 5 11]
def IG:LSO:=[Aa 12 3,o1 13 (.bslice false 2 0 [] []),Aa 14 5,o1 15 (.app 0 2 32 [(.str []),(.str [])] (tm 13) (tm 14)),Be 16 15,Bg 17 12 16,Aa 3 17]
def IF:LSO:=[Ah 18 8 1,Aa 8 18]
def IE:LSO:=[Aa 19 3,Aa 2 19]
def zi:aS:=⟨20,(.seq (.sreg IL [])
 (.seq (.sreg IK [])
 (.seq (.seq (.sreg IJ [])
 (.block 0 (.loop (.seq (.sreg II [])
 (.seq (.cond (tm 9) .skip
 (.exit 0))
 (.seq (.block 1 (.seq (.sreg IH Cq)
 (.sreg IG Cu)))
 (.sreg IF Cp)))))))
 (.seq (.sreg IE Cp)
 .ret)))),[(.tmp 2)]⟩
attribute [push_cast] IL IK IJ II IH IG IF IE
theorem SF:aT Tryz.prog (fun r i=>if r=5/\i=3 then 0 else 1) 36=some zi.raw:=by kernel_rfl
attribute [push_cast] gT gD lB fe fc uA bI lz uz aj bM dh zj zi
def Cn (x:Nat):Prop:=128<=x/\x<192
instance (x:Nat):Decidable (Cn x):=by unfold Cn;infer_instance
def abC (n b0 b1:Nat):Prop:=n<2\/¬ Cn b1\/(b0 - 192) * 64+b1 - 128<128
def ag4 (n b0 b1 b2:Nat):Prop:=n<3\/¬ Cn b1\/¬ Cn b2\/((b0 - 224) * 64+b1 - 128) * 64+b2 - 128<2048\/55296<=((b0 - 224) * 64+b1 - 128) * 64+b2 - 128/\((b0 - 224) * 64+b1 - 128) * 64+b2 - 128<57344
def ag3 (n b0 b1 b2 b3:Nat):Prop:=n<4\/¬ Cn b1\/¬ Cn b2\/¬ Cn b3\/(((b0 - 240) * 64+b1 - 128) * 64+b2 - 128) * 64+b3 - 128<65536\/1114111<(((b0 - 240) * 64+b1 - 128) * 64+b2 - 128) * 64+b3 - 128
instance (n b0 b1:Nat):Decidable (abC n b0 b1):=by unfold abC;infer_instance
instance (n b0 b1 b2:Nat):Decidable (ag4 n b0 b1 b2):=by unfold ag4;infer_instance
instance (n b0 b1 b2 b3:Nat):Decidable (ag3 n b0 b1 b2 b3):=by unfold ag3;infer_instance
set_option maxHeartbeats 8000000
set_option maxRecDepth 100000
theorem jN (c:UInt8):(eJ c).toNat=if 65<=c.toNat/\c.toNat<=90 then c.toNat+32 else c.toNat:=by
 by_cases h:65<=c.toNat/\c.toNat<=90
 ·have:=Wo h.1 h.2;rw [if_pos h];omega
 ·rw [Kz h,if_neg h]
theorem VB (c:UInt8):eJ (eJ c)=eJ c:=by
 refine Kz ?_;rw [jN];split<;>omega
theorem Uf (s:List UInt8):aH (aH s)=aH s:=by
 unfold aH;rw [ahS];exact aiw fun c _=>VB c
theorem TB (s:List UInt8) (c:UInt8):bQ (s++[c])=aP (bQ s) c:=by simp [bQ]
theorem TC (s:List UInt8):(bQ s).length<=s.length:=by
 have:=qo s s.length
 rwa [ahA] at this
theorem Wc {b:List UInt8} (c:UInt8) (h:bQ b=b):bQ (aP b c)=aP b c:=by
 by_cases hc:c=32/\GM b=true
 ·simp only [aP,if_pos hc];exact h
 ·simp only [aP,if_neg hc];rw [TB,h,aP,if_neg hc]
theorem XW:∀ (s b:List UInt8),bQ b=b->bQ (s.foldl aP b)=s.foldl aP b
 | [],_,h=>h
 | c::s,b,h=>XW s (aP b c) (Wc c h)
theorem QT (s:List UInt8):bQ (bQ s)=bQ s:=XW s [] rfl
theorem aeO {b:List UInt8} {c:UInt8} (h:bQ (b++[c])=b++[c]):bQ b=b/\¬ (c=32/\GM b=true):=by
 rw [TB] at h;unfold aP at h;split at h
 ·have:=TC b;rw [h] at this;simp at this;omega
 ·rename_i hc
  have:=List.append_cancel_right h;rw [this] at hc;exact ⟨this,hc⟩
theorem QR {b:List UInt8} (h:bQ b=b):bQ (du b)=du b/\du (du b)=du b:=by
 rcases aji b with rfl|⟨d,c,rfl⟩
 ·simp [du,bQ]
 ·rw [ajQ] at h ⊢;obtain ⟨h1,h2⟩:=aeO h;rw [jS];split
  ·rename_i hc
   refine ⟨h1,?_⟩;have h3:GM d=false:=by simpa [hc] using h2
   unfold du;rw [if_neg];intro e;simp [GM,e] at h3
  ·rename_i hc
   exact ⟨h,by rw [jS,if_neg hc]⟩
theorem Wm {b:List UInt8} {c x:UInt8} (h:x∈aP b c):x∈b\/x=c:=by
 unfold aP at h;split at h
 ·exact .inl h
 ·simpa using h
theorem Xw:∀ (s b:List UInt8) {x:UInt8},x∈s.foldl aP b->x∈b\/x∈s
 | [],_,_,h=>.inl h
 | c::s,b,x,h=>by
   rcases Xw s (aP b c) h with h1|h1
   ·rcases Wm h1 with h2|h2
    ·exact .inl h2
    ·exact .inr (by simp [h2])
   ·exact .inr (by simp [h1])
theorem aa4 {b:List UInt8} {x:UInt8} (h:x∈du b):x∈b:=by
 unfold du at h;split at h
 ·exact (List.dropLast_sublist b).subset h
 ·exact h
theorem aa5 {s:List UInt8} {x:UInt8} (h:x∈bP s):∃ c∈s,x=eJ c:=by
 rcases Xw _ _ (aa4 h) with h1|h1
 ·cases h1
 ·obtain ⟨c,hc,rfl⟩:=ahs.1 h1;exact ⟨c,hc,rfl⟩
theorem XX (s:List UInt8):aH (bP s)=bP s:=by
 unfold aH;rw [aiw (g:=id) (fun x hx=>?_),List.map_id];obtain ⟨c,_,rfl⟩:=aa5 hx;exact VB c
theorem YF (s:List UInt8):bP (bP s)=bP s:=by
 have h1:bP (bP s)=du (bQ (bP s)):=by
  show du (bQ (aH (bP s)))=_
  rw [XX]
 rw [h1];have h2:=QR (QT (aH s));show du (bQ (du (bQ (aH s))))=du (bQ (aH s))
 rw [h2.1,h2.2]
def Chr (q:List UInt8):Prop:=q≠[]/\(∀ s,Lib.validD (q++s)=Lib.validD s)/\((∃ c:UInt8,q=[c]/\c.toNat<128)\/∀ c∈q,128<=c.toNat)
inductive Seg:List UInt8->Prop
 | nil:Seg []
 | cons {q s:List UInt8}:Chr q->Seg s->Seg (q++s)
theorem Seg.app {a b:List UInt8} (h:Seg a) (hb:Seg b):Seg (a++b):=by
 induction h with
 | nil=>exact hb
 | cons hq _ ih=>rw [ahz];exact .cons hq ih
theorem Seg.last {s:List UInt8} (h:Seg s):∀ d:List UInt8,s=d++[32]->Seg d:=by
 induction h with
 | nil=>intro d e;simp at e
 | @cons q s hq hs ih =>
   intro d e;rcases aji s with rfl|⟨s',c,rfl⟩
   ·rw [ahO] at e;subst e;rcases hq.2.2 with ⟨c,e2,_⟩|h2
    ·have:d=[]:=by
      have:=congrArg List.length e2;simp at this;exact this
     subst this;exact .nil
    ·have:=h2 32 (by simp);exact absurd this (by decide)
   ·rw [ajQ] at *;rw [<- ahz] at e;obtain ⟨e1,e2⟩:=List.append_inj' e rfl;subst e1;rw [e2] at ih hs;exact .cons hq (ih s' rfl)
def Dif (a b:Ava):Prop:=aH a.1≠aH b.1
theorem Z9 {r:Rdn} {t:List UInt8}:lH r t=false↔∀ a∈r,aH a.1≠aH t:=by simp [lH]
theorem Us:∀ (t done:Rdn),done.length<=8->(dl done t=0↔done.length+t.length<=8/\(∀ a∈t,ku a.1=true)/\(∀ a∈done,∀ b∈t,Dif a b)/\t.Pairwise Dif)
 | [],done,h=>by simp [dl,h]
 | a::t,done,h=>by
   unfold dl;by_cases h8:done.length=8
   ·rw [if_pos h8];simp only [ahD];constructor
    ·intro e;cases e
    ·intro e;omega
   rw [if_neg h8];by_cases hty:ku a.1=false
   ·rw [if_pos hty];constructor
    ·intro e;cases e
    ·intro e;have:=e.2.1 a (by simp);rw [hty] at this;cases this
   rw [if_neg hty];by_cases hh:lH done a.1=true
   ·rw [if_pos hh];constructor
    ·intro e;cases e
    ·intro e;have:lH done a.1=false:=Z9.2 fun b hb=>e.2.2.1 b hb a (by simp)
     rw [hh] at this;cases this
   rw [if_neg hh,Us t (done++[a]) (by simp;omega)];simp only [Bool.not_eq_false] at hty;have hh2:=Z9.1 (by simpa using hh);simp only [ahy,ahD,ahZ,ahr,ahI,ahR,air,or_false,forall_eq_or_imp,List.pairwise_cons];constructor
   ·rintro ⟨e1,e2,e3,e4⟩;refine ⟨by omega,⟨hty,e2⟩,fun x hx=>⟨hh2 x hx,fun b hb=>e3 x (.inl hx) b hb⟩,fun b hb=>e3 a (.inr rfl) b hb,e4⟩
   ·rintro ⟨e1,⟨_,e2⟩,e3,e4,e5⟩;refine ⟨by omega,e2,?_,e5⟩;rintro x (hx|rfl) b hb
    ·exact (e3 x hx).2 b hb
    ·exact e4 b hb
theorem aaz {t:List UInt8} (h:ku t=true):ku (aH t)=true:=by
 simp only [ku,aht,ahC,decide_eq_true_eq] at h ⊢;obtain ⟨⟨⟨h1,h2⟩,h3⟩,h4⟩:=h;have hlet:∀ c:UInt8,oj (c.toNat:Int)=true->oj ((eJ c).toNat:Int)=true:=by
  intro c hc;have:=jN c;split at this
  ·rw [this];simp only [oj,aic,aht,decide_eq_true_eq] at hc ⊢;omega
  ·rw [this];exact hc
 refine ⟨⟨⟨by simpa [aH] using h1,by simpa [aH] using h2⟩,?_⟩,?_⟩
 ·rcases t with _|⟨c,t⟩
  ·simp at h1
  ·simpa [aH] using hlet c (by simpa using h3)
 ·intro c hc;obtain ⟨x,hx,rfl⟩:=ahs.1 hc;have:=h4 x hx;simp only [OJ,aic] at this ⊢;rcases this with (e|e)|e
  ·exact .inl (.inl (hlet x e))
  ·refine .inl (.inr ?_);simp only [aht,decide_eq_true_eq] at e ⊢;rw [jN,if_neg (by omega)];exact e
  ·refine .inr ?_;simp only [decide_eq_true_eq] at e ⊢;rw [jN,if_neg (by omega)];exact e
theorem TE (r:Rdn):(gG r).Perm (r.map uv):=by
 have:=(QE r [] List.Pairwise.nil).2
 rwa [ah3] at this
theorem aa1 (a:Ava):uv (uv a)=uv a:=by simp [uv,Uf,YF]
theorem WD {r:Rdn} (h:dl [] r=0):dl [] (gG r)=0:=by
 rw [Us _ _ (by simp)] at h ⊢;obtain ⟨h1,h2,_,h4⟩:=h;have hp:=TE r;refine ⟨by simpa [rF] using h1,fun a ha=>?_,fun a ha=>(by cases ha),?_⟩
 ·obtain ⟨b,hb,rfl⟩:=ahs.1 (hp.mem_iff.1 ha);exact aaz (h2 b hb)
 ·refine (hp.pairwise_iff (fun {a b} e=>Ne.symm e)).2 ?_;rw [List.pairwise_map];refine h4.imp fun {a b} e=>?_
  simpa [Dif,uv,Uf] using e
theorem Ut:∀ (d:List Rdn) (i:Nat),jH i d=0->jH i (gf d)=0
 | [],_,h=>h
 | r::d,i,h=>by
   unfold jH at h;show jH i (gG r::gf d)=0
   unfold jH;split at h
   ·cases h
   rename_i h32
   split at h
   ·cases h
   rename_i hr
   split at h
   ·rename_i h5;exact absurd h h5
   rename_i h5
   simp only [ne_eq,ajP] at h5;rw [if_neg h32,if_neg,if_neg (by simpa using WD h5),Ut d _ h];intro e;have:=congrArg List.length e;rw [rF] at this;exact hr (ahX.1 this)
def wtB (c:UInt8):Nat:=if c=0 then 3 else if c∈([34,43,44,59,60,62,92]:List UInt8) then 2 else 1
def wtS (s:List UInt8):Nat:=(s.map wtB).sum
theorem Zx (a b:List UInt8):wtS (a++b)=wtS a+wtS b:=by simp [wtS]
theorem afs:∀ c:UInt8,wtB (eJ c)=wtB c:=by
 intro c;by_cases h:65<=c.toNat/\c.toNat<=90
 ·have h2:=jN c;rw [if_pos h] at h2;have g:∀ x:UInt8,65<=x.toNat->x.toNat≠92->wtB x=1:=by
   intro x hx hn;unfold wtB;rw [if_neg (by rintro rfl;exact absurd hx (by decide)),if_neg];simp only [ahR,air,or_false];rintro (rfl|rfl|rfl|rfl|rfl|rfl|rfl)
   all_goals first|exact absurd hx (by decide)|exact absurd rfl hn
  rw [g c (by omega) (by omega),g _ (by omega) (by omega)]
 ·rw [Kz h]
theorem WU (s:List UInt8):wtS (aH s)=wtS s:=by
 simp only [wtS,aH,ahS];rw [show (wtB ∘ eJ)=wtB from funext afs]
theorem afw (i n:Nat) (c:UInt8):wtB c<=(wrB i n c).length:=by
 unfold wtB wrB;by_cases h0:c=0
 ·rw [if_pos h0,if_pos h0];simp
 ·rw [if_neg h0,if_neg h0];by_cases h7:c∈([34,43,44,59,60,62,92]:List UInt8)
  ·rw [if_pos h7,if_pos (.inr (.inr h7))];simp
  ·rw [if_neg h7];split<;>simp
theorem Yl (n:Nat):∀ (s:List UInt8) (i:Nat),wtS s<=(wrL n i s).length
 | [],_=>by simp [wtS]
 | c::s,i=>by
   have h1:=Yl n s (i+1);have h2:=afw i n c;simp only [wrL,ahy,wtS,ahH,aiD] at h1 ⊢;omega
theorem afy {i n:Nat} {c:UInt8} (hi:i≠0) (hc:c≠32):(wrB i n c).length=wtB c:=by
 unfold wtB wrB;by_cases h0:c=0
 ·rw [if_pos h0,if_pos h0];simp
 ·rw [if_neg h0,if_neg h0];by_cases h7:c∈([34,43,44,59,60,62,92]:List UInt8)
  ·rw [if_pos h7,if_pos (.inr (.inr h7))];simp
  ·rw [if_neg h7,if_neg];· simp
   rintro (e|e|e)
   ·exact hi e.1
   ·exact hc e.2
   ·exact h7 e
theorem afx {i n:Nat} (hi:i≠0) (hn:i+1≠n):(wrB i n 32).length=wtB 32:=by
 have e:wrB i n 32=[32]:=by
  unfold wrB;rw [if_neg (by decide),if_neg];rintro (e|e|e)
  ·exact hi e.1
  ·exact hn e.1
  ·exact absurd e (by decide)
 rw [e];decide
theorem abV (n:Nat):∀ (s:List UInt8) (i:Nat),i≠0->n=i+s.length->s.getLast?≠some 32->(wrL n i s).length=wtS s
 | [],_,_,_,_=>by simp [wrL,wtS]
 | c::s,i,hi,hn,hl=>by
   have h1:s.getLast?≠some 32:=by
    rcases s with _|⟨x,s⟩
    ·simp
    ·rwa [List.getLast?_cons_cons] at hl
   have ih:=abV n s (i+1) (by omega) (by simp at hn;omega) h1;have h2:(wrB i n c).length=wtB c:=by
    by_cases hc:c=32
    ·subst hc;refine afx hi fun e=>?_
     have:s=[]:=ahX.1 (by simp at hn;omega);subst this;exact hl rfl
    ·exact afy hi hc
   rw [wrL,ahy,ih,h2];simp [wtS]
theorem abT (s:List UInt8):wtS s<=(fY s).length:=Yl _ _ _
theorem Yj (s:List UInt8):wtS (35::s)+1<=(fY (35::s)).length:=by
 have h1:=Yl (s.length+1) s 1;have e:wrB 0 (s.length+1) 35=[92,35]:=by
  unfold wrB;rw [if_neg (by decide),if_pos (.inl ⟨rfl,.inr rfl⟩)]
 show _<=(wrB 0 (s.length+1) 35++wrL (s.length+1) 1 s).length
 rw [e];have:wtB 35=1:=by decide
 simp only [wtS,ahH,aiD,ahy,ahD,ahZ] at h1 ⊢;omega
theorem abS {c:UInt8} {s:List UInt8} (h1:c≠32) (h2:(c::s).getLast?≠some 32):(fY (c::s)).length=wtS (c::s)+(if c=35 then 1 else 0):=by
 have hs:s.getLast?≠some 32:=by
  rcases s with _|⟨x,s⟩
  ·simp
  ·rwa [List.getLast?_cons_cons] at h2
 have h3:=abV (s.length+1) s 1 (by omega) (by omega) hs;show (wrB 0 (s.length+1) c++wrL (s.length+1) 1 s).length=_
 rw [ahy,h3];have h4:(wrB 0 (s.length+1) c).length=wtB c+(if c=35 then 1 else 0):=by
  unfold wtB wrB;by_cases h0:c=0
  ·subst h0;rfl
  ·rw [if_neg h0,if_neg h0];by_cases h7:c∈([34,43,44,59,60,62,92]:List UInt8)
   ·rw [if_pos h7,if_pos (.inr (.inr h7)),if_neg]
    ·rfl
    ·rintro rfl;exact absurd h7 (by decide)
   ·rw [if_neg h7];by_cases h35:c=35
    ·rw [if_pos h35,if_pos (.inl ⟨rfl,.inr h35⟩)];rfl
    ·rw [if_neg h35,if_neg];· rfl
     rintro (e|e|e)
     ·rcases e.2 with e|e
      ·exact h1 e
      ·exact h35 e
     ·exact h1 e.2
     ·exact h7 e
 rw [h4];simp [wtS];omega
theorem adS (b:List UInt8) (c:UInt8):wtS (aP b c)<=wtS b+wtB c:=by
 unfold aP;split
 ·omega
 ·rw [Zx];simp [wtS]
theorem VX:∀ (s b:List UInt8),wtS (s.foldl aP b)<=wtS b+wtS s
 | [],b=>by simp [wtS]
 | c::s,b=>by
   have h1:=VX s (aP b c);have h2:=adS b c;simp only [aiO,wtS,ahH,aiD] at h1 h2 ⊢;omega
theorem Zw (b:List UInt8):wtS (du b)<=wtS b:=by
 rcases aji b with rfl|⟨d,c,rfl⟩
 ·simp [du]
 ·rw [ajQ,jS];split
  ·rw [Zx];omega
  ·omega
theorem Q1:∀ (s:List UInt8) (x:UInt8) (b:List UInt8),∃ t,s.foldl aP (x::b)=x::t
 | [],x,b=>⟨b,rfl⟩
 | c::s,x,b=>by
   rw [aiO,aP];split
   ·exact Q1 s x b
   ·exact Q1 s x (b++[c])
theorem adT (c:UInt8):1<=wtB c:=by
 unfold wtB;split
 ·omega
 ·split<;>omega
theorem YS (s:List UInt8):(bP s).getLast?≠some 32:=by
 have h:=QR (QT (aH s));have e:du (bP s)=bP s:=h.2;intro hl;rcases aji (bP s) with q|⟨d,c,q⟩
 ·rw [q] at hl;cases hl
 ·rw [q,ajQ] at e hl;rw [jS,if_pos (by simpa using hl)] at e;have:=congrArg List.length e;simp at this
theorem YZ {s:List UInt8} {c:UInt8} {t:List UInt8} (h:bP s=c::t):c≠32:=by
 have e:bQ (bP s)=bP s:=(QR (QT (aH s))).1;rw [h] at e;rintro rfl;have:=TC t;have e2:bQ (32::t)=t.foldl aP []:=rfl;rw [e2] at e;have:=congrArg List.length e;have h3:(t.foldl aP []).length<=t.length:=TC t;simp at this;omega
theorem aaq (s:List UInt8):(fY (bP s)).length<=(fY s).length:=by
 have hge:=abT s;have hw:wtS (bP s)<=wtS s:=by
  have h1:=Zw (bQ (aH s));have h2:=VX (aH s) [];have h3:=WU s;have h4:wtS (bQ (aH s))=wtS ((aH s).foldl aP []):=rfl;have h5:wtS ([]:List UInt8)=0:=rfl;show wtS (du (bQ (aH s)))<=_
  omega
 rcases hp:bP s with _|⟨c,t⟩
 ·simp [fY,wrL]
 have hl:=YS s;rw [hp] at hl hw;rw [abS (YZ hp) hl];split
 ·rename_i h35
  subst h35;rcases s with _|⟨x,s⟩
  ·have:bP []=[]:=rfl;rw [this] at hp;cases hp
  ·by_cases hx:x=35
   ·subst hx;have:=Yj s;omega
   ·by_cases hx2:x=32
    ·subst hx2;have e:bP (32::s)=bP s:=rfl;have h1:=Zw (bQ (aH s));have h2:=VX (aH s) [];have h3:=WU s;have h4:wtS (bQ (aH s))=wtS ((aH s).foldl aP []):=rfl;have h5:wtS ([]:List UInt8)=0:=rfl;have h6:wtS (bP s)=wtS (du (bQ (aH s))):=rfl;rw [e] at hp;rw [hp] at h6;have h7:wtS (32::s)=wtB 32+wtS s:=by simp [wtS]
     have h8:=adT 32;omega
    ·exfalso;have hlx:¬ (eJ x=32):=by
      intro q;have:=jN x;rw [q] at this;apply hx2;have:x.toNat=32:=by
       split at this
       ·have h9:(32:UInt8).toNat=32:=rfl;omega
       ·exact this.symm
      exact UInt8.toNat.inj this
     have hlx5:¬ (eJ x=35):=by
      intro q;have:=jN x;rw [q] at this;apply hx;have:x.toNat=35:=by
       split at this
       ·have h9:(35:UInt8).toNat=35:=rfl;omega
       ·exact this.symm
      exact UInt8.toNat.inj this
     have e1:aH (x::s)=eJ x::aH s:=rfl;obtain ⟨u,hu⟩:=Q1 (aH s) (eJ x) [];have e2:bQ (aH (x::s))=eJ x::u:=by
      rw [e1,<- hu];show (aH s).foldl aP (aP [] (eJ x))=_
      rw [aP,if_neg (fun q=>hlx q.1)];rfl
     have e3:du (eJ x::u)=35::t:=by
      rw [<- e2];exact hp
     rcases aji u with rfl|⟨d,y,rfl⟩
     ·have:du ([]++[eJ x])=[]++[eJ x]:=by rw [jS,if_neg hlx]
      rw [show [eJ x]=[]++[eJ x] from rfl,this] at e3;exact hlx5 (by simpa using congrArg List.head? e3)
     ·rw [ajQ,<- aig,jS] at e3;split at e3
      ·exact hlx5 (by simpa using congrArg List.head? e3)
      ·exact hlx5 (by simpa using congrArg List.head? e3)
 ·omega
theorem oi (xs:List (List UInt8)) (c:UInt8):(Lib.join xs [c]).length+1=(xs.map List.length).sum+xs.length+(if xs=[] then 1 else 0):=by
 rcases xs with _|⟨x,xs⟩
 ·simp [Lib.join]
 ·rw [TY,if_neg (by simp)];have:(xs.flatMap fun y=>[c]++y).length=(xs.map List.length).sum+xs.length:=by
   induction xs with
   | nil=>rfl
   | cons y l ih=>simp only [ahY,ahy,ih,ahH,aiD,ahD,ahZ];omega
  simp only [ahy,this,ahH,aiD,ahD];omega
theorem Ys {α:Type} {f g:α->Nat}:∀ l:List α,(∀ a∈l,f a<=g a)->(l.map f).sum<=(l.map g).sum
 | [],_=>ahn _
 | a::l,h=>by
   have h1:=Ys l fun x hx=>h x (by simp [hx])
   have h2:=h a (by simp);simp only [ahH,aiD];omega
theorem acK {l m:List Nat} (h:l.Perm m):l.sum=m.sum:=by
 induction h with
 | nil=>rfl
 | cons _ _ ih=>simp only [aiD,ih]
 | swap a b l=>simp only [aiD];omega
 | trans _ _ a b=>exact a.trans b
theorem W9 (r:Rdn):(cn true r).length<=(cn false r).length:=by
 have hs:(dR (r.map (avT true))).Perm (r.map (avT true)):=aiZ _ _;have h1:=oi (dR (r.map (avT true))) 43;have h2:=oi (r.map (avT false)) 43;have h3:((dR (r.map (avT true))).map List.length).sum=((r.map (avT true)).map List.length).sum:=acK (hs.map _);have h4:(dR (r.map (avT true))).length=r.length:=by rw [hs.length_eq];simp
 have h5:((r.map (avT true)).map List.length).sum<=((r.map (avT false)).map List.length).sum:=by
  rw [ahS,ahS];refine Ys r fun a _=>?_
  have:=aaq a.2;simp only [ai0,avT,if_true,ahJ,if_false,ahy,ahD,ahZ];simp only [aH,ahF];omega
 have h6:(if dR (r.map (avT true))=[] then 1 else 0)=(if r.map (avT false)=[] then 1 else 0):=by
  have:dR (r.map (avT true))=[]↔r.map (avT false)=[]:=by
   rw [<- ahX,<- ahX,h4];simp
  simp only [this]
 simp only [cn,if_true,ahJ,if_false];rw [h3,h4,h6] at h1;simp only [ahF] at h2;omega
theorem WY (d:List Rdn):(aQ true d).length<=(aQ false d).length:=by
 have h1:=oi (d.map (cn true)) 44;have h2:=oi (d.map (cn false)) 44;have h3:((d.map (cn true)).map List.length).sum<=((d.map (cn false)).map List.length).sum:=by
  rw [ahS,ahS];exact Ys d fun r _=>W9 r
 have h6:(if d.map (cn true)=[] then 1 else 0)=(if d.map (cn false)=[] then 1 else 0):=by
  simp only [akn]
 rw [h6] at h1;simp only [ahF] at h1 h2;unfold aQ;omega
theorem aaF {xs ys:List (List UInt8)} (h:xs.Perm ys):dR xs=dR ys:=by
 have hs:∀ zs:List (List UInt8),(dR zs).Pairwise fun x y=>x<=y:=fun zs=>by
  have:=akd (le:=fun x y:List UInt8=>decide (x<=y)) (fun a b c h1 h2=>by
   simp only [decide_eq_true_eq] at *;exact List.le_trans h1 h2) (fun a b=>by
   simp only [aic,decide_eq_true_eq];exact List.le_total a b) zs
  exact this.imp fun h=>by simpa using h
 refine akp (le:=fun x y=>x<=y) (fun a b _ _=>List.le_antisymm) (hs xs) (hs ys) ?_;exact (aiZ _ _).trans (h.trans (aiZ _ _).symm)
theorem Yx (r:Rdn):cn true (gG r)=cn true r:=by
 simp only [cn,if_true]
 congr 1
 refine aaF ?_;refine ((TE r).map _).trans ?_;rw [ahS];rw [show (avT true ∘ uv)=avT true from funext fun a=>by simp only [ai0,aah,aa1]]
end Go.Proofs.YtobihfefmlgaoaaGreat.Av
