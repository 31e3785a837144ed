/- Joined texts of the walk, made small by a program. -/
import Derived.Test.YtigifoeopopnbaaGreatDoorQk4
import Derived.Test.YtigifoeopopnbaaGreatDoorRows
import Derived.KernelRfl
import Derived.Test.YtigifoeopopnbaaGreatDoorQk9
import Derived.Test.YtigifoeopopnbaaGreatDoorQk6
import Derived.Test.YtigifoeopopnbaaGreatDoorQk10
set_option linter.unusedSimpArgs false
set_option linter.unusedVariables false
set_option maxRecDepth 100000
namespace Go.Proofs.YtigifoeopopnbaaGreatDoor.Av
open Go
def FV:LSO:=[Ag 2]
def FU:LSO:=[Aa 6 0,Ao 7 33 6,Aa 3 7]
def FT:LSO:=[Aa 8 3,Ax 9 8,AM 10 9 1,Aa 11 10,.grp none 11 true
 [Ae 12 11 3,og 13 11 true (.len true (tm 12)),og 14 11 true (.bin .leq (tm 13) (iv 32))]
 15 (tm 14),Aa 4 15]
def FS:LSO:=[Ab 5 0]
def FR:LSO:=[Aa 16 5,Aa 17 3,Ax 18 17,Ai 19 16 18,Aa 20 19,.grp none 20 true
 [Ae 21 20 4]
 22 (tm 21)]
def FQ:LSO:=[Aa 25 3,Aa 26 5,A9 27 25 26,
 o1 28 (.call 93 [(tm 27),(.av (.str [97,98,99,100,101,102,103,104,105,106,107,108,109,110,111,112,113,114,115,116,117,118,119,120,121,122]))]),Aa 29 28,.grp none 29 false
 [Al 30 29 5,AB 31 29 30 0,Al 32 29 31,.grp (some (29,false)) 32 true
 [Ae 33 32 3,Ae 34 32 5,Bc 35 32 33 34,og 36 32 true (.call 93 [(tm 35),(.av (.str [48,49,50,51,52,53,54,55,56,57,45]))])]
 37 (tm 36)]
 38 (tm 37),Aa 4 38]
def FP:LSO:=[Aa 23 5,Af 24 23 1,Aa 5 24]
def FO:LSO:=[Aa 39 4,Aa 2 39]
def uL:aV:=⟨40,(.seq (.sreg FV [])
 (.seq (.sreg FU Ck)
 (.seq (.sreg FT Co)
 (.seq (.seq (.sreg FS [])
 (.block 0 (.loop (.seq (.seq (.sreg FR Co)
 (.cond (tm 22) .skip
 (.exit 0)))
 (.seq (.block 1 (.sreg FQ Cq))
 (.sreg FP Ck))))))
 (.seq (.sreg FO Cj)
 .ret))))),[(.tmp 2)]⟩
attribute [push_cast] FV FU FT FS FR FQ FP FO
theorem PP:aX Tryz.prog (fun _ _=>1) 66=some uL.raw:=by kernel_rfl
def Mw:LSO:=[Ag 4]
def Mv:LSO:=[Ab 5 0]
def Mu:LSO:=[Aa 6 5,Aa 7 1,Ax 8 7,Ai 9 6 8]
def Mt:LSO:=[Aa 12 1,Aa 13 5,A9 14 12 13,Aa 15 0,A7 16 14 15]
def Mr:LSO:=[A0 4]
def Mq:LSO:=[Aa 10 5,Af 11 10 1,Aa 5 11]
def Mp:LSO:=[Ag 4]
def Lx:aV:=⟨17,(.seq (.sreg Mw [])
 (.seq (.seq (.sreg Mv [])
 (.block 0 (.loop (.seq (.seq (.sreg Mu Cl)
 (.cond (tm 9) .skip
 (.exit 0)))
 (.seq (.block 1 (.seq (.sreg Mt Cm)
 (.cond (tm 16) (.seq (.sreg Mr [])
 .ret)
 .skip)))
 (.sreg Mq Ck))))))
 (.seq (.sreg Mp [])
 .ret))),[(.tmp 4)]⟩
attribute [push_cast] Mw Mv Mu Mt Mr Mq Mp
theorem R4:aX Tryz.prog (fun _ _=>1) 93=some Lx.raw:=by kernel_rfl
def JH:LSO:=[Ag 4]
def JG:LSO:=[Aa 7 0,Ah 8 7,Ab 9 0]
def JF:LSO:=[Ai 10 9 8]
def JE:LSO:=[Aj 11 2 7 9,An 12 2 11,AF 6,Ap 2 6 12]
def JD:LSO:=[Ad 13 0 6,Ac 14 1 13,Ao 15 33 14,Aa 16 1,Ao 17 33 16,A7 18 15 17]
def JC:LSO:=[A0 4]
def JB:LSO:=[Af 19 9 1,Aa 9 19]
def JA:LSO:=[Ag 4]
def HS:aV:=⟨20,(.seq (.sreg JH [])
 (.seq (.seq (.sreg JG [])
 (.block 0 (.loop (.seq (.sreg JF [])
 (.seq (.cond (tm 10) .skip
 (.exit 0))
 (.seq (.block 1 (.seq (.sreg JE Ck)
 (.seq (.sreg JD Co)
 (.cond (tm 18) (.seq (.sreg JC [])
 .ret)
 .skip))))
 (.sreg JB Cj)))))))
 (.seq (.sreg JA [])
 .ret))),[(.tmp 4)]⟩
attribute [push_cast] JH JG JF JE JD JC JB JA
theorem Rv:aX Tryz.prog (fun _ _=>1) 109=some HS.raw:=by kernel_rfl
def yQ:LSO:=[Ak 2,Ab 3 0]
def yP:LSO:=[Aa 12 0,Ax 13 12,A6 14 13 4096]
def yO:LSO:=[Ak 2,Ab 3 5]
def yN:LSO:=[Ak 4]
def yM:LSO:=[Ab 5 0]
def yL:LSO:=[Aa 15 0,Ax 16 15,A6 17 16 0]
def yK:LSO:=[Ak 6]
def yJ:LSO:=[Aa 18 4,Ah 19 18,Au 20 19 32]
def yI:LSO:=[Ak 2,Ab 3 9]
def yH:LSO:=[Aa 21 6,Ah 22 21,Au 23 22 8]
def tw:LSO:=[Ak 2,Ab 3 9]
def tv:LSO:=[Aa 24 5,Aa 7 24]
def tu:LSO:=[Aa 25 7,Aa 26 0,Ax 27 26,Ai 28 25 27,Aa 29 28,.grp none 29 true
 [Ae 30 29 0,Ae 31 29 7,Bc 32 29 30 31,og 33 29 true (.bin .neq (tm 32) (.av (.int .u8 61)))]
 34 (tm 33)]
def tt:LSO:=[Aa 35 7,Af 36 35 1,Aa 7 36]
def tq:LSO:=[Aa 37 7,Aa 38 0,Ax 39 38,A7 40 37 39,Aa 41 40,.grp none 41 false
 [Al 42 41 0,Al 43 41 5,Al 44 41 7,og 45 41 false (.slS (tm 42) (some (tm 43)) (some (tm 44))),AY 46 41 66 45,Bg 47 41 46]
 48 (tm 47)]
def tn:LSO:=[Ak 2,Ab 3 4]
def tl:LSO:=[Aa 49 0,Aa 50 5,Aa 51 7,BX 52 49 50 51,o1 53 (.build [(.str []),(.str [])] [(0,(1,(tm 52)))]),AF 8,Ap 2 8 53]
def tj:LSO:=[Aa 54 6,Ad 55 0 8,Ac 56 1 55,Am 57 109 54 56]
def ti:LSO:=[Ak 2,Ab 3 21]
def th:LSO:=[Aa 59 0,Aa 60 7,Af 61 60 1,Am 62 110 59 61,Aa 58 62,Ar 63 58,As 64 58,Ba 65 58,Aa 9 63,Aa 10 64,Aa 11 65]
def tf:LSO:=[Aa 66 11,Aw 67 66]
def td:LSO:=[Ak 2,Ab 3 4]
def tc:LSO:=[Aa 68 9,Ad 69 1 8,Ap 1 69 68]
def ta:LSO:=[Aa 70 6,An 71 2 8,B5 72 71,B6 73 70 72,Aa 6 73]
def sZ:LSO:=[Aa 74 10,Aa 5 74]
def sY:LSO:=[Aa 75 5,Aa 76 0,Ax 77 76,A7 78 75 77,Aa 79 78,.grp none 79 false
 [Al 80 79 0,Al 81 79 5,Br 82 79 80 81,og 83 79 false (.bin .eql (tm 82) (.av (.int .u8 44)))]
 84 (tm 83)]
def sX:LSO:=[Aa 85 5,Af 86 85 1,Aa 5 86]
def sW:LSO:=[Aa 87 4,Aa 88 6,BK 89 88,BL 90 87 89,Aa 4 90]
def sV:LSO:=[Aa 91 5,Aa 92 0,Ax 93 92,A7 94 91 93]
def sU:LSO:=[Aa 95 4,Aa 2 95,Ab 3 0]
def sS:LSO:=[Aa 96 5,Af 97 96 1,Aa 5 97]
def sR:LSO:=[Ak 2,Ab 3 0]
def oZ:aV:=⟨98,(.seq (.sreg yQ [])
 (.seq (.seq (.sreg yP Ck)
 (.cond (tm 14) (.seq (.sreg yO [])
 .ret)
 .skip))
 (.seq (.sreg yN [])
 (.seq (.sreg yM [])
 (.seq (.block 0 (.loop (.seq (.seq (.sreg yL Ck)
 (.cond (tm 17) .skip
 (.exit 0)))
 (.block 1 (.seq (.sreg yK [])
 (.seq (.seq (.sreg yJ Ck)
 (.cond (tm 20) (.seq (.sreg yI [])
 .ret)
 .skip))
 (.seq (.block 2 (.loop (.block 3 (.seq (.seq (.sreg yH Ck)
 (.cond (tm 23) (.seq (.sreg tw [])
 .ret)
 .skip))
 (.seq (.sreg tv Cj)
 (.seq (.block 4 (.loop (.seq (.seq (.sreg tu Co)
 (.cond (tm 34) .skip
 (.exit 4)))
 (.block 5 (.sreg tt Ck)))))
 (.seq (.seq (.sreg tq Co)
 (.cond (tm 48) (.seq (.sreg tn [])
 .ret)
 .skip))
 (.seq (.sreg tl Co)
 (.seq (.seq (.sreg tj Cl)
 (.cond (tm 57) (.seq (.sreg ti [])
 .ret)
 .skip))
 (.seq (.sreg th CJ)
 (.seq (.seq (.sreg tf Cj)
 (.cond (tm 67) (.seq (.sreg td [])
 .ret)
 .skip))
 (.seq (.sreg tc CG)
 (.seq (.sreg ta Cm)
 (.seq (.sreg sZ Cj)
 (.seq (.seq (.sreg sY Co)
 (.cond (tm 84) (.exit 2)
 .skip))
 (.sreg sX Ck))))))))))))))))
 (.seq (.sreg sW Cm)
 (.seq (.seq (.sreg sV Cl)
 (.cond (tm 94) (.seq (.sreg sU Cp)
 .ret)
 .skip))
 (.sreg sS Ck))))))))))
 (.seq (.sreg sR [])
 .ret)))))),[(.tmp 2),(.tmp 3)]⟩
attribute [push_cast] yQ yP yO yN yM yL yK yJ yI yH tw tv tu tt tq tn tl tj ti th tf td tc ta sZ sY sX sW sV sU sS sR
theorem OD:aX Tryz.prog (fun _ _=>1) 90=some oZ.raw:=by kernel_rfl
def yf:LSO:=[Aq 4,Ab 5 0,Ag 6]
def ye:LSO:=[Ak 7]
def yd:LSO:=[A0 8]
def yc:LSO:=[Aa 13 1,Aa 14 0,Ax 15 14,Ai 16 13 15,Aa 17 16,.grp none 17 true
 [Ae 18 17 0,Ae 19 17 1,Bc 20 17 18 19,og 21 17 true (.bin .neq (tm 20) (.av (.int .u8 44)))]
 22 (tm 21),Aa 23 22,.grp none 23 true
 [Ae 24 23 0,Ae 25 23 1,Bc 26 23 24 25,og 27 23 true (.bin .neq (tm 26) (.av (.int .u8 43)))]
 28 (tm 27)]
def yb:LSO:=[Aa 29 0,Aa 30 1,A9 31 29 30,Aa 9 31]
def ya:LSO:=[Aa 32 1,Af 33 32 1,Aa 1 33]
def x9:LSO:=[Aa 34 1,Aa 35 0,Ax 36 35,A7 37 34 36,Aa 38 37,.grp none 38 false
 [Al 39 38 0,Al 40 38 1,Br 41 38 39 40,og 42 38 false (.bin .eql (tm 41) (.av (.int .u8 44)))]
 43 (tm 42),Aa 44 43,.grp none 44 false
 [Al 45 44 0,Al 46 44 1,Br 47 44 45 46,og 48 44 false (.bin .eql (tm 47) (.av (.int .u8 43)))]
 49 (tm 48),Aa 10 49]
def x8:LSO:=[Aa 50 9,o1 51 (.bin .eql (tm 50) (.av (.int .u8 92)))]
def x0:LSO:=[Aa 52 1,Aa 53 0,Ax 54 53,Ai 55 52 54,Aa 56 55,.grp none 56 true
 [Ae 57 56 0,Ae 58 56 1,Bc 59 56 57 58,og 60 56 true (.call 93 [(tm 59),(.av (.str [34,43,44,59,60,62,92,32,35,61]))])]
 61 (tm 60)]
def xZ:LSO:=[Aa 62 7,Aa 63 0,Aa 64 1,A9 65 63 64,AS 66 65,AI 67 62 66,Aa 7 67]
def sf:LSO:=[Aa 68 1,Af 69 68 1,Aa 1 69]
def se:LSO:=[Aa 70 1,Af 71 70 2,Aa 72 0,Ax 73 72,o1 74 (.bin .gtr (tm 71) (tm 73))]
def sd:LSO:=[Aq 4,Ab 5 0,Ag 6]
def sc:LSO:=[Aa 76 0,Aa 77 1,Aa 78 1,Af 79 78 2,BX 80 76 77 79,Ao 81 139 80,Aa 75 81,Ar 82 75,As 83 75,Aa 11 82,Aa 12 83]
def sa:LSO:=[Aa 84 12,Aw 85 84]
def rZ:LSO:=[Aq 4,Ab 5 0,Ag 6]
def rY:LSO:=[Aa 86 7,Aa 87 11,BG 88 87 0,AS 89 88,AI 90 86 89,Aa 7 90]
def rX:LSO:=[Aa 91 1,Af 92 91 2,Aa 1 92]
def rW:LSO:=[Aa 93 9,BJ 94 93,Aa 95 94,.grp none 95 false
 [Al 96 95 9,og 97 95 false (.call 93 [(tm 96),(.av (.str [34,59,60,62]))])]
 98 (tm 97),Aa 99 98,.grp none 99 false
 [Al 100 99 8,Al 101 99 100,.grp (some (99,false)) 101 true
 [Ae 102 101 9,og 103 101 true (.call 93 [(tm 102),(.av (.str [32,35]))])]
 104 (tm 103)]
 105 (tm 104),Aa 106 105,.grp none 106 false
 [Al 107 106 10,Al 108 106 107,.grp (some (106,false)) 108 true
 [Ae 109 108 9,Bv 110 108 109]
 111 (tm 110)]
 112 (tm 111)]
def rV:LSO:=[Aq 4,Ab 5 0,Ag 6]
def rU:LSO:=[Aa 113 7,Aa 114 9,AS 115 114,AI 116 113 115,Aa 7 116]
def rT:LSO:=[Ag 8]
def rS:LSO:=[Aa 117 7,AZ 118 117,Aa 119 1,Aa 4 118,Aa 5 119,A0 6]
def oW:aV:=⟨120,(.seq (.sreg yf [])
 (.seq (.sreg ye [])
 (.seq (.sreg yd [])
 (.seq (.block 0 (.loop (.seq (.seq (.sreg yc Cr)
 (.cond (tm 28) .skip
 (.exit 0)))
 (.block 1 (.seq (.sreg yb Cl)
 (.seq (.sreg ya Ck)
 (.seq (.sreg x9 Cx)
 (.seq (.seq (.sreg x8 Cj)
 (.cond (tm 51) (.seq (.sreg x0 Co)
 (.cond (tm 61) (.seq (.sreg xZ Cq)
 (.sreg sf Ck))
 (.seq (.seq (.sreg se Cm)
 (.cond (tm 74) (.seq (.sreg sd [])
 .ret)
 .skip))
 (.seq (.sreg sc [true,true,false,false,false,false,false,false,false,false,false])
 (.seq (.seq (.sreg sa Cj)
 (.cond (tm 85) (.seq (.sreg rZ [])
 .ret)
 .skip))
 (.seq (.sreg rY Co)
 (.sreg rX Ck)))))))
 (.seq (.seq (.sreg rW Cr)
 (.cond (tm 112) (.seq (.sreg rV [])
 .ret)
 .skip))
 (.sreg rU Cm))))
 (.sreg rT [])))))))))
 (.seq (.sreg rS [true,true,true,false,false,false])
 .ret))))),[(.tmp 4),(.tmp 5),(.tmp 6)]⟩
attribute [push_cast] yf ye yd yc yb ya x9 x8 x0 xZ sf se sd sc sa rZ rY rX rW rV rU rT rS
theorem OA:aX Tryz.prog (fun _ _=>1) 110=some oW.raw:=by kernel_rfl
def oj:LSO:=[Aq 2]
def oi:LSO:=[Ak 3]
def oh:LSO:=[Ab 4 0]
def oe:LSO:=[Aa 6 4,Aa 7 0,Ax 8 7,Ai 9 6 8]
def oc:LSO:=[Aa 12 0,Aa 13 4,A9 14 12 13,Aa 5 14]
def ob:LSO:=[Aa 15 5,BJ 16 15]
def oa:LSO:=[Aa 17 3,o1 18 (.app 1 1 1 [(.int .u8 0)] (tm 17) (.av (.str [92,48,48]))),Aa 3 18]
def n9:LSO:=[Aa 19 5,o1 20 (.call 93 [(tm 19),(.av (.str [34,43,44,59,60,62,92]))]),Aa 21 20,.grp none 21 false
 [Al 22 21 4,AK 23 21 22 0,Al 24 21 23,.grp (some (21,false)) 24 true
 [Ae 25 24 5,og 26 24 true (.call 93 [(tm 25),(.av (.str [32,35]))])]
 27 (tm 26)]
 28 (tm 27),Aa 29 28,.grp none 29 false
 [Al 30 29 4,og 31 29 false (.bin .add (tm 30) (iv 1)),Al 32 29 0,Bt 33 29 32,og 34 29 false (.bin .eql (tm 31) (tm 33)),Al 35 29 34,.grp (some (29,false)) 35 true
 [Ae 36 35 5,Bv 37 35 36]
 38 (tm 37)]
 39 (tm 38)]
def n8:LSO:=[Aa 40 3,o1 41 (.bslice false 1 1 [(.int .u8 0)] [(0,(1,(.av (.int .u8 92))))]),AI 42 40 41,Aa 3 42]
def n7:LSO:=[Aa 43 3,Aa 44 5,AS 45 44,AI 46 43 45,Aa 3 46]
def mg:LSO:=[Aa 10 4,Af 11 10 1,Aa 4 11]
def mf:LSO:=[Aa 47 3,AZ 48 47,Aa 2 48]
def kW:aV:=⟨49,(.seq (.sreg oj [])
 (.seq (.sreg oi [])
 (.seq (.seq (.sreg oh [])
 (.block 0 (.loop (.seq (.seq (.sreg oe Cl)
 (.cond (tm 9) .skip
 (.exit 0)))
 (.seq (.block 1 (.seq (.sreg oc Cl)
 (.seq (.seq (.sreg ob Cj)
 (.cond (tm 16) (.seq (.sreg oa Ck)
 (.exit 1))
 .skip))
 (.seq (.seq (.sreg n9 Co)
 (.cond (tm 39) (.sreg n8 Cl)
 .skip))
 (.sreg n7 Cm)))))
 (.sreg mg Ck))))))
 (.seq (.sreg mf Ck)
 .ret)))),[(.tmp 2)]⟩
attribute [push_cast] oj oi oh oe oc ob oa n9 n8 n7 mg mf
theorem Lw:aX Tryz.prog (fun _ _=>1) 140=some kW.raw:=by kernel_rfl
def FN:LSO:=[Aq 2]
def FM:LSO:=[Aq 3]
def FL:LSO:=[Aa 8 0,Ah 9 8,Ab 10 0]
def FK:LSO:=[Ai 11 10 9]
def FJ:LSO:=[Aa 12 10,Aj 13 1 8 10,Ac 14 1 13,Aa 4 12,Aa 5 14]
def FI:LSO:=[Aa 15 4,A6 16 15 0]
def FH:LSO:=[Aa 17 3,o1 18 (.bin .add (tm 17) (.av (.str [44]))),Aa 3 18]
def FG:LSO:=[Aa 19 5,Ah 20 19,Ab 21 0]
def FF:LSO:=[Ai 22 21 20]
def FE:LSO:=[Aa 23 21,Aj 24 2 19 21,An 25 2 24,AF 7,Aa 6 23,Ap 2 7 25]
def yl:LSO:=[Aa 26 6,A6 27 26 0]
def yk:LSO:=[Aa 28 3,o1 29 (.bin .add (tm 28) (.av (.str [43]))),Aa 3 29]
def yj:LSO:=[Aa 30 3,Ad 31 0 7,Ac 32 1 31,AC 33 30 32,o1 34 (.bin .add (tm 33) (.av (.str [61]))),Ad 35 1 7,Ac 36 1 35,Ao 37 140 36,AC 38 34 37,Aa 3 38]
def yi:LSO:=[Af 39 21 1,Aa 21 39]
def yh:LSO:=[Af 40 10 1,Aa 10 40]
def yg:LSO:=[Aa 41 3,Aa 2 41]
def uK:aV:=⟨42,(.seq (.sreg FN [])
 (.seq (.sreg FM [])
 (.seq (.seq (.sreg FL [])
 (.block 0 (.loop (.seq (.sreg FK [])
 (.seq (.cond (tm 11) .skip
 (.exit 0))
 (.seq (.block 1 (.seq (.sreg FJ Ct)
 (.seq (.seq (.sreg FI Cj)
 (.cond (tm 16) (.sreg FH Ck)
 .skip))
 (.seq (.sreg FG [])
 (.block 2 (.loop (.seq (.sreg FF [])
 (.seq (.cond (tm 22) .skip
 (.exit 2))
 (.seq (.block 3 (.seq (.sreg FE Ct)
 (.seq (.seq (.sreg yl Cj)
 (.cond (tm 27) (.sreg yk Ck)
 .skip))
 (.sdreg yj [.pure,.pure,(.read 0 0),.pure,.pure,.pure,(.read 0 0),(.read 0 0)] Cv))))
 (.sreg yi Cj))))))))))
 (.sreg yh Cj)))))))
 (.seq (.sreg yg Cj)
 .ret)))),[(.tmp 2)]⟩
attribute [push_cast] FN FM FL FK FJ FI FH FG FF FE yl yk yj yi yh yg
theorem PO:aX Tryz.prog (fun _ _=>1) 112=some uK.raw:=by kernel_rfl
def yG:LSO:=[Aq 2,Ab 3 0]
def yF:LSO:=[Ab 4 0]
def yE:LSO:=[Aa 9 0,Ah 10 9,Ab 11 0]
def yD:LSO:=[Ai 12 11 10]
def yC:LSO:=[Aa 13 11,Aj 14 1 9 11,Ac 15 1 14,Aa 5 13,Aa 6 15]
def yB:LSO:=[Aa 16 5,Au 17 16 32]
def yA:LSO:=[Aq 2,Ab 3 9]
def yz:LSO:=[Aa 18 6,Ah 19 18,Au 20 19 0]
def yy:LSO:=[Aq 2,Ab 3 2]
def yx:LSO:=[Aa 21 6,Ah 22 21,Ab 23 0]
def sQ:LSO:=[Ai 24 23 22]
def sP:LSO:=[Aa 25 23,Aj 26 2 21 23,An 27 2 26,AF 8,Aa 7 25,Ap 2 8 27]
def sO:LSO:=[Aa 28 7,Au 29 28 8]
def sN:LSO:=[Aq 2,Ab 3 9]
def sM:LSO:=[Ad 30 0 8,Ac 31 1 30,Ao 32 66 31,Aw 33 32]
def sL:LSO:=[Aq 2,Ab 3 20]
def sK:LSO:=[Aa 34 6,Aa 35 7,Bz 36 34 35,Ad 37 0 8,Ac 38 1 37,Am 39 109 36 38]
def sJ:LSO:=[Aq 2,Ab 3 21]
def sI:LSO:=[Aa 40 4,Ad 41 1 8,Ac 42 1 41,Ax 43 42,o1 44 (.minmax false [(tm 43),(iv 5000)]),AC 45 40 44,Aa 4 45]
def sH:LSO:=[Af 46 23 1,Aa 23 46]
def sG:LSO:=[Af 47 11 1,Aa 11 47]
def sF:LSO:=[Aa 48 4,A6 49 48 4096,Aa 50 49,.grp none 50 false
 [Al 51 50 0,AY 52 50 112 51,Bt 53 50 52,AB 54 50 53 4096]
 55 (tm 54)]
def sE:LSO:=[Aq 2,Ab 3 5]
def sD:LSO:=[Aa 56 0,Ao 57 112 56,Aa 2 57,Ab 3 0]
def oY:aV:=⟨58,(.seq (.sreg yG [])
 (.seq (.sreg yF [])
 (.seq (.seq (.sreg yE [])
 (.block 0 (.loop (.seq (.sreg yD [])
 (.seq (.cond (tm 12) .skip
 (.exit 0))
 (.seq (.block 1 (.seq (.sreg yC Ct)
 (.seq (.seq (.sreg yB Cj)
 (.cond (tm 17) (.seq (.sreg yA [])
 .ret)
 .skip))
 (.seq (.seq (.sreg yz Ck)
 (.cond (tm 20) (.seq (.sreg yy [])
 .ret)
 .skip))
 (.seq (.sreg yx [])
 (.block 2 (.loop (.seq (.sreg sQ [])
 (.seq (.cond (tm 24) .skip
 (.exit 2))
 (.seq (.block 3 (.seq (.sreg sP Ct)
 (.seq (.seq (.sreg sO Cj)
 (.cond (tm 29) (.seq (.sreg sN [])
 .ret)
 .skip))
 (.seq (.seq (.sreg sM Cl)
 (.cond (tm 33) (.seq (.sreg sL [])
 .ret)
 .skip))
 (.seq (.seq (.sdreg sK [.pure,.pure,(.read 0 0),.pure,(.read 0 0)] Co)
 (.cond (tm 39) (.seq (.sreg sJ [])
 .ret)
 .skip))
 (.sreg sI Cq))))))
 (.sreg sH Cj)))))))))))
 (.sreg sG Cj)))))))
 (.seq (.seq (.sreg sF Cl)
 (.cond (tm 55) (.seq (.sreg sE [])
 .ret)
 .skip))
 (.seq (.sreg sD Cw)
 .ret))))),[(.tmp 2),(.tmp 3)]⟩
attribute [push_cast] yG yF yE yD yC yB yA yz yy yx sQ sP sO sN sM sL sK sJ sI sH sG sF sE sD
theorem OC:aX Tryz.prog (fun _ _=>1) 111=some oY.raw:=by kernel_rfl
def yw:LSO:=[Ak 2]
def yv:LSO:=[Ak 3]
def yu:LSO:=[Aa 12 0,Ah 13 12,Ab 14 0]
def yt:LSO:=[Ai 15 14 13]
def yr:LSO:=[Aj 16 1 12 14,Ac 17 1 16,Aa 5 17]
def yq:LSO:=[Ak 6]
def yp:LSO:=[Aa 18 5,Ah 19 18,Ab 20 0]
def yo:LSO:=[Ai 21 20 19]
def yn:LSO:=[Aj 22 2 18 20,An 23 2 22,AF 8,Ap 2 8 23]
def ym:List (ak×Kd) :=
 [A5 24 0 8,A8 25 1 24 0 1,Bw 26 33 25 0 1,A5 27 1 8,A8 28 1 27 0 1,Bw 29 62 28 0 1,od 30 (.build [(.str []),(.str [])] [(0,(1,(tm 26))),(1,(1,(tm 29)))]) .pure,
 od 9 (.alloc [(.str []),(.str [])]) .eff]
def sg:List ak :=
 [⟨none,(.store 2 (tm 9) (tm 30)),none⟩]
def sB:LSO:=[Aa 31 6,Ah 32 31,Aa 10 32]
def sA:LSO:=[Aa 33 10,A6 34 33 0,Aa 35 34,.grp none 35 true
 [Ae 36 35 6,Ae 37 35 10,Cb 38 35 37 1,AU 39 35 2 36 38,A4 40 35 0 39,A3 41 35 1 40,og 42 35 true (.bin .add (tm 41) (.av (.str [61]))),Ae 43 35 6,Ae 44 35 10,Cb 45 35 44 1,
 AU 46 35 2 43 45,A4 47 35 1 46,A3 48 35 1 47,AN 49 35 140 48,og 50 35 true (.bin .add (tm 42) (tm 49)),A4 51 35 0 9,A3 52 35 1 51,
 og 53 35 true (.bin .add (tm 52) (.av (.str [61]))),A4 54 35 1 9,A3 55 35 1 54,AN 56 35 140 55,og 57 35 true (.bin .add (tm 53) (tm 56)),
 og 58 35 true (.bin .gtr (tm 50) (tm 57))]
 59 (tm 58)]
def sy:LSO:=[Aa 60 10,Bk 61 60 1,Aa 10 61]
def sx:LSO:=[Ak 11]
def sw:LSO:=[Aa 62 11,Aa 63 6,Aa 64 10,Bz 65 63 64,B6 66 62 65,Aa 11 66]
def sv:LSO:=[Aa 67 11,An 68 2 9,B5 69 68,B6 70 67 69,Aa 11 70]
def su:LSO:=[Aa 71 11,Aa 72 6,Aa 73 10,Bj 74 72 73,B6 75 71 74,Aa 11 75]
def sq:LSO:=[Aa 76 11,Aa 6 76]
def sn:LSO:=[Af 77 20 1,Aa 20 77]
def sj:LSO:=[Aa 78 3,Aa 79 6,BK 80 79,BL 81 78 80,Aa 3 81]
def si:LSO:=[Af 82 14 1,Aa 14 82]
def sh:LSO:=[Aa 83 3,Aa 2 83]
def oX:aV:=⟨84,(.seq (.sreg yw [])
 (.seq (.sreg yv [])
 (.seq (.seq (.sreg yu [])
 (.block 0 (.loop (.seq (.sreg yt [])
 (.seq (.cond (tm 15) .skip
 (.exit 0))
 (.seq (.block 1 (.seq (.sreg yr Ck)
 (.seq (.sreg yq [])
 (.seq (.seq (.sreg yp [])
 (.block 2 (.loop (.seq (.sreg yo [])
 (.seq (.cond (tm 21) .skip
 (.exit 2))
 (.seq (.block 3 (.seq (.sreg yn Ck)
 (.seq (.dregM ym sg Cr)
 (.seq (.sreg sB Ck)
 (.seq (.block 4 (.loop (.seq (.seq (.sdreg sA [.pure,.pure,.pure,.pure,.pure,.pure,(.read 0 0),.pure,(.read 0 0),.pure,.pure,.pure,.pure,(.read 0 0),.pure,(.read 0 0),(.read 0 0),.pure,.pure,(.read 0 0),.pure,.pure,(.read 0 0),(.read 0 0),.pure] Cl)
 (.cond (tm 59) .skip
 (.exit 4)))
 (.block 5 (.sreg sy Ck)))))
 (.seq (.sreg sx [])
 (.seq (.sreg sw Co)
 (.seq (.sreg sv Cm)
 (.seq (.sreg su Co)
 (.sreg sq Cj))))))))))
 (.sreg sn Cj)))))))
 (.sreg sj Cm)))))
 (.sreg si Cj)))))))
 (.seq (.sreg sh Cj)
 .ret)))),[(.tmp 2)]⟩
attribute [push_cast] yw yv yu yt yr yq yp yo yn ym sg sB sA sy sx sw sv su sq sn sj si sh
theorem OB:aX Tryz.prog (fun _ _=>1) 113=some oX.raw:=by kernel_rfl
def F0:LSO:=[Aq 2,Ab 3 0]
def FZ:LSO:=[Aa 7 0,Ao 8 111 7,Aa 6 8,Ar 9 6,As 10 6,Aa 4 9,Aa 5 10]
def FY:LSO:=[Aa 11 5,AH 12 11 0]
def FX:LSO:=[Aa 13 5,Aq 2,Aa 3 13]
def FW:LSO:=[Aa 14 0,Ao 15 113 14,Ao 16 112 15,Aa 2 16,Ab 3 0]
def uM:aV:=⟨17,(.seq (.sreg F0 [])
 (.seq (.sreg FZ Cq)
 (.seq (.seq (.sreg FY Cj)
 (.cond (tm 12) (.seq (.sreg FX Cp)
 .ret)
 .skip))
 (.seq (.sreg FW Ct)
 .ret)))),[(.tmp 2),(.tmp 3)]⟩
attribute [push_cast] F0 FZ FY FX FW
theorem PQ:aX Tryz.prog (fun _ _=>1) 91=some uM.raw:=by kernel_rfl
def JM:LSO:=[Aq 2,Ab 3 0]
def JL:LSO:=[Aa 7 0,Ao 8 90 7,Aa 6 8,Ar 9 6,As 10 6,Aa 4 9,Aa 5 10]
def JK:LSO:=[Aa 11 5,AH 12 11 0]
def JJ:LSO:=[Aa 13 5,Aq 2,Aa 3 13]
def JI:LSO:=[Aa 14 4,Ao 15 91 14,Ar 16 15,As 17 15,Aa 2 16,Aa 3 17]
def HT:aV:=⟨18,(.seq (.sreg JM [])
 (.seq (.sreg JL C4)
 (.seq (.seq (.sreg JK Cj)
 (.cond (tm 12) (.seq (.sreg JJ Cp)
 .ret)
 .skip))
 (.seq (.sreg JI C6)
 .ret)))),[(.tmp 2),(.tmp 3)]⟩
attribute [push_cast] JM JL JK JJ JI
theorem Rw:aX Tryz.prog (fun _ _=>1) 64=some HT.raw:=by kernel_rfl
attribute [push_cast] uL Lx HS oW kW uK oY oX uM HT
variable {L:List Blk} {K:aef}
set_option maxHeartbeats 8000000
set_option maxRecDepth 100000
theorem jM {l:List UInt8} {x:UInt8} (hn:l.length<=1100000) (h:K (.bool (l.contains x)) L) :
  aee 93 [.int .u8 x.toNat,.str l] L K:=by
 replace h:=hid h;refine aed R4 ?_;refine ai (fun n T' L'=>∃ (i:Nat),n=l.length - i/\i<=l.length/\Hid (∀ j,j<i->l.getD j 0≠x)/\T'=[(5,.int .i64 (i:Int)),(0,.int .u8 x.toNat),(1,.str l)]/\L=L') (CutS (b:=aeg _)) ⟨0,rfl,aej _,hid (by simp),rfl,rfl⟩ ?_;rintro _ _ _ ⟨i,rfl,hi,hno,rfl,rfl⟩;by_cases hlt:i<l.length
 ·have h1:(i:Int)<(l.length:Int):=by omega
  have h2:=aec i (by omega);obtain ⟨p,hp⟩:=aea (l.getD i 0);by_cases hpq:p=x
  ·have hc:l.contains x=true:=by
    rw [afw,<- hpq,<- hp,aew,aev hlt];exact afi _
   have h':=h.out;rw [hc] at h';replace h':=hid h';clear hc;subst hpq;refine wk ?_;exact ac h'.out
  ·have k1:¬ (p.toNat:Int)=(x.toNat:Int):=fun e=>hpq ((bo p x).1 e)
   have hp':=hid hp;refine wk ?_;refine ag _ _ _ (by omega) (CutS (b:=aeg _)) ⟨i+1,rfl,hlt,hid fun j hj=>?_,rfl,rfl⟩;rcases aer j i with e|e
   ·exact hno.out j e
   ·have:j=i:=by omega
    subst this;rw [hp];exact hpq
 ·have hke:i=l.length:=by omega
  subst hke;have h1:¬ (l.length:Int)<(l.length:Int):=by omega
  have hc:l.contains x=false:=by
   rw [<- afP,afw];intro hm;obtain ⟨j,hj,e⟩:=aeU.1 hm;exact hno.out j hj (by simp [hj,e])
  have h':=h.out;rw [hc] at h';replace h':=hid h';clear hc;refine wk ?_;exact ac h'.out
abbrev kE:List UInt8:=[97,98,99,100,101,102,103,104,105,106,107,108,109,110,111,112,113,114,115,116,117,118,119,120,121,122]
abbrev SP:List UInt8:=[48,49,50,51,52,53,54,55,56,57,45]
theorem abx:∀ n:_root_.Fin 256,kE.contains (kz (UInt8.ofNat n.val))=oG (n.val:Int)/\(kE.contains (kz (UInt8.ofNat n.val)) || SP.contains (kz (UInt8.ofNat n.val)))=N7 (n.val:Int):=by decide +kernel
theorem Tt (c:UInt8):kE.contains (kz c)=oG (c.toNat:Int)/\(kE.contains (kz c) || SP.contains (kz c))=N7 (c.toNat:Int):=by
 have:=abx ⟨c.toNat,c.toNat_lt⟩;simpa using this
def okC (j:Nat) (c:UInt8):Bool:=kE.contains (kz c) || (decide (0<j) && SP.contains (kz c))
theorem YS (s:List UInt8):il s=true↔(1<=s.length/\s.length<=32)/\∀ j,j<s.length->okC j (s.getD j 0)=true:=by
 simp only [il,aek,decide_eq_true_eq,ael];constructor
 ·rintro ⟨⟨⟨h1,h2⟩,h3⟩,h4⟩;refine ⟨⟨h1,h2⟩,fun j hj=>?_⟩;obtain ⟨e1,e2⟩:=Tt (s.getD j 0);by_cases h0:j=0
  ·subst h0;rw [okC,e1,h3];rfl
  ·have hm:s.getD j 0∈s:=by simp [hj]
   have:=h4 _ hm;rw [<- e2] at this;rw [okC,show decide (0<j)=true by simp;omega,ae7];exact this
 ·rintro ⟨⟨h1,h2⟩,h3⟩;refine ⟨⟨⟨h1,h2⟩,?_⟩,fun c hc=>?_⟩
  ·have:=h3 0 (by omega);rw [okC] at this;simp only [Nat.lt_irrefl,decide_false,afy,af4] at this;rw [<- (Tt _).1];exact this
  ·obtain ⟨j,hj,rfl⟩:=aeU.1 hc;have:=h3 j hj;have e:s.getD j 0=s[j]:=by simp [hj]
   rw [e,okC] at this;rw [<- (Tt _).2];cases hl:kE.contains (kz s[j]) with
   | true=>rfl
   | false =>
     rw [hl,afQ,aek] at this;rw [this.2];rfl
theorem L5 {s:List UInt8} (hs:(s.length:Int)<=140737488351232) (h:K (.bool (il s)) L):aee 66 [.str s] L K:=by
 replace h:=hid h;obtain ⟨t,ht⟩:=aea (aa s);have htl:t.length=s.length:=by rw [<- ht];simp [aa]
 have hg:∀ j,j<s.length->t.getD j 0=kz (s.getD j 0):=fun j hj=>by rw [<- ht];simp [aa,hj]
 replace htl:=hid htl;replace hg:=hid hg;have hit:=hid (YS s);refine aed PP ?_;refine bg hs ?_;rw [ht];refine sk ?_;refine wk ?_;refine ai (fun n T' L'=>∃ (i:Nat) (b:Bool),n=s.length+1 - i/\i<=s.length/\Hid (b=true↔(1<=s.length/\s.length<=32)/\∀ j,j<i->okC j (s.getD j 0)=true)/\T'=[(5,.int .i64 (i:Int)),(4,.bool b),(3,.str t)]/\L=L') (CutS (b:=aeg _)) ⟨0,_,rfl,aej _,hid (by have:=htl.out;simp;omega),rfl,rfl⟩ ?_;rintro _ _ _ ⟨i,b,rfl,hi,hb,rfl,rfl⟩;have htl':=htl.out;by_cases hlt:i<s.length
 ·have g1:(i:Int)<(t.length:Int):=by omega
  have g2:=aec i (by omega);have g3:=hg.out i hlt;obtain ⟨c,hc⟩:=aea (s.getD i 0);rw [hc] at g3;replace hc:=hid hc;clear htl';cases b with
  | false =>
    have hf:il s=false:=by
     rw [<- afP,hit.out];intro ⟨q1,q2⟩;have:=hb.out.2 ⟨q1,fun j hj=>q2 j (by omega)⟩;cases this
    have h':=h.out;rw [hf] at h';replace h':=hid h';clear hf;refine wk ?_;exact ac h'.out
  | true =>
    have hnext:okC i c=true↔((1<=s.length/\s.length<=32)/\∀ j,j<i+1->okC j (s.getD j 0)=true):=by
     have hb1:=hb.out.1 rfl;constructor
     ·intro e;refine ⟨hb1.1,fun j hj=>?_⟩;rcases aer j i with q|q
      ·exact hb1.2 j q
      ·have:j=i:=by omega
       subst this;rw [hc.out];exact e
     ·rintro ⟨_,e⟩;have:=e i (by omega)
      rwa [hc.out] at this
    replace hnext:=hid hnext;have hok:okC i c=(kE.contains (kz c) || (decide (0<i) && SP.contains (kz c))):=rfl;replace hok:=hid hok;refine wk ?_;refine jM (by simp) ?_;cases hl:kE.contains (kz c) with
    | true =>
      have hk:=hid (show okC i c=true by rw [hok.out,hl];rfl);refine sk ?_;refine wk ?_;exact ag _ _ _ (by omega) (CutL (b:=aeg _)) ⟨i+1,true,rfl,hlt,hid (by rw [<- hnext.out,hk.out]),rfl,rfl⟩
    | false =>
      by_cases h0:i=0
      ·have hk:=hid (show okC i c=false by rw [hok.out,hl,h0];rfl);have k0:¬ (0:Int)<(i:Int):=by omega
       clear h0;refine sk ?_;refine wk ?_;exact ag _ _ _ (by omega) (CutL (b:=aeg _)) ⟨i+1,false,rfl,hlt,hid (by rw [<- hnext.out,hk.out]),rfl,rfl⟩
      ·have hk:=hid (show okC i c=SP.contains (kz c) by rw [hok.out,hl,show decide (0<i)=true by simp;omega];simp);have k0:(0:Int)<(i:Int):=by omega
       clear h0;refine sk ?_
       repeat' first
        | refine aY ?_
        | (first|refine aO (by kernel_rfl) ?_|refine aA (by kernel_rfl) ?_|refine aB ?_|refine bw ?_|refine a6 (fun _=>?_)|refine ax ?_|refine aR ?_)
          refine sm ?_
        | (first|refine aK (by kernel_rfl) ?_|refine aP ?_|refine aQ ?_|refine bd (aw ?_))
          refine sl ?_
        | exact a7
        | first|apply a8|apply aL|apply ba|apply aM|apply bc|apply aN
        | refine aE ?_
        | first|refine aC rfl ?_|refine aD rfl ?_|refine ap rfl ?_ ?_|refine aG rfl (fun _=>?_) (fun _=>?_)|refine aF rfl (fun _=>?_) (fun _=>?_)
        | ((first|refine ao (fun _=>?_) (fun _=>?_)|refine au (fun _=>?_) (fun _=>?_))<;>try refine sm ?_)
        | refine And.intro trivial ?_
        | refine And.intro (by omega) ?_
        | refine aI rfl (fun _=>?_) (fun _=>?_)
        | refine And.intro ?_ ?_
       refine aS (jM (by simp) ⟨rfl,rfl⟩) ?_;simp only [Kon,push_cast,reduceIte,Nat.reduceEqDiff,Nat.reduceAdd,Nat.reduceMul,Nat.reduceSub,Nat.reduceLT,Nat.reduceLeDiff,Int.reduceLT,Int.reduceLE,Int.reduceAdd,Int.reduceSub,Int.reduceNeg,Int.reduceToNat,Int.reduceEq,reduceCtorEq, *]
       repeat' first
        | refine aY ?_
        | (first|refine aO (by kernel_rfl) ?_|refine aA (by kernel_rfl) ?_|refine aB ?_|refine bw ?_|refine a6 (fun _=>?_)|refine ax ?_|refine aR ?_)
          refine sm ?_
        | (first|refine aK (by kernel_rfl) ?_|refine aP ?_|refine aQ ?_|refine bd (aw ?_))
          refine sl ?_
        | exact a7
        | first|apply a8|apply aL|apply ba|apply aM|apply bc|apply aN
        | refine aE ?_
        | first|refine aC rfl ?_|refine aD rfl ?_|refine ap rfl ?_ ?_|refine aG rfl (fun _=>?_) (fun _=>?_)|refine aF rfl (fun _=>?_) (fun _=>?_)
        | ((first|refine ao (fun _=>?_) (fun _=>?_)|refine au (fun _=>?_) (fun _=>?_))<;>try refine sm ?_)
        | refine And.intro trivial ?_
        | refine And.intro (by omega) ?_
        | refine aI rfl (fun _=>?_) (fun _=>?_)
        | refine And.intro ?_ ?_
       exact ag _ _ _ (by omega) (CutL (b:=aeg _)) ⟨i+1,SP.contains (kz c),rfl,hlt,hid (by rw [<- hnext.out,hk.out]),rfl,rfl⟩
 ·have hke:i=s.length:=by omega
  subst hke;have g1:¬ (s.length:Int)<(t.length:Int):=by omega
  have hfin:b=il s:=by
   have e:=hb.out.trans hit.out.symm;cases b<;>cases hs':il s<;>simp_all
  have h':=h.out;rw [<- hfin] at h';replace h':=hid h';clear hfin;clear htl';refine wk ?_;exact ac h'.out
theorem WQ {s:List UInt8} (hs:(s.length:Int)<=100000) (h:K (.bool (il s)) L):aee 66 [.str s] L K:=L5 (by omega) h
theorem Za {r:List Ava} {typ:List UInt8} {cap:Option Nat} (hn:r.length<=100000) (h1:∀ a∈r,(a.1.length:Int)<=100000) (h2:(typ.length:Int)<=100000) (h:K (.bool (lN r typ)) L) :
  aee 109 [VI r cap,.str typ] L K:=by
 replace h:=hid h;replace h1:=hid h1;refine aed Rv ?_;refine ai (fun n T' L'=>∃ (k:Nat) (Z:List Blk),n=r.length - k/\k<=r.length/\Hid (lN (r.take k) typ=false)/\T'=[(9,.int .i64 (k:Int)),(8,.int .i64 r.length),(7,VI r cap),(1,.str typ)]/\L'=L++Z) (CutS (b:=by simp)) ⟨0,[],rfl,aej _,hid rfl,rfl,by simp⟩ ?_;rintro _ _ _ ⟨k,Z,rfl,hk,hf,rfl,rfl⟩;by_cases hlt:k<r.length
 ·have g1:(k:Int)<(r.length:Int):=by omega
  have g2:=aec k (by omega);have e1:=dc hlt;have e2:k * 2+2<=(aH r).length:=by rw [bW];omega
  obtain ⟨⟨ty,va⟩,ha⟩:∃ a,r.getD k ([],[])=a:=⟨_,rfl⟩;have ham:(ty,va)∈r:=by rw [<- ha];simp [hlt]
  have htk:r.take (k+1)=r.take k++[(ty,va)]:=by rw [aeL hlt,<- ha];simp [hlt]
  rw [ha] at e1;simp only [gf] at e1;have hs:lN (r.take (k+1)) typ=decide (aa ty=aa typ):=by
   have:=hf.out;simp only [lN] at this ⊢;rw [htk,agX,this];simp
  have ha1:=h1.out _ ham;simp only at ha1;have hall:aa ty=aa typ->lN r typ=true:=fun e=>afL.2 ⟨_,ham,by simpa using e⟩
  replace hall:=hid hall;replace hs:=hid hs;clear ha ham htk;by_cases hq:aa ty=aa typ
  ·have h':=h.out;rw [hall.out hq] at h';replace h':=hid h';have kk1:=@hid _ (fun L K=>jE ha1 (L:=L) (K:=K));have kk2:=@hid _ (fun L K=>jE h2 (L:=L) (K:=K));refine wk ?_;exact ab rfl h'.out
  ·have kk1:=@hid _ (fun L K=>jE ha1 (L:=L) (K:=K));have kk2:=@hid _ (fun L K=>jE h2 (L:=L) (K:=K));refine wk ?_;exact ag _ _ _ (by omega) (CutL (b:=by simp)) ⟨k+1,_,rfl,hlt,hid (by rw [hs.out];simpa using hq),rfl,rfl⟩
 ·have hke:k=r.length:=by omega
  subst hke;have g1:¬ (r.length:Int)<(r.length:Int):=by omega
  have hn':=hf.out;rw [aeE] at hn';have h':=h.out;rw [hn'] at h';replace h':=hid h';clear hn';refine wk ?_;exact ab rfl h'.out
theorem jo {s:List UInt8} (hs:s.length<=100000) (h:K (.str (iL s)) L):aee 140 [.str s] L K:=by
 replace h:=hid h;refine aed Lw ?_;refine cz (l:=[]) (n:=0) 3 1 rfl (aeX 1).symm ?_;refine ai (fun n T' L'=>∃ (i m:Nat) (b:List UInt8),n=s.length - i/\i<=s.length/\m<=3 * i/\Hid (m=b.length/\b++wrL s.length i (s.drop i)=iL s)/\T'=[(4,.int .i64 (i:Int)),(3,.gsl (u8s b) m L.length 1),(0,.str s)]/\L'=L++[.spare m 1]) (CutS (b:=by simp)) ⟨0,0,[],rfl,aej _,by omega,hid ⟨rfl,rfl⟩,rfl,rfl⟩ ?_;rintro _ _ _ ⟨i,m,b,rfl,hi,hm,hb,rfl,rfl⟩;by_cases hlt:i<s.length
 ·have g1:(i:Int)<(s.length:Int):=by omega
  have g2:=aec i (by omega);obtain ⟨c,hc⟩:=aea (s.getD i 0);have hdr:=jm hlt;rw [hc] at hdr;have hb2:=hb.out.2;rw [hdr] at hb2;simp only [wrL] at hb2;clear hdr;replace hb2:=hid hb2;obtain ⟨p1,hp1⟩:=aea (([34,43,44,59,60,62,92]:List UInt8).contains c);obtain ⟨p2,hp2⟩:=aea (([32,35]:List UInt8).contains c);have hq1:p1=true↔c∈([34,43,44,59,60,62,92]:List UInt8):=by rw [<- hp1,afw]
  have hq2:p2=true↔(c=32\/c=35):=by rw [<- hp2,afw];simp
  replace hq1:=hid hq1;replace hq2:=hid hq2
  repeat' first
   | refine aY ?_
   | (first|refine aO (by kernel_rfl) ?_|refine aA (by kernel_rfl) ?_|refine aB ?_|refine bw ?_|refine a6 (fun _=>?_)|refine ax ?_|refine aR ?_|refine jM (by simp) ?_|refine bj (jM (by simp) ⟨rfl,rfl⟩) (jM (by simp) ⟨rfl,rfl⟩) ?_|refine aS (jM (by simp) ⟨rfl,rfl⟩) ?_)
     refine sm ?_
   | (first|refine aK (by kernel_rfl) ?_|refine aP ?_|refine aQ ?_|refine bd (aw ?_))
     refine sl ?_
   | exact a7
   | first|apply a8|apply aL|apply ba|apply aM|apply bc|apply aN
   | refine aE ?_
   | first|refine aC rfl ?_|refine aD rfl ?_|refine ap rfl ?_ ?_|refine aG rfl (fun _=>?_) (fun _=>?_)|refine aF rfl (fun _=>?_) (fun _=>?_)
   | ((first|refine ao (fun _=>?_) (fun _=>?_)|refine au (fun _=>?_) (fun _=>?_))<;>try refine sm ?_)
   | refine And.intro trivial ?_
   | refine And.intro (by omega) ?_
   | refine aI rfl (fun _=>?_) (fun _=>?_)
   | refine And.intro ?_ ?_
  ·rfl
  ·omega
  ·rename_i h0
   have hc0:=(bo c 0).1 h0;rw [show u8s b++AV.frzL (u8s [92,48,48])=u8s (b++[92,48,48]) by simp [u8s,AV.frzL,AV.frz]];refine ag _ _ _ (by omega) (CutL (b:=by simp)) ⟨i+1,m+3,b++[92,48,48],rfl,hlt,by omega,hid ⟨by simp [hb.out.1],?_⟩,rfl,rfl⟩;rw [<- hb2.out,wrB,if_pos hc0,aeu]
  ·rename_i h0 h1
   have hc0:¬ c=0:=fun e=>h0 ((bo c 0).2 e)
   have hq:(i=0/\(c=32\/c=35))\/(i+1=s.length/\c=32)\/c∈[34,43,44,59,60,62,92]:=by
    simp only [ae6,aek,decide_eq_true_eq] at h1;rcases h1 with (e|⟨e1,e2⟩)|⟨e1,e2⟩
    ·exact .inr (.inr (hq1.out.1 e))
    ·exact .inl ⟨by omega,hq2.out.1 e2⟩
    ·exact .inr (.inl ⟨by omega,(bo c 32).1 e2⟩)
   rw [show u8s b++[AV.int IntKind.u8 92,AV.int IntKind.u8 (c.toNat:Int)]=u8s (b++[92,c]) by simp [u8s]];refine ag _ _ _ (by omega) (CutL (b:=by simp)) ⟨i+1,m+1+1,b++[92,c],rfl,hlt,by omega,hid ⟨by simp [hb.out.1],?_⟩,rfl,rfl⟩;rw [<- hb2.out,wrB,if_neg hc0,if_pos hq,aeu]
  ·rename_i h0 h1
   have hc0:¬ c=0:=fun e=>h0 ((bo c 0).2 e)
   have hq:¬ ((i=0/\(c=32\/c=35))\/(i+1=s.length/\c=32)\/c∈[34,43,44,59,60,62,92]):=fun hq=>by
    rw [<- afP] at h1;refine h1 ?_;simp only [ae6,aek,decide_eq_true_eq];rcases hq with ⟨e1,e2⟩|⟨e1,e2⟩|e
    ·exact .inl (.inr ⟨by omega,hq2.out.2 e2⟩)
    ·exact .inr ⟨by omega,(bo c 32).2 e2⟩
    ·exact .inl (.inl (hq1.out.2 e))
   rw [show u8s b++[AV.int IntKind.u8 (c.toNat:Int)]=u8s (b++[c]) by simp [u8s]];refine ag _ _ _ (by omega) (CutL (b:=by simp)) ⟨i+1,m+1,b++[c],rfl,hlt,by omega,hid ⟨by simp [hb.out.1],?_⟩,rfl,rfl⟩;rw [<- hb2.out,wrB,if_neg hc0,if_neg hq,aeu]
 ·have hke:i=s.length:=by omega
  subst hke;have g1:¬ (s.length:Int)<(s.length:Int):=by omega
  have e1:=ij b;have e2:=gF b;have e:=hb.out.2;rw [aeC,wrL,aeJ] at e;have h':=h.out;rw [<- e] at h';replace h':=hid h';clear e;refine wk ?_;exact ab rfl h'.out
def Yi (n:Nat):Nat:=if n<10 then 48+n else 87+n
theorem DL {n:Nat} (hn:n<16) (h:K (.int .u8 (Yi n:Nat)) L):aee 166 [.int .u8 n] L K:=by
 unfold Yi at h;refine af OE (by simp [o3]) ?_;simp only [o3,aq];by_cases h1:n<10
 ·rw [if_pos h1] at h;replace h:=hid h;have k1:(n:Int)<10:=by omega
  have k2:IntKind.u8.wrap (48+(n:Int))=48+(n:Int):=cx (by omega) (by omega);clear h1;refine wk ?_;refine ac ?_;simpa using h.out
 ·rw [if_neg h1] at h;replace h:=hid h;have k1:¬ (n:Int)<10:=by omega
  have k2:IntKind.u8.wrap (97+(n:Int))=97+(n:Int):=cx (by omega) (by omega);have k3:IntKind.u8.wrap (97+(n:Int) - 10)=97+(n:Int) - 10:=cx (by omega) (by omega);clear h1;refine wk ?_;refine ac ?_;have:=h.out
  rwa [show ((87+n:Nat):Int)=97+(n:Int) - 10 by omega] at this
theorem abG:∀ (a:_root_.Fin 256) (x:_root_.Fin 16),(Yi x.val=(kz (UInt8.ofNat a.val)).toNat)↔iy (UInt8.ofNat a.val)=some x.val:=by decide +kernel
theorem adP {a:UInt8} {x:Nat} (hx:x<16):((Yi x:Nat):Int)=((kz a).toNat:Int)↔iy a=some x:=by
 have:=abG ⟨a.toNat,a.toNat_lt⟩ ⟨x,hx⟩;simp only [UInt8.ofNat_toNat] at this;rw [<- this];omega
def V5 (a b:UInt8) (k:Nat):Prop:=iy a=some (k / 16)/\iy b=some (k % 16)
theorem XY {a b:UInt8} {k:Nat} (h:V5 a b k):NI a b=some (UInt8.ofNat k):=by
 obtain ⟨h1,h2⟩:=h;simp only [NI,h1,h2]
 congr 2;omega
theorem XZ {a b:UInt8} (h:∀ j,j<256->¬ V5 a b j):NI a b=none:=by
 unfold NI;rcases h1:iy a with _|x
 ·rfl
 ·rcases h2:iy b with _|y
  ·rfl
  ·have:=Ih h1;have:=Ih h2;exact absurd ⟨by rw [h1];congr 1;omega,by rw [h2];congr 1;omega⟩ (h (16 * x+y) (by omega))
theorem XA {a b:UInt8} (h:K (Lj a b) L):aee 139 [.str [a,b]] L K:=by
 obtain ⟨p,hp⟩:=aea (kz a);obtain ⟨q,hq⟩:=aea (kz b);have hf:aa [a,b]=[p,q]:=by simp [aa,hp,hq]
 have hl:[p,q].length=2:=rfl;have hl':[a,b].length=2:=rfl;have ha:[p,q].getD 0 0=p:=rfl;have hb:[p,q].getD 1 0=q:=rfl;have d1:Int.tmod 2 2=0:=by decide
 replace h:=hid h;refine aed OF ?_;refine jE (by simp) ?_;rw [hf];refine sk ?_;refine wk ?_;refine cz (l:=[]) (n:=0) 4 1 rfl (aeX 1).symm ?_;refine ai (fun n T' L'=>(n=1/\T'=[(6,.int .i64 0),(4,.gsl [] 0 L.length 1),(5,.str [p,q]),(0,.str [a,b])]/\L'=L++[.spare 0 1])\/(n=0/\∃ (x:UInt8) (w:List AV),Hid (NI a b=some x/\w=u8s [x])/\T'=[(6,.int .i64 2),(4,.gsl w 1 L.length 1),(5,.str [p,q]),(0,.str [a,b])]/\L'=L++[.spare 1 1])) (n0:=1) (T0:=[(6,.int .i64 0),(4,.gsl [] 0 L.length 1),(5,.str [p,q]),(0,.str [a,b])]) (L0:=L++[.spare 0 1]) (CutS (b:=by simp)) (.inl ⟨rfl,rfl,rfl⟩) ?_;rintro _ _ _ (⟨rfl,rfl,rfl⟩|⟨rfl,x,w,hx,rfl,rfl⟩)
 ·refine wk ?_;refine ai (fun n T' L'=>(∃ k:Nat,n=257 - k/\k<=256/\Hid (∀ j,j<k->¬ V5 a b j)/\T'=[(8,.int .i64 (k:Int)),(7,.bool false),(6,.int .i64 0),(4,.gsl [] 0 L.length 1),(5,.str [p,q]),(0,.str [a,b])]/\L'=L++[.spare 0 1])\/(n=0/\∃ (x:UInt8) (k:Nat) (w:List AV),k<=256/\Hid (NI a b=some x/\w=u8s [x])/\T'=[(8,.int .i64 (k:Int)),(7,.bool true),(6,.int .i64 0),(4,.gsl w 1 L.length 1),(5,.str [p,q]),(0,.str [a,b])]/\L'=L++[.spare 1 1])) (n0:=257) (T0:=[(8,.int .i64 0),(7,.bool false),(6,.int .i64 0),(4,.gsl [] 0 L.length 1),(5,.str [p,q]),(0,.str [a,b])]) (L0:=L++[.spare 0 1]) (CutS (b:=by simp)) (.inl ⟨0,rfl,by omega,hid (by simp),rfl,rfl⟩) ?_;rintro _ _ _ (⟨k,rfl,hk,hno,rfl,rfl⟩|⟨rfl,x,k,w,hk,hx,rfl,rfl⟩)
  ·by_cases hlt:k<256
   ·have g1:(k:Int)<256:=by omega
    have g2:=aec k (by omega);have g3:IntKind.u8.wrap (k:Int)=(k:Int):=cx (by omega) (by omega);obtain ⟨u,hu⟩:=aea (k / 16);obtain ⟨v,hv⟩:=aea (k % 16);have hu16:u<16:=by omega
    have hv16:v<16:=by omega
    have g4:IntKind.i64.wrap (Int.tdiv (k:Int) 16)=(u:Int):=by
     rw [Int.tdiv_eq_ediv_of_nonneg (by omega),ad (by omega) (by omega)];omega
    have g5:IntKind.u8.wrap (u:Int)=(u:Int):=cx (by omega) (by omega);have g6:Int.tmod (k:Int) 16=(v:Int):=by
     rw [agd (by omega)];omega
    have g7:IntKind.u8.wrap (v:Int)=(v:Int):=cx (by omega) (by omega);have m1:=adP (a:=a) hu16;have m2:=adP (a:=b) hv16;rw [hp] at m1;rw [hq] at m2;have mk:V5 a b k↔iy a=some u/\iy b=some v:=by unfold V5;rw [hu,hv]
    replace hu:=hid hu;replace hv:=hid hv;replace mk:=hid mk;have nxt:=hid fun (e:¬ V5 a b k)=>show ∀ j,j<k+1->¬ V5 a b j from fun j hj=>by
     rcases aer j k with e'|e'
     ·exact hno.out j e'
     ·rw [show j=k by omega];exact e
    by_cases h1:iy a=some u
    ·have k1:=m1.2 h1;by_cases h2:iy b=some v
     ·have k2:=m2.2 h2;have hx:=XY (mk.out.2 ⟨h1,h2⟩);have hkk:((UInt8.ofNat k).toNat:Int)=(k:Int):=by simp;omega
      replace hkk:=hid hkk;replace hx:=hid hx;clear m1 m2 h1 h2;have kk1:=@hid _ (fun L K=>DL hu16 (L:=L) (K:=K));have kk2:=@hid _ (fun L K=>DL hv16 (L:=L) (K:=K));refine wk ?_;refine ag _ _ _ (by omega) (CutL (b:=by simp)) (.inr ⟨rfl,UInt8.ofNat k,k+1,_,by omega,hid ⟨hx.out,?_⟩,rfl,rfl⟩);simp only [u8s,List.map,hkk.out]
     ·have k2:¬ ((Yi v:Nat):Int)=(q.toNat:Int):=fun e=>h2 (m2.1 e)
      have hn:=hid (nxt.out fun e=>h2 (mk.out.1 e).2);clear m1 m2 h1 h2;have kk1:=@hid _ (fun L K=>DL hu16 (L:=L) (K:=K));have kk2:=@hid _ (fun L K=>DL hv16 (L:=L) (K:=K));refine wk ?_;exact ag _ _ _ (by omega) (CutL (b:=by simp)) (.inl ⟨k+1,rfl,by omega,hn,rfl,rfl⟩)
    ·have k1:¬ ((Yi u:Nat):Int)=(p.toNat:Int):=fun e=>h1 (m1.1 e)
     have hn:=hid (nxt.out fun e=>h1 (mk.out.1 e).1);clear m1 m2 h1;have kk1:=@hid _ (fun L K=>DL hu16 (L:=L) (K:=K));refine wk ?_;exact ag _ _ _ (by omega) (CutL (b:=by simp)) (.inl ⟨k+1,rfl,by omega,hn,rfl,rfl⟩)
   ·have hke:k=256:=by omega
    subst hke;have h':=h.out;simp only [Lj,XZ hno.out] at h';replace h':=hid h';have g1:¬ ((256:Nat):Int)<256:=by omega
    refine wk ?_;exact ab rfl h'.out
  ·by_cases hlt:(k:Int)<256
   ·refine wk ?_;exact ag _ _ _ (by omega) (CutL (b:=by simp)) (.inr ⟨rfl,x,w,hx,rfl,rfl⟩)
   ·refine wk ?_;exact ag _ _ _ (by omega) (CutL (b:=by simp)) (.inr ⟨rfl,x,w,hx,rfl,rfl⟩)
 ·have h':=h.out;simp only [Lj,hx.out.1] at h';replace h':=hid h';rw [hx.out.2];have e1:=ij [x];have e2:=gF [x];refine wk ?_;exact ab rfl h'.out
def jn (b:List UInt8) (bl:Bool) (s:List UInt8):Option (List UInt8×List UInt8):=match ie b bl s with
 | some (v,r,true)=>some (v,r)
 | _=>none
def VB (n:Nat) (o:Option (List UInt8×List UInt8)):AV:=match o with
 | none=>.tup [.str [],.int .i64 0,.bool false]
 | some (v,r)=>.tup [.str v,.int .i64 ((n - r.length:Nat):Int),.bool true]
theorem Xl {b s:List UInt8} {c:UInt8} (h:c=44\/c=43):jn b false (c::s)=some (b,c::s):=by simp only [jn,pf h];rfl
theorem VA {b s:List UInt8} {c:UInt8} (h:c=44\/c=43):jn b true (c::s)=none:=by simp only [jn,pf h];rfl
theorem YM {b:List UInt8}:jn b false []=some (b,[]):=by simp only [jn,l3];rfl
theorem Xn {b:List UInt8}:jn b true []=none:=by simp only [jn,l3];rfl
theorem YN {b s:List UInt8} {bl:Bool} {c:UInt8} (h:¬ (c=44\/c=43)) (h2:c≠92) (hb:c=0\/c∈([34,59,60,62]:List UInt8)\/(b=[]/\(c=32\/c=35))):jn b bl (c::s)=none:=by
 simp only [jn,lZ h h2,if_pos hb]
theorem Qn {b s:List UInt8} {bl:Bool} {c:UInt8} (h:¬ (c=44\/c=43)) (h2:c≠92) (hb:¬ (c=0\/c∈([34,59,60,62]:List UInt8)\/(b=[]/\(c=32\/c=35)))):jn b bl (c::s)=jn (b++[c]) (decide (c=32)) s:=by
 simp only [jn,lZ h h2,if_neg hb]
theorem P5 {x:UInt8} {L:List Blk} {K:aef} (h:K (.bool (l5.contains x)) L):aee 93 [.int .u8 x.toNat,.str l5] L K:=jM (by simp) h
theorem Tg {a b c d x:UInt8} {L:List Blk} {K:aef} (h:K (.bool ([a,b,c,d].contains x)) L):aee 93 [.int .u8 x.toNat,.str [a,b,c,d]] L K:=jM (by simp) h
theorem Th {a b x:UInt8} {L:List Blk} {K:aef} (h:K (.bool ([a,b].contains x)) L):aee 93 [.int .u8 x.toNat,.str [a,b]] L K:=jM (by simp) h
theorem Y4 {s:List UInt8} {at0:Nat} (hs:s.length<=100000) (hat:at0<=s.length) (h:K (VB s.length (jn [] false (s.drop at0))) L):aee 110 [.str s,.int .i64 (at0:Int)] L K:=by
 obtain ⟨R,hR⟩:=aea (jn [] false (s.drop at0));rw [hR] at h;replace h:=hid h;refine aed OA ?_;refine cz (l:=[]) (n:=0) 7 1 rfl (aeX 1).symm ?_;refine ai (fun n T' L'=>∃ (i m:Nat) (b:List UInt8) (bl fb:Bool),n=s.length - i/\i<=s.length/\m<=i/\Hid (m=b.length/\jn b bl (s.drop i)=R/\(bl=true->i<s.length/\s.getD i 0≠44/\s.getD i 0≠43)/\(fb=true↔b=[]))/\T'=[(8,.bool fb),(1,.int .i64 (i:Int)),(7,.gsl (u8s b) m L.length 1),(0,.str s)]/\L'=L++[.spare m 1]) (CutS (b:=by simp)) ⟨at0,0,[],false,true,rfl,hat,by omega,hid ⟨rfl,hR,by simp,by simp⟩,rfl,rfl⟩ ?_;rintro _ _ _ ⟨i,m,b,bl,fb,rfl,hi,hm,hI,rfl,rfl⟩;have e1:=ij b;have e2:=gF b;by_cases hlt:i<s.length
 ·have g1:(i:Int)<(s.length:Int):=by omega
  have g2:=aec i (by omega);obtain ⟨c,hc⟩:=aea (s.getD i 0);have hdr:=jm hlt;rw [hc] at hdr;have hb2:=hI.out.2.1;rw [hdr] at hb2;by_cases hcc:c=44\/c=43
  ·have hbl:bl=false:=by
    cases bl with
    | false=>rfl
    | true =>
      obtain ⟨_,n1,n2⟩:=hI.out.2.2.1 rfl;rw [hc] at n1 n2;rcases hcc with e|e
      ·exact absurd e n1
      ·exact absurd e n2
   subst hbl;rw [Xl hcc] at hb2;have h':=h.out;rw [<- hb2] at h';simp only [VB] at h';rw [<- hdr,afu,show s.length - (s.length - i)=i by omega] at h';replace h':=hid h';have k1:((c.toNat:Int)=44)\/((c.toNat:Int)=43):=hcc.imp (bo c 44).2 (bo c 43).2;clear hb2 hcc hdr;rcases k1 with k1|k1
   ·refine wk ?_;exact ab rfl h'.out
   ·refine wk ?_;exact ab rfl h'.out
  ·have k1:¬ (c.toNat:Int)=44:=fun e=>hcc (.inl ((bo c 44).1 e))
   have k2:¬ (c.toNat:Int)=43:=fun e=>hcc (.inr ((bo c 43).1 e))
   by_cases h92:c=92
   ·subst h92;have g3:IntKind.i64.wrap ((i:Int)+1+1)=(i:Int)+1+1:=ad (by omega) (by omega);have g4:IntKind.i64.wrap ((i:Int)+1+2)=(i:Int)+1+2:=ad (by omega) (by omega);have t1:((i:Int)+1).toNat=i+1:=by omega
    have t3:((i:Int)+1+2).toNat=i+3:=by omega
    by_cases h1:i+1<s.length
    ·have f1:(i:Int)+1<(s.length:Int):=by omega
     have f0:¬ (i:Int)+1=(s.length:Int):=by omega
     obtain ⟨d,hd⟩:=aea (s.getD (i+1) 0);have hdr1:=jm h1;rw [hd] at hdr1;rw [hdr1] at hb2;by_cases hsp:d∈l5
     ·simp only [jn,H9 hsp] at hb2;have f2:l5.contains d=true:=afw.2 hsp;clear hdr hdr1 hcc;replace hb2:=hid hb2;have kk1:=@hid _ @P5;have kk2:=@hid _ @Tg;have kk3:=@hid _ @Th;refine wk ?_;rw [show u8s b++[AV.int IntKind.u8 (d.toNat:Int)]=u8s (b++[d]) by simp [u8s]];exact ag _ _ _ (by omega) (CutL (b:=by simp)) ⟨i+1+1,m+1,b++[d],false,false,rfl,h1,by omega,hid ⟨by simp [hI.out.1],hb2.out,by simp,by simp⟩,rfl,rfl⟩
     ·have f2:l5.contains d=false:=by
       rw [<- afP,afw];exact hsp
      by_cases h2:i+2<s.length
      ·have f3:¬ (s.length:Int)<(i:Int)+1+2:=by omega
       have f4:(i:Int)+1<=(i:Int)+1+2:=by omega
       have f5:(i:Int)+1+2<=(s.length:Int):=by omega
       have f6:(0:Int)<=(i:Int)+1:=by omega
       obtain ⟨e,he⟩:=aea (s.getD (i+2) 0);have hdr2:=jm h2;rw [he] at hdr2;rw [hdr2] at hb2;simp only [jn,LO hsp] at hb2;have hcut:(s.drop (i+1)).take (i+3 - (i+1))=[d,e]:=by
        rw [hdr1,hdr2,show i+3 - (i+1)=2 by omega];rfl
       clear hdr hdr1 hdr2 hcc;replace hb2:=hid hb2;have kk1:=@hid _ @P5;have kk2:=@hid _ @Tg;have kk3:=@hid _ @Th;refine wk ?_;refine XA ?_;rcases hx:NI d e with _|x
       ·rw [show Lj d e=.tup [.str [],.bool false] by simp only [Lj,hx]];have h':=h.out;rw [<- hb2.out,hx] at h';simp only [VB] at h';replace h':=hid h';clear hx;refine sk ?_;refine wk ?_;exact ab rfl h'.out
       ·rw [show Lj d e=.tup [.str [x],.bool true] by simp only [Lj,hx]];have hb3:=hb2.out;rw [hx] at hb3;simp only at hb3;replace hb3:=hid hb3;have q1:[x].getD 0 0=x:=rfl;clear hx hb2;refine sk ?_;refine wk ?_;rw [show u8s b++[AV.int IntKind.u8 (x.toNat:Int)]=u8s (b++[x]) by simp [u8s]];exact ag _ _ _ (by omega) (CutL (b:=by simp)) ⟨i+1+2,m+1,b++[x],false,false,rfl,h2,by omega,hid ⟨by simp [hI.out.1],hb3.out,by simp,by simp⟩,rfl,rfl⟩
      ·have f3:(s.length:Int)<(i:Int)+1+2:=by omega
       have hnil:s.drop (i+1+1)=[]:=afE (by omega);rw [hnil] at hb2;simp only [jn,H8 hsp] at hb2;have h':=h.out;rw [<- hb2] at h';replace h':=hid h';clear hdr hdr1 hb2 hcc;have kk1:=@hid _ @P5;have kk2:=@hid _ @Tg;have kk3:=@hid _ @Th;refine wk ?_;exact ab rfl h'.out
    ·have f1:¬ (i:Int)+1<(s.length:Int):=by omega
     have f0:(i:Int)+1=(s.length:Int):=by omega
     have f3:(s.length:Int)<(s.length:Int)+2:=by omega
     have f4:¬ (s.length:Int)<(s.length:Int):=by omega
     have g5:IntKind.i64.wrap (s.length:Int)=(s.length:Int):=ad (by omega) (by omega);have g6:IntKind.i64.wrap ((s.length:Int)+2)=(s.length:Int)+2:=ad (by omega) (by omega);have hnil:s.drop (i+1)=[]:=afE (by omega);rw [hnil] at hb2;simp only [jn,Ia] at hb2;have h':=h.out;rw [<- hb2] at h';replace h':=hid h';clear hdr hb2 hcc;have kk1:=@hid _ @P5;have kk2:=@hid _ @Tg;have kk3:=@hid _ @Th;refine wk ?_;exact ab rfl h'.out
   ·have k3:¬ (c.toNat:Int)=92:=fun e=>h92 ((bo c 92).1 e)
    obtain ⟨p1,hp1⟩:=aea (([34,59,60,62]:List UInt8).contains c);obtain ⟨p2,hp2⟩:=aea (([32,35]:List UInt8).contains c);have hq1:p1=true↔c∈([34,59,60,62]:List UInt8):=by rw [<- hp1,afw]
    have hq2:p2=true↔(c=32\/c=35):=by rw [<- hp2,afw];simp
    replace hq1:=hid hq1;replace hq2:=hid hq2;have h0:=hid (bo c 0);have h32:=hid (bo c 32);have hfb:=hid hI.out.2.2.2;obtain ⟨lst,hlst⟩:∃ lst:Bool,decide (i+1<s.length->s.getD (i+1) 0=44\/s.getD (i+1) 0=43)=lst:=⟨_,rfl⟩;have hbad:=hid fun (e:c=0\/c∈([34,59,60,62]:List UInt8)\/(b=[]/\(c=32\/c=35)))=>(show R=none by rw [<- hb2,YN hcc h92 e])
    have hend:=hid fun (e:lst=true/\c=32)=>(show R=none by
     by_cases eb:c=0\/c∈([34,59,60,62]:List UInt8)\/(b=[]/\(c=32\/c=35))
     ·exact hbad.out eb
     ·rw [<- hb2,Qn hcc h92 eb,e.2];have el:=of_decide_eq_true (hlst.trans e.1);simp only [decide_true];by_cases h1:i+1<s.length
      ·rw [jm h1,VA (el h1)]
      ·rw [afE (by omega),Xn])
    have hgo:=hid fun (e:¬ (c=0\/c∈([34,59,60,62]:List UInt8)\/(b=[]/\(c=32\/c=35))))=>(show jn (b++[c]) (decide (c=32)) (s.drop (i+1))=R by rw [<- hb2,Qn hcc h92 e])
    replace hlst:=hid hlst;clear hdr hb2 hcc;have bad:R=none->Fin L (.tup [.str [],.int .i64 0,.bool false]) (L++[.spare m 1]) K:=fun e=>ab rfl (by have h':=h.out;rwa [e] at h')
    replace bad:=hid bad;by_cases h1:i+1<s.length
    ·have f1:(i:Int)+1<(s.length:Int):=by omega
     have f0:¬ (i:Int)+1=(s.length:Int):=by omega
     have t1:((i:Int)+1).toNat=i+1:=by omega
     obtain ⟨d,hd⟩:=aea (s.getD (i+1) 0);have hlst2:=hid (show lst=true↔((d.toNat:Int)=44\/(d.toNat:Int)=43) by
      rw [<- hlst.out,decide_eq_true_eq,hd,show (44:Int)=((44:UInt8).toNat:Int) from rfl,show (43:Int)=((43:UInt8).toNat:Int) from rfl,bo,bo];exact ⟨fun e=>e h1,fun e _=>e⟩)
     repeat' first
      | refine aY ?_
      | (first|refine aO (by kernel_rfl) ?_|refine aA (by kernel_rfl) ?_|refine aB ?_|refine bw ?_|refine a6 (fun _=>?_)|refine ax ?_|refine aR ?_|refine jM (by simp) ?_|refine bj (jM (by simp) ⟨rfl,rfl⟩) (jM (by simp) ⟨rfl,rfl⟩) ?_|refine aS (jM (by simp) ⟨rfl,rfl⟩) ?_)
        refine sm ?_
      | (first|refine aK (by kernel_rfl) ?_|refine aP ?_|refine aQ ?_|refine bd (aw ?_))
        refine sl ?_
      | exact a7
      | first|apply a8|apply aL|apply ba|apply aM|apply bc|apply aN
      | refine aE ?_
      | first|refine aC rfl ?_|refine aD rfl ?_|refine ap rfl ?_ ?_|refine aG rfl (fun _=>?_) (fun _=>?_)|refine aF rfl (fun _=>?_) (fun _=>?_)
      | ((first|refine ao (fun _=>?_) (fun _=>?_)|refine au (fun _=>?_) (fun _=>?_))<;>try refine sm ?_)
      | refine And.intro trivial ?_
      | refine And.intro (by omega) ?_
      | refine aI rfl (fun _=>?_) (fun _=>?_)
      | refine And.intro ?_ ?_
     ·rename_i hx
      refine bad.out ?_;simp only [ae6,aek,decide_eq_true_eq] at hx;rcases hx with ((e|e)|⟨e,e'⟩)|e
      ·exact hbad.out (.inl (h0.out.1 e))
      ·exact hbad.out (.inr (.inl (hq1.out.1 e)))
      ·exact hbad.out (.inr (.inr ⟨hfb.out.1 e,hq2.out.1 e'⟩))
      ·exact hend.out ⟨hlst2.out.2 e.1,h32.out.1 e.2⟩
     ·rename_i hx
      rw [<- afP] at hx;simp only [ae6,aek,decide_eq_true_eq] at hx;rw [show u8s b++[AV.int IntKind.u8 (c.toNat:Int)]=u8s (b++[c]) by simp [u8s]];refine ag _ _ _ (by omega) (CutL (b:=by simp)) ⟨i+1,m+1,b++[c],decide (c=32),false,rfl,hlt,by omega,hid ⟨by simp [hI.out.1],?_,fun e=>?_,by simp⟩,rfl,rfl⟩
      ·refine hgo.out fun e=>hx ?_
       rcases e with e|e|⟨e,e'⟩
       ·exact .inl (.inl (.inl (h0.out.2 e)))
       ·exact .inl (.inl (.inr (hq1.out.2 e)))
       ·exact .inl (.inr ⟨hfb.out.2 e,hq2.out.2 e'⟩)
      ·have e32:=h32.out.2 (of_decide_eq_true e);refine ⟨h1,?_,?_⟩
       ·intro e4;exact hx (.inr ⟨.inl (by rw [<- hd,e4];rfl),e32⟩)
       ·intro e4;exact hx (.inr ⟨.inr (by rw [<- hd,e4];rfl),e32⟩)
    ·have f1:¬ (i:Int)+1<(s.length:Int):=by omega
     have f0:(i:Int)+1=(s.length:Int):=by omega
     have g5:IntKind.i64.wrap (s.length:Int)=(s.length:Int):=ad (by omega) (by omega);have hlst2:=hid (show lst=true by rw [<- hlst.out,decide_eq_true_eq];exact fun e=>absurd e h1)
     repeat' first
      | refine aY ?_
      | (first|refine aO (by kernel_rfl) ?_|refine aA (by kernel_rfl) ?_|refine aB ?_|refine bw ?_|refine a6 (fun _=>?_)|refine ax ?_|refine aR ?_|refine jM (by simp) ?_|refine bj (jM (by simp) ⟨rfl,rfl⟩) (jM (by simp) ⟨rfl,rfl⟩) ?_|refine aS (jM (by simp) ⟨rfl,rfl⟩) ?_)
        refine sm ?_
      | (first|refine aK (by kernel_rfl) ?_|refine aP ?_|refine aQ ?_|refine bd (aw ?_))
        refine sl ?_
      | exact a7
      | first|apply a8|apply aL|apply ba|apply aM|apply bc|apply aN
      | refine aE ?_
      | first|refine aC rfl ?_|refine aD rfl ?_|refine ap rfl ?_ ?_|refine aG rfl (fun _=>?_) (fun _=>?_)|refine aF rfl (fun _=>?_) (fun _=>?_)
      | ((first|refine ao (fun _=>?_) (fun _=>?_)|refine au (fun _=>?_) (fun _=>?_))<;>try refine sm ?_)
      | refine And.intro trivial ?_
      | refine And.intro (by omega) ?_
      | refine aI rfl (fun _=>?_) (fun _=>?_)
      | refine And.intro ?_ ?_
     ·rename_i hx
      refine bad.out ?_;simp only [ae6,aek,decide_eq_true_eq] at hx;rcases hx with ((e|e)|⟨e,e'⟩)|e
      ·exact hbad.out (.inl (h0.out.1 e))
      ·exact hbad.out (.inr (.inl (hq1.out.1 e)))
      ·exact hbad.out (.inr (.inr ⟨hfb.out.1 e,hq2.out.1 e'⟩))
      ·exact hend.out ⟨hlst2.out,h32.out.1 e⟩
     ·rename_i hx
      rw [<- afP] at hx;simp only [ae6,aek,decide_eq_true_eq] at hx;rw [show u8s b++[AV.int IntKind.u8 (c.toNat:Int)]=u8s (b++[c]) by simp [u8s]];refine ag _ _ _ (by omega) (CutL (b:=by simp)) ⟨i+1,m+1,b++[c],decide (c=32),false,rfl,hlt,by omega,hid ⟨by simp [hI.out.1],?_,fun e=>?_,by simp⟩,rfl,rfl⟩
      ·refine hgo.out fun e=>hx ?_
       rcases e with e|e|⟨e,e'⟩
       ·exact .inl (.inl (.inl (h0.out.2 e)))
       ·exact .inl (.inl (.inr (hq1.out.2 e)))
       ·exact .inl (.inr ⟨hfb.out.2 e,hq2.out.2 e'⟩)
      ·have e32:=h32.out.2 (of_decide_eq_true e);exact absurd (.inr e32) hx
 ·have hke:i=s.length:=by omega
  subst hke;have g1:¬ (s.length:Int)<(s.length:Int):=by omega
  have hbl:bl=false:=by
   cases bl with
   | false=>rfl
   | true=>exact absurd (hI.out.2.2.1 rfl).1 (by omega)
  subst hbl;have h':=h.out;rw [<- hI.out.2.1,aeC,YM] at h';simp only [VB,afk,Nat.sub_zero] at h';replace h':=hid h';refine wk ?_;exact ab rfl h'.out
theorem YO:∀ (n:Nat) {s b:List UInt8} {bl:Bool} {v r:List UInt8} {ok:Bool},s.length<=n->ie b bl s=some (v,r,ok)->r <:+ s:=by
 intro n
 induction n with
 | zero =>
   intro s b bl v r ok hn h;obtain rfl:=ae3.1 (Nat.le_zero.1 hn);rw [l3] at h;cases h;exact List.suffix_refl _
 | succ n ih =>
   intro s b bl v r ok hn h;cases s with
   | nil=>rw [l3] at h;cases h;exact List.suffix_refl _
   | cons c s =>
     simp only [aet] at hn;by_cases hc:c=44\/c=43
     ·rw [pf hc] at h;cases h;exact List.suffix_refl _
     by_cases h92:c=92
     ·subst h92;cases s with
      | nil=>rw [Ia] at h;cases h
      | cons d s =>
        by_cases hd:d∈l5
        ·rw [H9 hd] at h;exact (ih (by simp at hn;omega) h).trans ((agv _ _).trans (agv _ _))
        ·cases s with
         | nil=>rw [H8 hd] at h;cases h
         | cons e s =>
           rw [LO hd] at h;split at h
           ·cases h
           ·exact (ih (by simp at hn;omega) h).trans ((agv _ _).trans ((agv _ _).trans (agv _ _)))
     ·rw [lZ hc h92] at h;split at h
      ·cases h
      ·exact (ih (by omega) h).trans (agv _ _)
theorem Xm {s v r:List UInt8} (h:jn [] false s=some (v,r)):ie [] false s=some (v,r,true):=by
 unfold jn at h;split at h
 ·rename_i e;cases h;exact e
 ·cases h
theorem Sv (f:Nat) (out:List Rdn) (now:Rdn) (s:List UInt8):tP (f+1) out now s=if out.length=32\/now.length=8 then ([],9) else match kJ s with
  | none=>([],4)
  | some (typ,rest)=>if il typ=false then ([],4) else if lN now typ=true then ([],21) else match jn [] false rest with
    | none=>([],4)
    | some (v,r2)=>match r2 with
      | []=>(out++[now++[(typ,v)]],0)
      | c::s'=>if c=44 then tP f (out++[now++[(typ,v)]]) [] s' else tP f out (now++[(typ,v)]) s':=by
 rw [tP]
 congr 1
 rcases kJ s with _|⟨typ,rest⟩
 ·rfl
 ·simp only
  congr 1
  congr 1
  unfold jn;rcases ie [] false rest with _|⟨v,r2,ok⟩
  ·rfl
  ·cases ok<;>rfl
theorem Yk {s:List UInt8} {i j:Nat} (hij:i<=j) (hj:j<s.length) (hc:s.getD j 0≠61) (h:kJ (s.drop i)=(kJ (s.drop j)).map fun p=>((s.drop i).take (j - i)++p.1,p.2)) :
  kJ (s.drop i)=(kJ (s.drop (j+1))).map fun p=>((s.drop i).take (j+1 - i)++p.1,p.2):=by
 rw [h,jm hj];simp only [kJ,if_neg hc];have ht:(s.drop i).take (j+1 - i)=(s.drop i).take (j - i)++[s.getD j 0]:=by
  rw [show j+1 - i=(j - i)+1 by omega,aeL (by simp;omega)]
  congr 2
  simp [show i+(j - i)=j by omega,hj]
 rw [ht];rcases kJ (s.drop (j+1)) with _|⟨a,b⟩
 ·rfl
 ·simp
theorem abl {r:Rdn} {typ:List UInt8} {i n:Nat} (hr:r.length=n) (hn:n<=8) (h1:∀ a∈r,a.1.length<=32) (h2:typ.length<=4096) (h:K (.bool (lN r typ)) L) :
  aee 109 [.gsl (aH r) n i 2,.str typ] L K:=by
 subst hr;exact lY (by simpa only [AV.frzL,AV.frz,ia] using Za (cap:=none) (by omega) (fun a ha=>by have:=h1 a ha;omega) (by omega) h)
theorem Xz {s:List UInt8} {z:Int} {at0:Nat} (hz:z=(at0:Int)) (hs:s.length<=100000) (hat:at0<=s.length) (h:K (VB s.length (jn [] false (s.drop at0))) L):aee 110 [.str s,.int .i64 z] L K:=by
 subst hz;exact Y4 hs hat h
theorem Y6 {s:List UInt8} (h:K (VQ (Iw s)) L):aee 90 [.str s] L K:=by
 refine af OD (by simp [oZ]) ?_;simp only [oZ,aq];by_cases h1:4096<s.length
 ·have f1:(4096:Int)<(s.length:Int):=by omega
  rw [Iw,if_pos h1] at h;replace h:=hid h;clear h1;refine wk ?_;exact aZ (ac h.out)
 have f1:¬ (4096:Int)<(s.length:Int):=by omega
 rw [Iw,if_neg h1] at h;have hs:=hid (show s.length<=4096 by omega);clear h1;obtain ⟨R,hR⟩:=aea ((if s=[] then ([],0) else tP (s.length+1) [] [] s));rw [hR] at h;replace h:=hid h;replace hR:=hid hR;refine wk ?_;refine cz (l:=[]) (n:=0) 4 1 rfl (aeX 1).symm ?_;refine ai (fun n T' L'=>∃ (f m i:Nat) (out:List Rdn) (X:List Blk),f=n/\i<=s.length/\m<=32/\Hid (s≠[]->s.length - i<f/\tP f out [] (s.drop i)=R)/\Hid (s=[]->out=[])/\Hid (m=out.length)/\L'[L.length]?=some (.spare m 1)/\T'=[(5,.int .i64 (i:Int)),(4,.gsl (out.map cm) m L.length 1),(0,.str s)]/\L'=L++X) (CutS (b:=by simp)) ⟨s.length+1,0,0,[],[.spare 0 1],rfl,aej _,by omega,hid (fun e=>⟨by omega,by have:=hR.out;rw [if_neg e] at this;simpa using this⟩),hid (fun _=>rfl),hid rfl,by simp,rfl,rfl⟩ ?_;rintro _ _ _ ⟨f,m,i,out,X,rfl,hi,hm32,hI,hI0,hm,ho,rfl,rfl⟩;by_cases h0:s=[]
 ·have h':=h.out;rw [<- hR.out,if_pos h0] at h';replace h':=hid h';have f2:¬ (0:Int)<(s.length:Int):=by rw [h0];simp
  clear h0;refine wk ?_;exact aZ (ab rfl h'.out)
 obtain ⟨hf,hp⟩:=hI.out h0;have f2:(0:Int)<(s.length:Int):=by have:=afF.2 h0;omega
 clear hI hI0 hR h0;have hB:L.length<(L++X).length:=(aeh.1 ho).1;by_cases hlim:m=32
 ·obtain ⟨f,rfl⟩:∃ g,f=g+1:=⟨f - 1,by omega⟩;rw [Sv,if_pos (.inl (by rw [<- hm.out];exact hlim))] at hp;have h':=h.out;rw [<- hp] at h';replace h':=hid h';have k:(m:Int)=32:=by omega
  clear hp hlim hf;refine wk ?_;exact gx h'.out
 have k1:¬ (m:Int)=32:=by omega
 replace hp:=hid hp;refine wk ?_;refine ai (fun n T' L'=>∃ (g i:Nat) (now:Rdn) (v:AV) (Z:List Blk),g=n/\g<=f/\i<=s.length/\now.length<=8/\Hid (s.length - i<g/\tP g out now (s.drop i)=R/\(∀ a∈now,a.1.length<=32)/\adt L.length now v L')/\L'[L.length]?=some (.spare m 1)/\X.length<=Z.length/\T'=[(6,v),(5,.int .i64 (i:Int)),(4,.gsl (out.map cm) m L.length 1),(0,.str s)]/\L'=L++Z) (CutS (b:=by simp)) ⟨f,i,[],_,X,rfl,aeg _,hi,by simp,hid ⟨hf,hp.out,by simp,.inl ⟨rfl,rfl,rfl⟩⟩,ho,aeg _,rfl,rfl⟩ ?_;clear hp hf ho hi;rintro _ _ _ ⟨g,i,now,v,X1,rfl,hgf,hi,hn8,hI,ho,hXZ,rfl,rfl⟩;obtain ⟨hf,hp,ht,hv⟩:=hI.out;clear hI;obtain ⟨g,rfl⟩:∃ g',g=g'+1:=⟨g - 1,by omega⟩;have hB1:L.length<(L++X1).length:=(aeh.1 ho).1;refine T8 6 2 L.length rfl hB1 hv fun p Y hBi hpi=>?_
 rw [aeu] at hpi ⊢;have ho2:(L++(X1++Y))[L.length]?=some (.spare m 1):=by rw [<- aeu,aem hB1];exact ho
 have hXZ2:X.length<=(X1++Y).length:=by simp;omega
 generalize X1++Y=Z at hpi ho2 hXZ2 ⊢;clear ho hB1 hv hXZ X1 Y;replace hXZ2:=hid hXZ2;have hpl:=(aeh.1 hpi).1;have hol:=(aeh.1 ho2).1;have hz:p - L.length≠0:=by omega
 obtain ⟨c,hc⟩:∃ c:Nat,now.length=c:=⟨_,rfl⟩;rw [Sv] at hp;rw [hc] at hp hpi hn8 ⊢;rw [aeF] at hpl hol;replace hz:=hid hz;replace hpl:=hid hpl;replace hol:=hid hol;by_cases hlim2:c=8
 ·rw [if_pos (.inr hlim2)] at hp;have h':=h.out;rw [<- hp] at h';replace h':=hid h';have k:(c:Int)=8:=by omega
  clear hp hlim2;refine wk ?_;exact gx h'.out
 rw [if_neg (by rw [<- hm.out];omega)] at hp;have k2:¬ (c:Int)=8:=by omega
 replace hp:=hid hp;replace ht:=hid ht;replace hf:=hid hf;refine wk ?_;refine ai (fun n T' L'=>∃ j:Nat,n=s.length - j/\i<=j/\j<=s.length/\Hid (kJ (s.drop i)=(kJ (s.drop j)).map fun p=>((s.drop i).take (j - i)++p.1,p.2))/\T'=[(7,.int .i64 (j:Int)),(6,.gsl (aH now) c p 2),(5,.int .i64 (i:Int)),(4,.gsl (out.map cm) m L.length 1),(0,.str s)]/\L'=L++Z) (CutS (b:=by simp)) ⟨i,rfl,aeg _,hi,hid (by rcases kJ (s.drop i) with _|⟨a,b⟩<;>simp),rfl,rfl⟩ ?_;rintro _ _ _ ⟨j,rfl,hij,hj,hcut,rfl,rfl⟩;by_cases hjl:j<s.length;rotate_left
 ·have hje:j=s.length:=by omega
  subst hje;have g1:¬ (s.length:Int)<(s.length:Int):=by omega
  have e:=hcut.out;rw [aeC] at e;simp only [kJ,aeW] at e;have h':=h.out;rw [<- hp.out,e] at h';simp only at h';replace h':=hid h';clear e;refine wk ?_;exact gx h'.out
 have g1:(j:Int)<(s.length:Int):=by omega
 have g2:=aec j (by omega);obtain ⟨x,hx⟩:=aea (s.getD j 0);by_cases h61:x=61;rotate_left
 ·have g3:¬ (x.toNat:Int)=61:=fun e=>h61 ((bo x 61).1 e)
  have hcut':=hid (Yk hij hjl (by rw [hx];exact h61) hcut.out);clear h61;refine wk ?_;exact ag _ _ _ (by omega) (CutL (b:=by simp)) ⟨j+1,rfl,by omega,hjl,hcut',rfl,rfl⟩
 subst h61;have g3:((61:UInt8).toNat:Int)=61:=rfl;have hcutS:kJ (s.drop i)=some ((s.drop i).take (j - i),s.drop (j+1)):=by
  rw [hcut.out,jm hjl,hx];simp [kJ]
 clear hcut;obtain ⟨typ,htyp⟩:=aea ((s.drop i).take (j - i));have htl:typ.length<=4096:=by rw [<- htyp];have:=hs.out;simp;omega
 have htl3:(typ.length:Int)<=100000:=by omega
 rw [htyp] at hcutS;have hp2:=hp.out;rw [hcutS] at hp2;simp only at hp2;have g4:¬ (j:Int)=(s.length:Int):=by omega
 have g5:(i:Int)<=(j:Int):=by omega
 have g6:(j:Int)<=(s.length:Int):=by omega
 replace hp2:=hid hp2;clear hcutS hp;cases hty:il typ with
 | false =>
   have h':=h.out;rw [<- hp2.out,if_pos hty] at h';replace h':=hid h';have kk1:=@hid _ (fun L K=>WQ htl3 (L:=L) (K:=K));refine wk ?_;exact gx h'.out
 | true =>
 have hp3:=hp2.out;rw [if_neg (by rw [hty];simp)] at hp3;replace hp3:=hid hp3;clear hp2;have hpn:=hid (show p≠L.length+Z.length by have:=hpl.out;omega);have b1:∀ b,(L++(Z++[b]))[p]?=some (.spare c 2):=fun b=>by
  rw [<- aeu,aem (aeh.1 hpi).1];exact hpi
 have b2:∀ A b,(L++(Z++[b])).set p A=L++(Z.set (p - L.length) A++[b]):=fun A b=>by
  rw [ae5 _ _ (by omega),agD _ _ (by have:=hpl.out;omega)]
 have b3:∀ A b,(L++(Z.set (p - L.length) A++[b]))[L.length]?=some (.spare m 1):=fun A b=>by
  rw [<- b2,aeA (by omega),<- aeu,aem (aeh.1 ho2).1];exact ho2
 have b4:∀ A b,(L++(Z.set (p - L.length) A++[b]))[p]?=some A:=fun A b=>by
  rw [<- b2,aeD,if_pos rfl,if_pos (by have:=hpl.out;simp;omega)]
 have hsl:(i:Int).toNat=i:=by omega
 have kk1:=@hid _ (fun L K=>WQ htl3 (L:=L) (K:=K));refine wk ?_;refine abl hc hn8 ht.out (by omega) ?_;cases hha:lN now typ with
 | true =>
   have h':=h.out;rw [<- hp3.out,if_pos hha] at h';replace h':=hid h';refine sk ?_;refine wk ?_;exact gx h'.out
 | false =>
 have hp4:=hp3.out;rw [if_neg (by rw [hha];simp)] at hp4;replace hp4:=hid hp4;clear hp3;refine sk ?_;refine wk ?_;refine Xz (at0:=j+1) (by omega) (by have:=hs.out;omega) hjl ?_;rcases hvl:jn [] false (s.drop (j+1)) with _|⟨w,r2⟩
 ·have h':=h.out;rw [<- hp4.out,hvl] at h';simp only at h';replace h':=hid h';simp only [VB];refine sk ?_;refine wk ?_;exact gx h'.out
 have hp5:=hp4.out;rw [hvl] at hp5;simp only at hp5;have hsuf:=YO _ (aeg _) (Xm hvl);have hsd:r2=s.drop (s.length - r2.length):=List.suffix_iff_eq_drop.1 (hsuf.trans (List.drop_suffix _ _));have hl2:r2.length<=s.length - (j+1):=by have:=hsuf.length_le;simpa using this
 obtain ⟨t,ht0⟩:=aea (s.length - r2.length);rw [ht0] at hsd;have htj:j<t:=by omega
 have hts:t<=s.length:=by omega
 simp only [VB,ht0];replace hp5:=hid hp5;clear hp4 hvl hsuf;replace hsd:=hid hsd;have q1:(c+1) * 32<=140737488355328:=by omega
 have q2:c+1<=140737488355328:=by omega
 have q3:(m+1) * 24<=140737488355328:=by omega
 have q4:m+1<=140737488355328:=by omega
 have e1:aH now++[AV.str typ,AV.str w]=aH (now++[(typ,w)]):=(SZ _ _ _).symm;have e2:out.map cm++[AV.sl (AV.frzL (aH now++[AV.str typ,AV.str w])) (c+1) none]=(out++[now++[(typ,w)]]).map cm:=by
  rw [e1,ia,ae8];simp [hc]
 have e3:(out++[now++[(typ,w)]]).length=m+1:=by simp [hm.out]
 have e4:(now++[(typ,w)]).length=c+1:=by simp [hc]
 have e5:∀ a∈now++[(typ,w)],a.1.length<=32:=fun a ha=>by
  rcases aeo.1 ha with h|h
  ·exact ht.out a h
  ·rw [aeO.1 h];exact pg hty
 have s4:∀ (W:List Blk) A,(L++W).set L.length A=L++W.set 0 A:=fun W A=>by rw [ae5 _ _ (aeg _),afn]
 have g7:IntKind.i64.wrap ((t:Int)+1)=(t:Int)+1:=ad (by have:=hs.out;omega) (by have:=hs.out;omega);replace e1:=hid e1;replace e2:=hid e2;replace e3:=hid e3;replace e4:=hid e4;replace e5:=hid e5;cases r2 with
 | nil =>
   have h':=h.out;rw [<- hp5.out] at h';simp only at h';replace h':=hid h';have hte:t=s.length:=by simp at ht0;omega
   subst hte;refine sk ?_;refine wk ?_;rw [e2.out];refine aZ (ab ?_ ?_)
   ·simp only [AV.frz,AV.frzL,pk,AV.refs,AV.refsL,Ic,afD]
   ·simp only [AV.frz,AV.frzL,pk];have:=h'.out;simp only [VQ,e3.out] at this;exact this
 | cons x s' =>
   simp only at hp5;have htl2:t<s.length:=by simp at ht0 hl2;omega
   have k3:¬ (t:Int)=(s.length:Int):=by omega
   have k4:(t:Int)<(s.length:Int):=by omega
   have hxd:=hsd.out;rw [jm htl2] at hxd;obtain ⟨hx1,hx2⟩:=List.cons.inj hxd;have hx3:=hx1.symm;replace hx2:=hid hx2;clear hxd hx1;by_cases hx:x=44
   ·subst hx;refine sk ?_;refine wk ?_;rw [e2.out];refine ag _ _ _ ?_ (CutS (b:=?_)) ⟨g,m+1,t+1,out++[now++[(typ,w)]],_,rfl,htl2,?_,hid fun _=>⟨?_,?_⟩,hid fun e=>?_,hid e3.out.symm,?_,rfl,rfl⟩
    ·omega
    ·simp
    ·have:=hm.out;omega
    ·have:=hf.out;omega
    ·rw [<- hx2.out,<- hp5.out,if_pos rfl]
    ·rw [e] at htl2;simp at htl2
    ·rw [<- s4,aeD,if_pos rfl,if_pos (by simp)]
   ·have q6:¬ (x.toNat:Int)=44:=fun e=>hx ((bo x 44).1 e)
    refine sk ?_;refine wk ?_;rw [e1.out];refine ag _ _ _ ?_ (CutS (b:=?_)) ⟨g,t+1,now++[(typ,w)],_,_,rfl,?_,htl2,?_,hid ⟨?_,?_,e5.out,.inr ⟨p,hBi,by rw [e4.out],by rw [e4.out];exact b4 _ _⟩⟩,b3 _ _,?_,rfl,rfl⟩
    ·omega
    ·have:=hXZ2.out;simp;omega
    ·omega
    ·rw [e4.out];omega
    ·have:=hf.out;omega
    ·rw [<- hx2.out,<- hp5.out,if_neg hx]
    ·have:=hXZ2.out;simp;omega
end Go.Proofs.YtigifoeopopnbaaGreatDoor.Av
