/- Joined texts of the walk, made small by a program. -/
import Derived.Test.YtcmfcpjnhephaaaGreatDoorJk4
import Derived.Test.YtcmfcpjnhephaaaGreatDoorRows
import Derived.KernelRfl
import Derived.Test.YtcmfcpjnhephaaaGreatDoorJk9
import Derived.Test.YtcmfcpjnhephaaaGreatDoorJk6
import Derived.Test.YtcmfcpjnhephaaaGreatDoorJk10
set_option linter.unusedSimpArgs false
set_option linter.unusedVariables false
set_option maxRecDepth 100000
namespace Go.Proofs.YtcmfcpjnhephaaaGreatDoor.Av
open Go
def zP:LSO:=[Ae 2]
def zO:LSO:=[Aa 6 0,Ak 7 39 6,Aa 3 7]
def zN:LSO:=[Aa 8 3,Ap 9 8,Bf 10 9 1,Aa 11 10,.grp none 11 true
 [Af 12 11 3,BB 13 11 12,og 14 11 true (.bin .leq (tm 13) (iv 32))]
 15 (tm 14),Aa 4 15]
def zM:LSO:=[Ab 5 0]
def zL:LSO:=[Aa 16 5,Aa 17 3,Ap 18 17,Aj 19 16 18,Aa 20 19,.grp none 20 true
 [Af 21 20 4]
 22 (tm 21)]
def zK:LSO:=[Aa 25 3,Aa 26 5,A6 27 25 26,
 o1 28 (.call 170 [(tm 27),(.av (.str [97,98,99,100,101,102,103,104,105,106,107,108,109,110,111,112,113,114,115,116,117,118,119,120,121,122]))]),Aa 29 28,.grp none 29 false
 [Ag 30 29 5,A8 31 29 30 0,Ag 32 29 31,.grp (some (29,false)) 32 true
 [Af 33 32 3,Af 34 32 5,AY 35 32 33 34,og 36 32 true (.call 170 [(tm 35),(.av (.str [48,49,50,51,52,53,54,55,56,57,45]))])]
 37 (tm 36)]
 38 (tm 37),Aa 4 38]
def zJ:LSO:=[Aa 23 5,Ah 24 23 1,Aa 5 24]
def zI:LSO:=[Aa 39 4,Aa 2 39]
def sO:be:=⟨40,(.seq (.sreg zP [])
 (.seq (.sreg zO Ci)
 (.seq (.sreg zN Cl)
 (.seq (.seq (.sreg zM [])
 (.block 0 (.loop (.seq (.seq (.sreg zL Cl)
 (.cond (tm 22) .skip
 (.exit 0)))
 (.seq (.block 1 (.sreg zK Co))
 (.sreg zJ Ci))))))
 (.seq (.sreg zI Ch)
 .ret))))),[(.tmp 2)]⟩
attribute [push_cast] zP zO zN zM zL zK zJ zI
theorem Ml:br Tryz.prog (fun _ _=>1) 134=some sO.raw:=by kernel_rfl
def I5:LSO:=[Ae 4]
def I4:LSO:=[Ab 5 0]
def I3:LSO:=[Aa 6 5,Aa 7 1,Ap 8 7,Aj 9 6 8]
def I2:LSO:=[Aa 12 1,Aa 13 5,A6 14 12 13,Aa 15 0,A9 16 14 15]
def I1:LSO:=[Ax 4]
def I0:LSO:=[Aa 10 5,Ah 11 10 1,Aa 5 11]
def IZ:LSO:=[Ae 4]
def Ij:be:=⟨17,(.seq (.sreg I5 [])
 (.seq (.seq (.sreg I4 [])
 (.block 0 (.loop (.seq (.seq (.sreg I3 Cj)
 (.cond (tm 9) .skip
 (.exit 0)))
 (.seq (.block 1 (.seq (.sreg I2 Ck)
 (.cond (tm 16) (.seq (.sreg I1 [])
 .ret)
 .skip)))
 (.sreg I0 Ci))))))
 (.seq (.sreg IZ [])
 .ret))),[(.tmp 4)]⟩
attribute [push_cast] I5 I4 I3 I2 I1 I0 IZ
theorem Oy:br Tryz.prog (fun _ _=>1) 170=some Ij.raw:=by kernel_rfl
def Gp:LSO:=[Ae 4]
def Gn:LSO:=[Aa 7 0,Ai 8 7,Ab 9 0]
def Gm:LSO:=[Aj 10 9 8]
def Gl:LSO:=[Am 11 2 7 9,As 12 2 11,Bb 6,Ao 2 6 12]
def Gk:LSO:=[Ad 13 0 6,Ac 14 1 13,Ak 15 39 14,Aa 16 1,Ak 17 39 16,A9 18 15 17]
def Gj:LSO:=[Ax 4]
def Gi:LSO:=[Ah 19 9 1,Aa 9 19]
def Gh:LSO:=[Ae 4]
def Ez:be:=⟨20,(.seq (.sreg Gp [])
 (.seq (.seq (.sreg Gn [])
 (.block 0 (.loop (.seq (.sreg Gm [])
 (.seq (.cond (tm 10) .skip
 (.exit 0))
 (.seq (.block 1 (.seq (.sreg Gl Ci)
 (.seq (.sreg Gk Cl)
 (.cond (tm 18) (.seq (.sreg Gj [])
 .ret)
 .skip))))
 (.sreg Gi Ch)))))))
 (.seq (.sreg Gh [])
 .ret))),[(.tmp 4)]⟩
attribute [push_cast] Gp Gn Gm Gl Gk Gj Gi Gh
theorem NY:br Tryz.prog (fun _ _=>1) 165=some Ez.raw:=by kernel_rfl
def vT:LSO:=[Al 2,Ab 3 0]
def vS:LSO:=[Aa 12 0,Ap 13 12,A0 14 13 4096]
def vR:LSO:=[Al 2,Ab 3 5]
def vQ:LSO:=[Al 4]
def vP:LSO:=[Ab 5 0]
def vO:LSO:=[Aa 15 0,Ap 16 15,A0 17 16 0]
def vN:LSO:=[Al 6]
def vM:LSO:=[Aa 18 4,Ai 19 18,Au 20 19 32]
def vL:LSO:=[Al 2,Ab 3 9]
def vK:LSO:=[Aa 21 6,Ai 22 21,Au 23 22 8]
def rl:LSO:=[Al 2,Ab 3 9]
def rk:LSO:=[Aa 24 5,Aa 7 24]
def rj:LSO:=[Aa 25 7,Aa 26 0,Ap 27 26,Aj 28 25 27,Aa 29 28,.grp none 29 true
 [Af 30 29 0,Af 31 29 7,AY 32 29 30 31,og 33 29 true (.bin .neq (tm 32) (.av (.int .u8 61)))]
 34 (tm 33)]
def ri:LSO:=[Aa 35 7,Ah 36 35 1,Aa 7 36]
def rh:LSO:=[Aa 37 7,Aa 38 0,Ap 39 38,A9 40 37 39,Aa 41 40,.grp none 41 false
 [Ag 42 41 0,Ag 43 41 5,Ag 44 41 7,og 45 41 false (.slS (tm 42) (some (tm 43)) (some (tm 44))),AL 46 41 134 45,AU 47 41 46]
 48 (tm 47)]
def rf:LSO:=[Al 2,Ab 3 4]
def re:LSO:=[Aa 49 0,Aa 50 5,Aa 51 7,Br 52 49 50 51,o1 53 (.build [(.str []),(.str [])] [(0,(1,(tm 52)))]),Bb 8,Ao 2 8 53]
def rb:LSO:=[Aa 54 6,Ad 55 0 8,Ac 56 1 55,Aq 57 165 54 56]
def ra:LSO:=[Al 2,Ab 3 21]
def q9:LSO:=[Aa 59 0,Aa 60 7,Ah 61 60 1,Aq 62 166 59 61,Aa 58 62,Ar 63 58,Aw 64 58,Be 65 58,Aa 9 63,Aa 10 64,Aa 11 65]
def qZ:LSO:=[Aa 66 11,Az 67 66]
def qY:LSO:=[Al 2,Ab 3 4]
def qX:LSO:=[Aa 68 9,Ad 69 1 8,Ao 1 69 68]
def qW:LSO:=[Aa 70 6,As 71 2 8,BW 72 71,Bt 73 70 72,Aa 6 73]
def qV:LSO:=[Aa 74 10,Aa 5 74]
def qU:LSO:=[Aa 75 5,Aa 76 0,Ap 77 76,A9 78 75 77,Aa 79 78,.grp none 79 false
 [Ag 80 79 0,Ag 81 79 5,Bi 82 79 80 81,og 83 79 false (.bin .eql (tm 82) (.av (.int .u8 44)))]
 84 (tm 83)]
def qT:LSO:=[Aa 85 5,Ah 86 85 1,Aa 5 86]
def qS:LSO:=[Aa 87 4,Aa 88 6,BE 89 88,BF 90 87 89,Aa 4 90]
def qR:LSO:=[Aa 91 5,Aa 92 0,Ap 93 92,A9 94 91 93]
def qQ:LSO:=[Aa 95 4,Aa 2 95,Ab 3 0]
def qP:LSO:=[Aa 96 5,Ah 97 96 1,Aa 5 97]
def qO:LSO:=[Al 2,Ab 3 0]
def oq:be:=⟨98,(.seq (.sreg vT [])
 (.seq (.seq (.sreg vS Ci)
 (.cond (tm 14) (.seq (.sreg vR [])
 .ret)
 .skip))
 (.seq (.sreg vQ [])
 (.seq (.sreg vP [])
 (.seq (.block 0 (.loop (.seq (.seq (.sreg vO Ci)
 (.cond (tm 17) .skip
 (.exit 0)))
 (.block 1 (.seq (.sreg vN [])
 (.seq (.seq (.sreg vM Ci)
 (.cond (tm 20) (.seq (.sreg vL [])
 .ret)
 .skip))
 (.seq (.block 2 (.loop (.block 3 (.seq (.seq (.sreg vK Ci)
 (.cond (tm 23) (.seq (.sreg rl [])
 .ret)
 .skip))
 (.seq (.sreg rk Ch)
 (.seq (.block 4 (.loop (.seq (.seq (.sreg rj Cl)
 (.cond (tm 34) .skip
 (.exit 4)))
 (.block 5 (.sreg ri Ci)))))
 (.seq (.seq (.sreg rh Cl)
 (.cond (tm 48) (.seq (.sreg rf [])
 .ret)
 .skip))
 (.seq (.sreg re Cl)
 (.seq (.seq (.sreg rb Cj)
 (.cond (tm 57) (.seq (.sreg ra [])
 .ret)
 .skip))
 (.seq (.sreg q9 [true,true,true,false,false,false,false,false,false,false,false])
 (.seq (.seq (.sreg qZ Ch)
 (.cond (tm 67) (.seq (.sreg qY [])
 .ret)
 .skip))
 (.seq (.sreg qX CA)
 (.seq (.sreg qW Ck)
 (.seq (.sreg qV Ch)
 (.seq (.seq (.sreg qU Cl)
 (.cond (tm 84) (.exit 2)
 .skip))
 (.sreg qT Ci))))))))))))))))
 (.seq (.sreg qS Ck)
 (.seq (.seq (.sreg qR Cj)
 (.cond (tm 94) (.seq (.sreg qQ Cm)
 .ret)
 .skip))
 (.sreg qP Ci))))))))))
 (.seq (.sreg qO [])
 .ret)))))),[(.tmp 2),(.tmp 3)]⟩
attribute [push_cast] vT vS vR vQ vP vO vN vM vL vK rl rk rj ri rh rf re rb ra q9 qZ qY qX qW qV qU qT qS qR qQ qP qO
theorem La:br Tryz.prog (fun _ _=>1) 131=some oq.raw:=by kernel_rfl
def vi:LSO:=[An 4,Ab 5 0,Ae 6]
def vh:LSO:=[Al 7]
def vg:LSO:=[Ax 8]
def vf:LSO:=[Aa 13 1,Aa 14 0,Ap 15 14,Aj 16 13 15,Aa 17 16,.grp none 17 true
 [Af 18 17 0,Af 19 17 1,AY 20 17 18 19,og 21 17 true (.bin .neq (tm 20) (.av (.int .u8 44)))]
 22 (tm 21),Aa 23 22,.grp none 23 true
 [Af 24 23 0,Af 25 23 1,AY 26 23 24 25,og 27 23 true (.bin .neq (tm 26) (.av (.int .u8 43)))]
 28 (tm 27)]
def ve:LSO:=[Aa 29 0,Aa 30 1,A6 31 29 30,Aa 9 31]
def vd:LSO:=[Aa 32 1,Ah 33 32 1,Aa 1 33]
def vc:LSO:=[Aa 34 1,Aa 35 0,Ap 36 35,A9 37 34 36,Aa 38 37,.grp none 38 false
 [Ag 39 38 0,Ag 40 38 1,Bi 41 38 39 40,og 42 38 false (.bin .eql (tm 41) (.av (.int .u8 44)))]
 43 (tm 42),Aa 44 43,.grp none 44 false
 [Ag 45 44 0,Ag 46 44 1,Bi 47 44 45 46,og 48 44 false (.bin .eql (tm 47) (.av (.int .u8 43)))]
 49 (tm 48),Aa 10 49]
def vb:LSO:=[Aa 50 9,o1 51 (.bin .eql (tm 50) (.av (.int .u8 92)))]
def u9:LSO:=[Aa 52 1,Aa 53 0,Ap 54 53,Aj 55 52 54,Aa 56 55,.grp none 56 true
 [Af 57 56 0,Af 58 56 1,AY 59 56 57 58,og 60 56 true (.call 170 [(tm 59),(.av (.str [34,43,44,59,60,62,92,32,35,61]))])]
 61 (tm 60)]
def u7:LSO:=[Aa 62 7,Aa 63 0,Aa 64 1,A6 65 63 64,AM 66 65,AD 67 62 66,Aa 7 67]
def qj:LSO:=[Aa 68 1,Ah 69 68 1,Aa 1 69]
def qi:LSO:=[Aa 70 1,Ah 71 70 2,Aa 72 0,Ap 73 72,o1 74 (.bin .gtr (tm 71) (tm 73))]
def qh:LSO:=[An 4,Ab 5 0,Ae 6]
def qg:LSO:=[Aa 76 0,Aa 77 1,Aa 78 1,Ah 79 78 2,Br 80 76 77 79,Ak 81 189 80,Aa 75 81,Ar 82 75,Aw 83 75,Aa 11 82,Aa 12 83]
def qf:LSO:=[Aa 84 12,Az 85 84]
def qe:LSO:=[An 4,Ab 5 0,Ae 6]
def qd:LSO:=[Aa 86 7,Aa 87 11,B8 88 87 0,AM 89 88,AD 90 86 89,Aa 7 90]
def qc:LSO:=[Aa 91 1,Ah 92 91 2,Aa 1 92]
def qb:LSO:=[Aa 93 9,BC 94 93,Aa 95 94,.grp none 95 false
 [Ag 96 95 9,og 97 95 false (.call 170 [(tm 96),(.av (.str [34,59,60,62]))])]
 98 (tm 97),Aa 99 98,.grp none 99 false
 [Ag 100 99 8,Ag 101 99 100,.grp (some (99,false)) 101 true
 [Af 102 101 9,og 103 101 true (.call 170 [(tm 102),(.av (.str [32,35]))])]
 104 (tm 103)]
 105 (tm 104),Aa 106 105,.grp none 106 false
 [Ag 107 106 10,Ag 108 106 107,.grp (some (106,false)) 108 true
 [Af 109 108 9,Bj 110 108 109]
 111 (tm 110)]
 112 (tm 111)]
def qa:LSO:=[An 4,Ab 5 0,Ae 6]
def p9:LSO:=[Aa 113 7,Aa 114 9,AM 115 114,AD 116 113 115,Aa 7 116]
def p8:LSO:=[Ae 8]
def p7:LSO:=[Aa 117 7,AO 118 117,Aa 119 1,Aa 4 118,Aa 5 119,Ax 6]
def ol:be:=⟨120,(.seq (.sreg vi [])
 (.seq (.sreg vh [])
 (.seq (.sreg vg [])
 (.seq (.block 0 (.loop (.seq (.seq (.sreg vf Cr)
 (.cond (tm 28) .skip
 (.exit 0)))
 (.block 1 (.seq (.sreg ve Cj)
 (.seq (.sreg vd Ci)
 (.seq (.sreg vc Cu)
 (.seq (.seq (.sreg vb Ch)
 (.cond (tm 51) (.seq (.sreg u9 Cl)
 (.cond (tm 61) (.seq (.sreg u7 Co)
 (.sreg qj Ci))
 (.seq (.seq (.sreg qi Ck)
 (.cond (tm 74) (.seq (.sreg qh [])
 .ret)
 .skip))
 (.seq (.sreg qg CI)
 (.seq (.seq (.sreg qf Ch)
 (.cond (tm 85) (.seq (.sreg qe [])
 .ret)
 .skip))
 (.seq (.sreg qd Cl)
 (.sreg qc Ci)))))))
 (.seq (.seq (.sreg qb Cr)
 (.cond (tm 112) (.seq (.sreg qa [])
 .ret)
 .skip))
 (.sreg p9 Ck))))
 (.sreg p8 [])))))))))
 (.seq (.sreg p7 CB)
 .ret))))),[(.tmp 4),(.tmp 5),(.tmp 6)]⟩
attribute [push_cast] vi vh vg vf ve vd vc vb u9 u7 qj qi qh qg qf qe qd qc qb qa p9 p8 p7
theorem K7:br Tryz.prog (fun _ _=>1) 166=some ol.raw:=by kernel_rfl
def nK:LSO:=[An 2]
def nJ:LSO:=[Al 3]
def nI:LSO:=[Ab 4 0]
def nH:LSO:=[Aa 6 4,Aa 7 0,Ap 8 7,Aj 9 6 8]
def nG:LSO:=[Aa 12 0,Aa 13 4,A6 14 12 13,Aa 5 14]
def nF:LSO:=[Aa 15 5,BC 16 15]
def nE:LSO:=[Aa 17 3,o1 18 (.app 1 1 1 [(.int .u8 0)] (tm 17) (.av (.str [92,48,48]))),Aa 3 18]
def nD:LSO:=[Aa 19 5,o1 20 (.call 170 [(tm 19),(.av (.str [34,43,44,59,60,62,92]))]),Aa 21 20,.grp none 21 false
 [Ag 22 21 4,AA 23 21 22 0,Ag 24 21 23,.grp (some (21,false)) 24 true
 [Af 25 24 5,og 26 24 true (.call 170 [(tm 25),(.av (.str [32,35]))])]
 27 (tm 26)]
 28 (tm 27),Aa 29 28,.grp none 29 false
 [Ag 30 29 4,og 31 29 false (.bin .add (tm 30) (iv 1)),Ag 32 29 0,Bg 33 29 32,og 34 29 false (.bin .eql (tm 31) (tm 33)),Ag 35 29 34,.grp (some (29,false)) 35 true
 [Af 36 35 5,Bj 37 35 36]
 38 (tm 37)]
 39 (tm 38)]
def nC:LSO:=[Aa 40 3,o1 41 (.bslice false 1 1 [(.int .u8 0)] [(0,(1,(.av (.int .u8 92))))]),AD 42 40 41,Aa 3 42]
def nB:LSO:=[Aa 43 3,Aa 44 5,AM 45 44,AD 46 43 45,Aa 3 46]
def mD:LSO:=[Aa 10 4,Ah 11 10 1,Aa 4 11]
def mC:LSO:=[Aa 47 3,AO 48 47,Aa 2 48]
def lp:be:=⟨49,(.seq (.sreg nK [])
 (.seq (.sreg nJ [])
 (.seq (.seq (.sreg nI [])
 (.block 0 (.loop (.seq (.seq (.sreg nH Cj)
 (.cond (tm 9) .skip
 (.exit 0)))
 (.seq (.block 1 (.seq (.sreg nG Cj)
 (.seq (.seq (.sreg nF Ch)
 (.cond (tm 16) (.seq (.sreg nE Ci)
 (.exit 1))
 .skip))
 (.seq (.seq (.sreg nD Cl)
 (.cond (tm 39) (.sreg nC Cj)
 .skip))
 (.sreg nB Ck)))))
 (.sreg mD Ci))))))
 (.seq (.sreg mC Ci)
 .ret)))),[(.tmp 2)]⟩
attribute [push_cast] nK nJ nI nH nG nF nE nD nC nB mD mC
theorem Ii:br Tryz.prog (fun _ _=>1) 197=some lp.raw:=by kernel_rfl
def zH:LSO:=[An 2]
def zG:LSO:=[An 3]
def zF:LSO:=[Aa 8 0,Ai 9 8,Ab 10 0]
def zE:LSO:=[Aj 11 10 9]
def zD:LSO:=[Aa 12 10,Am 13 1 8 10,Ac 14 1 13,Aa 4 12,Aa 5 14]
def zC:LSO:=[Aa 15 4,A0 16 15 0]
def zB:LSO:=[Aa 17 3,o1 18 (.bin .add (tm 17) (.av (.str [44]))),Aa 3 18]
def zA:LSO:=[Aa 19 5,Ai 20 19,Ab 21 0]
def zy:LSO:=[Aj 22 21 20]
def zx:LSO:=[Aa 23 21,Am 24 2 19 21,As 25 2 24,Bb 7,Aa 6 23,Ao 2 7 25]
def vo:LSO:=[Aa 26 6,A0 27 26 0]
def vn:LSO:=[Aa 28 3,o1 29 (.bin .add (tm 28) (.av (.str [43]))),Aa 3 29]
def vm:LSO:=[Aa 30 3,Ad 31 0 7,Ac 32 1 31,AE 33 30 32,o1 34 (.bin .add (tm 33) (.av (.str [61]))),Ad 35 1 7,Ac 36 1 35,Ak 37 197 36,AE 38 34 37,Aa 3 38]
def vl:LSO:=[Ah 39 21 1,Aa 21 39]
def vk:LSO:=[Ah 40 10 1,Aa 10 40]
def vj:LSO:=[Aa 41 3,Aa 2 41]
def sN:be:=⟨42,(.seq (.sreg zH [])
 (.seq (.sreg zG [])
 (.seq (.seq (.sreg zF [])
 (.block 0 (.loop (.seq (.sreg zE [])
 (.seq (.cond (tm 11) .skip
 (.exit 0))
 (.seq (.block 1 (.seq (.sreg zD Cp)
 (.seq (.seq (.sreg zC Ch)
 (.cond (tm 16) (.sreg zB Ci)
 .skip))
 (.seq (.sreg zA [])
 (.block 2 (.loop (.seq (.sreg zy [])
 (.seq (.cond (tm 22) .skip
 (.exit 2))
 (.seq (.block 3 (.seq (.sreg zx Cp)
 (.seq (.seq (.sreg vo Ch)
 (.cond (tm 27) (.sreg vn Ci)
 .skip))
 (.sdreg vm [.pure,.pure,(.read 0 0),.pure,.pure,.pure,(.read 0 0),(.read 0 0)] C7))))
 (.sreg vl Ch))))))))))
 (.sreg vk Ch)))))))
 (.seq (.sreg vj Ch)
 .ret)))),[(.tmp 2)]⟩
attribute [push_cast] zH zG zF zE zD zC zB zA zy zx vo vn vm vl vk vj
theorem Mk:br Tryz.prog (fun _ _=>1) 168=some sN.raw:=by kernel_rfl
def vJ:LSO:=[An 2,Ab 3 0]
def vI:LSO:=[Ab 4 0]
def vH:LSO:=[Aa 9 0,Ai 10 9,Ab 11 0]
def vG:LSO:=[Aj 12 11 10]
def vF:LSO:=[Aa 13 11,Am 14 1 9 11,Ac 15 1 14,Aa 5 13,Aa 6 15]
def vE:LSO:=[Aa 16 5,Au 17 16 32]
def vD:LSO:=[An 2,Ab 3 9]
def vC:LSO:=[Aa 18 6,Ai 19 18,Au 20 19 0]
def vB:LSO:=[An 2,Ab 3 2]
def vA:LSO:=[Aa 21 6,Ai 22 21,Ab 23 0]
def qN:LSO:=[Aj 24 23 22]
def qM:LSO:=[Aa 25 23,Am 26 2 21 23,As 27 2 26,Bb 8,Aa 7 25,Ao 2 8 27]
def qL:LSO:=[Aa 28 7,Au 29 28 8]
def qK:LSO:=[An 2,Ab 3 9]
def qJ:LSO:=[Ad 30 0 8,Ac 31 1 30,Ak 32 134 31,Az 33 32]
def qI:LSO:=[An 2,Ab 3 20]
def qH:LSO:=[Aa 34 6,Aa 35 7,BY 36 34 35,Ad 37 0 8,Ac 38 1 37,Aq 39 165 36 38]
def qG:LSO:=[An 2,Ab 3 21]
def qF:LSO:=[Aa 40 4,Ad 41 1 8,Ac 42 1 41,Ap 43 42,o1 44 (.minmax false [(tm 43),(iv 5000)]),AE 45 40 44,Aa 4 45]
def qE:LSO:=[Ah 46 23 1,Aa 23 46]
def qD:LSO:=[Ah 47 11 1,Aa 11 47]
def qC:LSO:=[Aa 48 4,A0 49 48 4096,Aa 50 49,.grp none 50 false
 [Ag 51 50 0,AL 52 50 168 51,Bg 53 50 52,A8 54 50 53 4096]
 55 (tm 54)]
def qB:LSO:=[An 2,Ab 3 5]
def qA:LSO:=[Aa 56 0,Ak 57 168 56,Aa 2 57,Ab 3 0]
def oo:be:=⟨58,(.seq (.sreg vJ [])
 (.seq (.sreg vI [])
 (.seq (.seq (.sreg vH [])
 (.block 0 (.loop (.seq (.sreg vG [])
 (.seq (.cond (tm 12) .skip
 (.exit 0))
 (.seq (.block 1 (.seq (.sreg vF Cp)
 (.seq (.seq (.sreg vE Ch)
 (.cond (tm 17) (.seq (.sreg vD [])
 .ret)
 .skip))
 (.seq (.seq (.sreg vC Ci)
 (.cond (tm 20) (.seq (.sreg vB [])
 .ret)
 .skip))
 (.seq (.sreg vA [])
 (.block 2 (.loop (.seq (.sreg qN [])
 (.seq (.cond (tm 24) .skip
 (.exit 2))
 (.seq (.block 3 (.seq (.sreg qM Cp)
 (.seq (.seq (.sreg qL Ch)
 (.cond (tm 29) (.seq (.sreg qK [])
 .ret)
 .skip))
 (.seq (.seq (.sreg qJ Cj)
 (.cond (tm 33) (.seq (.sreg qI [])
 .ret)
 .skip))
 (.seq (.seq (.sdreg qH [.pure,.pure,(.read 0 0),.pure,(.read 0 0)] Cl)
 (.cond (tm 39) (.seq (.sreg qG [])
 .ret)
 .skip))
 (.sreg qF Co))))))
 (.sreg qE Ch)))))))))))
 (.sreg qD Ch)))))))
 (.seq (.seq (.sreg qC Cj)
 (.cond (tm 55) (.seq (.sreg qB [])
 .ret)
 .skip))
 (.seq (.sreg qA Cs)
 .ret))))),[(.tmp 2),(.tmp 3)]⟩
attribute [push_cast] vJ vI vH vG vF vE vD vC vB vA qN qM qL qK qJ qI qH qG qF qE qD qC qB qA
theorem K9:br Tryz.prog (fun _ _=>1) 167=some oo.raw:=by kernel_rfl
def vz:LSO:=[Al 2]
def vy:LSO:=[Al 3]
def vx:LSO:=[Aa 12 0,Ai 13 12,Ab 14 0]
def vw:LSO:=[Aj 15 14 13]
def vv:LSO:=[Am 16 1 12 14,Ac 17 1 16,Aa 5 17]
def vu:LSO:=[Al 6]
def vt:LSO:=[Aa 18 5,Ai 19 18,Ab 20 0]
def vr:LSO:=[Aj 21 20 19]
def vq:LSO:=[Am 22 2 18 20,As 23 2 22,Bb 8,Ao 2 8 23]
def vp:List (aj×Kd) :=
 [A4 24 0 8,Ay 25 1 24 0 1,AP 26 39 25 0 1,A4 27 1 8,Ay 28 1 27 0 1,AP 29 90 28 0 1,od 30 (.build [(.str []),(.str [])] [(0,(1,(tm 26))),(1,(1,(tm 29)))]) .pure,
 od 9 (.alloc [(.str []),(.str [])]) .eff]
def ql:List aj :=
 [⟨none,(.store 2 (tm 9) (tm 30)),none⟩]
def qz:LSO:=[Aa 31 6,Ai 32 31,Aa 10 32]
def qy:LSO:=[Aa 33 10,A0 34 33 0,Aa 35 34,.grp none 35 true
 [Af 36 35 6,Af 37 35 10,Cb 38 35 37 1,Bz 39 35 2 36 38,AT 40 35 0 39,AN 41 35 1 40,og 42 35 true (.bin .add (tm 41) (.av (.str [61]))),Af 43 35 6,Af 44 35 10,Cb 45 35 44 1,
 Bz 46 35 2 43 45,AT 47 35 1 46,AN 48 35 1 47,AX 49 35 197 48,Cd 50 35 42 49,AT 51 35 0 9,AN 52 35 1 51,og 53 35 true (.bin .add (tm 52) (.av (.str [61]))),AT 54 35 1 9,
 AN 55 35 1 54,AX 56 35 197 55,Cd 57 35 53 56,og 58 35 true (.bin .gtr (tm 50) (tm 57))]
 59 (tm 58)]
def qx:LSO:=[Aa 60 10,Bd 61 60 1,Aa 10 61]
def qw:LSO:=[Al 11]
def qv:LSO:=[Aa 62 11,Aa 63 6,Aa 64 10,BY 65 63 64,Bt 66 62 65,Aa 11 66]
def qu:LSO:=[Aa 67 11,As 68 2 9,BW 69 68,Bt 70 67 69,Aa 11 70]
def qt:LSO:=[Aa 71 11,Aa 72 6,Aa 73 10,o1 74 (.slV 2 (tm 72) (some (tm 73)) none none),Bt 75 71 74,Aa 11 75]
def qq:LSO:=[Aa 76 11,Aa 6 76]
def qp:LSO:=[Ah 77 20 1,Aa 20 77]
def qo:LSO:=[Aa 78 3,Aa 79 6,BE 80 79,BF 81 78 80,Aa 3 81]
def qn:LSO:=[Ah 82 14 1,Aa 14 82]
def qm:LSO:=[Aa 83 3,Aa 2 83]
def om:be:=⟨84,(.seq (.sreg vz [])
 (.seq (.sreg vy [])
 (.seq (.seq (.sreg vx [])
 (.block 0 (.loop (.seq (.sreg vw [])
 (.seq (.cond (tm 15) .skip
 (.exit 0))
 (.seq (.block 1 (.seq (.sreg vv Ci)
 (.seq (.sreg vu [])
 (.seq (.seq (.sreg vt [])
 (.block 2 (.loop (.seq (.sreg vr [])
 (.seq (.cond (tm 21) .skip
 (.exit 2))
 (.seq (.block 3 (.seq (.sreg vq Ci)
 (.seq (.dregM vp ql Cr)
 (.seq (.sreg qz Ci)
 (.seq (.block 4 (.loop (.seq (.seq (.sdreg qy [.pure,.pure,.pure,.pure,.pure,.pure,(.read 0 0),.pure,(.read 0 0),.pure,.pure,.pure,.pure,(.read 0 0),.pure,(.read 0 0),(.read 0 0),.pure,.pure,(.read 0 0),.pure,.pure,(.read 0 0),(.read 0 0),.pure] Cj)
 (.cond (tm 59) .skip
 (.exit 4)))
 (.block 5 (.sreg qx Ci)))))
 (.seq (.sreg qw [])
 (.seq (.sreg qv Cl)
 (.seq (.sreg qu Ck)
 (.seq (.sreg qt Cl)
 (.sreg qq Ch))))))))))
 (.sreg qp Ch)))))))
 (.sreg qo Ck)))))
 (.sreg qn Ch)))))))
 (.seq (.sreg qm Ch)
 .ret)))),[(.tmp 2)]⟩
attribute [push_cast] vz vy vx vw vv vu vt vr vq vp ql qz qy qx qw qv qu qt qq qp qo qn qm
theorem K8:br Tryz.prog (fun _ _=>1) 169=some om.raw:=by kernel_rfl
def zU:LSO:=[An 2,Ab 3 0]
def zT:LSO:=[Aa 7 0,Ak 8 167 7,Aa 6 8,Ar 9 6,Aw 10 6,Aa 4 9,Aa 5 10]
def zS:LSO:=[Aa 11 5,AC 12 11 0]
def zR:LSO:=[Aa 13 5,An 2,Aa 3 13]
def zQ:LSO:=[Aa 14 0,Ak 15 169 14,Ak 16 168 15,Aa 2 16,Ab 3 0]
def sP:be:=⟨17,(.seq (.sreg zU [])
 (.seq (.sreg zT Co)
 (.seq (.seq (.sreg zS Ch)
 (.cond (tm 12) (.seq (.sreg zR Cm)
 .ret)
 .skip))
 (.seq (.sreg zQ Cp)
 .ret)))),[(.tmp 2),(.tmp 3)]⟩
attribute [push_cast] zU zT zS zR zQ
theorem Mm:br Tryz.prog (fun _ _=>1) 132=some sP.raw:=by kernel_rfl
def Gu:LSO:=[An 2,Ab 3 0]
def Gt:LSO:=[Aa 7 0,Ak 8 131 7,Aa 6 8,Ar 9 6,Aw 10 6,Aa 4 9,Aa 5 10]
def Gs:LSO:=[Aa 11 5,AC 12 11 0]
def Gr:LSO:=[Aa 13 5,An 2,Aa 3 13]
def Gq:LSO:=[Aa 14 4,Ak 15 132 14,Ar 16 15,Aw 17 15,Aa 2 16,Aa 3 17]
def EA:be:=⟨18,(.seq (.sreg Gu [])
 (.seq (.sreg Gt Cw)
 (.seq (.seq (.sreg Gs Ch)
 (.cond (tm 12) (.seq (.sreg Gr Cm)
 .ret)
 .skip))
 (.seq (.sreg Gq C4)
 .ret)))),[(.tmp 2),(.tmp 3)]⟩
attribute [push_cast] Gu Gt Gs Gr Gq
theorem NZ:br Tryz.prog (fun _ _=>1) 92=some EA.raw:=by kernel_rfl
attribute [push_cast] sO Ij Ez ol lp sN oo om sP EA
variable {L:List Blk} {K:abD}
set_option maxHeartbeats 8000000
set_option maxRecDepth 100000
theorem jw {l:List UInt8} {x:UInt8} (hn:l.length<=1100000) (h:K (.bool (l.contains x)) L) :
  abC 170 [.int .u8 x.toNat,.str l] L K:=by
 replace h:=hid h;refine abB Oy ?_;refine ak (fun n T' L'=>∃ (i:Nat),n=l.length - i/\i<=l.length/\Hid (∀ j,j<i->l.getD j 0≠x)/\T'=[(5,.int .i64 (i:Int)),(0,.int .u8 x.toNat),(1,.str l)]/\L=L') (CutS (b:=abF _)) ⟨0,rfl,abL _,hid (by simp),rfl,rfl⟩ ?_;rintro _ _ _ ⟨i,rfl,hi,hno,rfl,rfl⟩;by_cases hlt:i<l.length
 ·have h1:(i:Int)<(l.length:Int):=by omega
  have h2:=abA i (by omega);obtain ⟨p,hp⟩:=aby (l.getD i 0);by_cases hpq:p=x
  ·have hc:l.contains x=true:=by
    rw [acx,<- hpq,<- hp,ab5,abV hlt];exact acN _
   have h':=h.out;rw [hc] at h';replace h':=hid h';clear hc;subst hpq;refine wk ?_;exact aa h'.out
  ·have k1:¬ (p.toNat:Int)=(x.toNat:Int):=fun e=>hpq ((bu p x).1 e)
   have hp':=hid hp;refine wk ?_;refine ai _ _ _ (by omega) (CutS (b:=abF _)) ⟨i+1,rfl,hlt,hid fun j hj=>?_,rfl,rfl⟩;rcases abX j i with e|e
   ·exact hno.out j e
   ·have:j=i:=by omega
    subst this;rw [hp];exact hpq
 ·have hke:i=l.length:=by omega
  subst hke;have h1:¬ (l.length:Int)<(l.length:Int):=by omega
  have hc:l.contains x=false:=by
   rw [<- ac7,acx];intro hm;obtain ⟨j,hj,e⟩:=acV.1 hm;exact hno.out j hj (by simp [hj,e])
  have h':=h.out;rw [hc] at h';replace h':=hid h';clear hc;refine wk ?_;exact aa h'.out
abbrev kW:List UInt8:=[97,98,99,100,101,102,103,104,105,106,107,108,109,110,111,112,113,114,115,116,117,118,119,120,121,122]
abbrev Pu:List UInt8:=[48,49,50,51,52,53,54,55,56,57,45]
theorem Y0:∀ n:_root_.Fin 256,kW.contains (dp (UInt8.ofNat n.val))=kZ (n.val:Int)/\(kW.contains (dp (UInt8.ofNat n.val)) || Pu.contains (dp (UInt8.ofNat n.val)))=Iy (n.val:Int):=by decide +kernel
theorem P7 (c:UInt8):kW.contains (dp c)=kZ (c.toNat:Int)/\(kW.contains (dp c) || Pu.contains (dp c))=Iy (c.toNat:Int):=by
 have:=Y0 ⟨c.toNat,c.toNat_lt⟩;simpa using this
def okC (j:Nat) (c:UInt8):Bool:=kW.contains (dp c) || (decide (0<j) && Pu.contains (dp c))
theorem V5 (s:List UInt8):fc s=true↔(1<=s.length/\s.length<=32)/\∀ j,j<s.length->okC j (s.getD j 0)=true:=by
 simp only [fc,abK,decide_eq_true_eq,abO];constructor
 ·rintro ⟨⟨⟨h1,h2⟩,h3⟩,h4⟩;refine ⟨⟨h1,h2⟩,fun j hj=>?_⟩;obtain ⟨e1,e2⟩:=P7 (s.getD j 0);by_cases h0:j=0
  ·subst h0;rw [okC,e1,h3];rfl
  ·have hm:s.getD j 0∈s:=by simp [hj]
   have:=h4 _ hm;rw [<- e2] at this;rw [okC,show decide (0<j)=true by simp;omega,acy];exact this
 ·rintro ⟨⟨h1,h2⟩,h3⟩;refine ⟨⟨⟨h1,h2⟩,?_⟩,fun c hc=>?_⟩
  ·have:=h3 0 (by omega);rw [okC] at this;simp only [Nat.lt_irrefl,decide_false,adb,adK] at this;rw [<- (P7 _).1];exact this
  ·obtain ⟨j,hj,rfl⟩:=acV.1 hc;have:=h3 j hj;have e:s.getD j 0=s[j]:=by simp [hj]
   rw [e,okC] at this;rw [<- (P7 _).2];cases hl:kW.contains (dp s[j]) with
   | true=>rfl
   | false =>
     rw [hl,ac8,abK] at this;rw [this.2];rfl
theorem QK {s:List UInt8} (hs:(s.length:Int)<=140737488351232) (h:K (.bool (fc s)) L):abC 134 [.str s] L K:=by
 replace h:=hid h;obtain ⟨t,ht⟩:=aby (ab s);have htl:t.length=s.length:=by rw [<- ht];simp [ab]
 have hg:∀ j,j<s.length->t.getD j 0=dp (s.getD j 0):=fun j hj=>by rw [<- ht];simp [ab,hj]
 replace htl:=hid htl;replace hg:=hid hg;have hit:=hid (V5 s);refine abB Ml ?_;refine bL hs ?_;rw [ht];refine sk ?_;refine wk ?_;refine ak (fun n T' L'=>∃ (i:Nat) (b:Bool),n=s.length+1 - i/\i<=s.length/\Hid (b=true↔(1<=s.length/\s.length<=32)/\∀ j,j<i->okC j (s.getD j 0)=true)/\T'=[(5,.int .i64 (i:Int)),(4,.bool b),(3,.str t)]/\L=L') (CutS (b:=abF _)) ⟨0,_,rfl,abL _,hid (by have:=htl.out;simp;omega),rfl,rfl⟩ ?_;rintro _ _ _ ⟨i,b,rfl,hi,hb,rfl,rfl⟩;have htl':=htl.out;by_cases hlt:i<s.length
 ·have g1:(i:Int)<(t.length:Int):=by omega
  have g2:=abA i (by omega);have g3:=hg.out i hlt;obtain ⟨c,hc⟩:=aby (s.getD i 0);rw [hc] at g3;replace hc:=hid hc;clear htl';cases b with
  | false =>
    have hf:fc s=false:=by
     rw [<- ac7,hit.out];intro ⟨q1,q2⟩;have:=hb.out.2 ⟨q1,fun j hj=>q2 j (by omega)⟩;cases this
    have h':=h.out;rw [hf] at h';replace h':=hid h';clear hf;refine wk ?_;exact aa h'.out
  | true =>
    have hnext:okC i c=true↔((1<=s.length/\s.length<=32)/\∀ j,j<i+1->okC j (s.getD j 0)=true):=by
     have hb1:=hb.out.1 rfl;constructor
     ·intro e;refine ⟨hb1.1,fun j hj=>?_⟩;rcases abX j i with q|q
      ·exact hb1.2 j q
      ·have:j=i:=by omega
       subst this;rw [hc.out];exact e
     ·rintro ⟨_,e⟩;have:=e i (by omega)
      rwa [hc.out] at this
    replace hnext:=hid hnext;have hok:okC i c=(kW.contains (dp c) || (decide (0<i) && Pu.contains (dp c))):=rfl;replace hok:=hid hok;refine wk ?_;refine jw (by simp) ?_;cases hl:kW.contains (dp c) with
    | true =>
      have hk:=hid (show okC i c=true by rw [hok.out,hl];rfl);refine sk ?_;refine wk ?_;exact ai _ _ _ (by omega) (CutL (b:=abF _)) ⟨i+1,true,rfl,hlt,hid (by rw [<- hnext.out,hk.out]),rfl,rfl⟩
    | false =>
      by_cases h0:i=0
      ·have hk:=hid (show okC i c=false by rw [hok.out,hl,h0];rfl);have k0:¬ (0:Int)<(i:Int):=by omega
       clear h0;refine sk ?_;refine wk ?_;exact ai _ _ _ (by omega) (CutL (b:=abF _)) ⟨i+1,false,rfl,hlt,hid (by rw [<- hnext.out,hk.out]),rfl,rfl⟩
      ·have hk:=hid (show okC i c=Pu.contains (dp c) by rw [hok.out,hl,show decide (0<i)=true by simp;omega];simp);have k0:(0:Int)<(i:Int):=by omega
       clear h0;refine sk ?_
       repeat' first
        | refine a8 ?_
        | (first|refine aU (by kernel_rfl) ?_|refine aB (by kernel_rfl) ?_|refine aE ?_|refine bI ?_|refine bf (fun _=>?_)|refine ay ?_|refine aW ?_)
          refine sm ?_
        | (first|refine aO (by kernel_rfl) ?_|refine aP ?_|refine aD ?_|refine aV ?_|refine bp (ax ?_))
          refine sl ?_
        | exact bg
        | first|apply bh|apply aR|apply bj|apply aS|apply bm|apply aT
        | refine aH ?_
        | refine aC ?_
        | first|refine aF rfl ?_|refine aG rfl ?_|refine an rfl ?_ ?_|refine aJ rfl (fun _=>?_) (fun _=>?_)|refine aI rfl (fun _=>?_) (fun _=>?_)
        | ((first|refine am (fun _=>?_) (fun _=>?_)|refine aw (fun _=>?_) (fun _=>?_))<;>try refine sm ?_)
        | refine And.intro trivial ?_
        | refine And.intro (by omega) ?_
        | refine aM rfl (fun _=>?_) (fun _=>?_)
        | refine And.intro ?_ ?_
       refine aN (jw (by simp) ⟨rfl,rfl⟩) ?_;simp only [Kon,push_cast,reduceIte,Nat.reduceEqDiff,Nat.reduceAdd,Nat.reduceMul,Nat.reduceSub,Nat.reduceLT,Nat.reduceLeDiff,Int.reduceLT,Int.reduceLE,Int.reduceAdd,Int.reduceSub,Int.reduceNeg,Int.reduceToNat,Int.reduceEq,reduceCtorEq, *]
       repeat' first
        | refine a8 ?_
        | (first|refine aU (by kernel_rfl) ?_|refine aB (by kernel_rfl) ?_|refine aE ?_|refine bI ?_|refine bf (fun _=>?_)|refine ay ?_|refine aW ?_)
          refine sm ?_
        | (first|refine aO (by kernel_rfl) ?_|refine aP ?_|refine aD ?_|refine aV ?_|refine bp (ax ?_))
          refine sl ?_
        | exact bg
        | first|apply bh|apply aR|apply bj|apply aS|apply bm|apply aT
        | refine aH ?_
        | refine aC ?_
        | first|refine aF rfl ?_|refine aG rfl ?_|refine an rfl ?_ ?_|refine aJ rfl (fun _=>?_) (fun _=>?_)|refine aI rfl (fun _=>?_) (fun _=>?_)
        | ((first|refine am (fun _=>?_) (fun _=>?_)|refine aw (fun _=>?_) (fun _=>?_))<;>try refine sm ?_)
        | refine And.intro trivial ?_
        | refine And.intro (by omega) ?_
        | refine aM rfl (fun _=>?_) (fun _=>?_)
        | refine And.intro ?_ ?_
       exact ai _ _ _ (by omega) (CutL (b:=abF _)) ⟨i+1,Pu.contains (dp c),rfl,hlt,hid (by rw [<- hnext.out,hk.out]),rfl,rfl⟩
 ·have hke:i=s.length:=by omega
  subst hke;have g1:¬ (s.length:Int)<(t.length:Int):=by omega
  have hfin:b=fc s:=by
   have e:=hb.out.trans hit.out.symm;cases b<;>cases hs':fc s<;>simp_all
  have h':=h.out;rw [<- hfin] at h';replace h':=hid h';clear hfin;clear htl';refine wk ?_;exact aa h'.out
theorem PO {s:List UInt8} (hs:(s.length:Int)<=100000) (h:K (.bool (fc s)) L):abC 134 [.str s] L K:=QK (by omega) h
theorem Wp {r:List Ava} {typ:List UInt8} {cap:Option Nat} (hn:r.length<=100000) (h1:∀ a∈r,(a.1.length:Int)<=100000) (h2:(typ.length:Int)<=100000) (h:K (.bool (gT r typ)) L) :
  abC 165 [Sf r cap,.str typ] L K:=by
 replace h:=hid h;replace h1:=hid h1;refine abB NY ?_;refine ak (fun n T' L'=>∃ (k:Nat) (Z:List Blk),n=r.length - k/\k<=r.length/\Hid (gT (r.take k) typ=false)/\T'=[(9,.int .i64 (k:Int)),(8,.int .i64 r.length),(7,Sf r cap),(1,.str typ)]/\L'=L++Z) (CutS (b:=by simp)) ⟨0,[],rfl,abL _,hid rfl,rfl,by simp⟩ ?_;rintro _ _ _ ⟨k,Z,rfl,hk,hf,rfl,rfl⟩;by_cases hlt:k<r.length
 ·have g1:(k:Int)<(r.length:Int):=by omega
  have g2:=abA k (by omega);have e1:=eM hlt;have e2:k * 2+2<=(aZ r).length:=by rw [dw];omega
  obtain ⟨⟨ty,va⟩,ha⟩:∃ a,r.getD k ([],[])=a:=⟨_,rfl⟩;have ham:(ty,va)∈r:=by rw [<- ha];simp [hlt]
  have htk:r.take (k+1)=r.take k++[(ty,va)]:=by rw [ab2 hlt,<- ha];simp [hlt]
  rw [ha] at e1;simp only [mY] at e1;have hs:gT (r.take (k+1)) typ=decide (ab ty=ab typ):=by
   have:=hf.out;simp only [gT] at this ⊢;rw [htk,aek,this];simp
  have ha1:=h1.out _ ham;simp only at ha1;have hall:ab ty=ab typ->gT r typ=true:=fun e=>ad3.2 ⟨_,ham,by simpa using e⟩
  replace hall:=hid hall;replace hs:=hid hs;clear ha ham htk;by_cases hq:ab ty=ab typ
  ·have h':=h.out;rw [hall.out hq] at h';replace h':=hid h';have kk1:=@hid _ (fun L K=>jp ha1 (L:=L) (K:=K));have kk2:=@hid _ (fun L K=>jp h2 (L:=L) (K:=K));refine wk ?_;exact ae rfl h'.out
  ·have kk1:=@hid _ (fun L K=>jp ha1 (L:=L) (K:=K));have kk2:=@hid _ (fun L K=>jp h2 (L:=L) (K:=K));refine wk ?_;exact ai _ _ _ (by omega) (CutL (b:=by simp)) ⟨k+1,_,rfl,hlt,hid (by rw [hs.out];simpa using hq),rfl,rfl⟩
 ·have hke:k=r.length:=by omega
  subst hke;have g1:¬ (r.length:Int)<(r.length:Int):=by omega
  have hn':=hf.out;rw [abY] at hn';have h':=h.out;rw [hn'] at h';replace h':=hid h';clear hn';refine wk ?_;exact ae rfl h'.out
theorem jd {s:List UInt8} (hs:s.length<=100000) (h:K (.str (dU s)) L):abC 197 [.str s] L K:=by
 replace h:=hid h;refine abB Ii ?_;refine cH (l:=[]) (n:=0) 3 1 rfl (acf 1).symm ?_;refine ak (fun n T' L'=>∃ (i m:Nat) (b:List UInt8),n=s.length - i/\i<=s.length/\m<=3 * i/\Hid (m=b.length/\b++wrL s.length i (s.drop i)=dU s)/\T'=[(4,.int .i64 (i:Int)),(3,.gsl (u8s b) m L.length 1),(0,.str s)]/\L'=L++[.spare m 1]) (CutS (b:=by simp)) ⟨0,0,[],rfl,abL _,by omega,hid ⟨rfl,rfl⟩,rfl,rfl⟩ ?_;rintro _ _ _ ⟨i,m,b,rfl,hi,hm,hb,rfl,rfl⟩;by_cases hlt:i<s.length
 ·have g1:(i:Int)<(s.length:Int):=by omega
  have g2:=abA i (by omega);obtain ⟨c,hc⟩:=aby (s.getD i 0);have hdr:=iZ hlt;rw [hc] at hdr;have hb2:=hb.out.2;rw [hdr] at hb2;simp only [wrL] at hb2;clear hdr;replace hb2:=hid hb2;obtain ⟨p1,hp1⟩:=aby (([34,43,44,59,60,62,92]:List UInt8).contains c);obtain ⟨p2,hp2⟩:=aby (([32,35]:List UInt8).contains c);have hq1:p1=true↔c∈([34,43,44,59,60,62,92]:List UInt8):=by rw [<- hp1,acx]
  have hq2:p2=true↔(c=32\/c=35):=by rw [<- hp2,acx];simp
  replace hq1:=hid hq1;replace hq2:=hid hq2
  repeat' first
   | refine a8 ?_
   | (first|refine aU (by kernel_rfl) ?_|refine aB (by kernel_rfl) ?_|refine aE ?_|refine bI ?_|refine bf (fun _=>?_)|refine ay ?_|refine aW ?_|refine jw (by simp) ?_|refine bo (jw (by simp) ⟨rfl,rfl⟩) (jw (by simp) ⟨rfl,rfl⟩) ?_|refine aN (jw (by simp) ⟨rfl,rfl⟩) ?_)
     refine sm ?_
   | (first|refine aO (by kernel_rfl) ?_|refine aP ?_|refine aD ?_|refine aV ?_|refine bp (ax ?_))
     refine sl ?_
   | exact bg
   | first|apply bh|apply aR|apply bj|apply aS|apply bm|apply aT
   | refine aH ?_
   | refine aC ?_
   | first|refine aF rfl ?_|refine aG rfl ?_|refine an rfl ?_ ?_|refine aJ rfl (fun _=>?_) (fun _=>?_)|refine aI rfl (fun _=>?_) (fun _=>?_)
   | ((first|refine am (fun _=>?_) (fun _=>?_)|refine aw (fun _=>?_) (fun _=>?_))<;>try refine sm ?_)
   | refine And.intro trivial ?_
   | refine And.intro (by omega) ?_
   | refine aM rfl (fun _=>?_) (fun _=>?_)
   | refine And.intro ?_ ?_
  ·rfl
  ·omega
  ·rename_i h0
   have hc0:=(bu c 0).1 h0;rw [show u8s b++AV.frzL (u8s [92,48,48])=u8s (b++[92,48,48]) by simp [u8s,AV.frzL,AV.frz]];refine ai _ _ _ (by omega) (CutL (b:=by simp)) ⟨i+1,m+3,b++[92,48,48],rfl,hlt,by omega,hid ⟨by simp [hb.out.1],?_⟩,rfl,rfl⟩;rw [<- hb2.out,wrB,if_pos hc0,abT]
  ·rename_i h0 h1
   have hc0:¬ c=0:=fun e=>h0 ((bu c 0).2 e)
   have hq:(i=0/\(c=32\/c=35))\/(i+1=s.length/\c=32)\/c∈[34,43,44,59,60,62,92]:=by
    simp only [ace,abK,decide_eq_true_eq] at h1;rcases h1 with (e|⟨e1,e2⟩)|⟨e1,e2⟩
    ·exact .inr (.inr (hq1.out.1 e))
    ·exact .inl ⟨by omega,hq2.out.1 e2⟩
    ·exact .inr (.inl ⟨by omega,(bu c 32).1 e2⟩)
   rw [show u8s b++[AV.int IntKind.u8 92,AV.int IntKind.u8 (c.toNat:Int)]=u8s (b++[92,c]) by simp [u8s]];refine ai _ _ _ (by omega) (CutL (b:=by simp)) ⟨i+1,m+1+1,b++[92,c],rfl,hlt,by omega,hid ⟨by simp [hb.out.1],?_⟩,rfl,rfl⟩;rw [<- hb2.out,wrB,if_neg hc0,if_pos hq,abT]
  ·rename_i h0 h1
   have hc0:¬ c=0:=fun e=>h0 ((bu c 0).2 e)
   have hq:¬ ((i=0/\(c=32\/c=35))\/(i+1=s.length/\c=32)\/c∈[34,43,44,59,60,62,92]):=fun hq=>by
    rw [<- ac7] at h1;refine h1 ?_;simp only [ace,abK,decide_eq_true_eq];rcases hq with ⟨e1,e2⟩|⟨e1,e2⟩|e
    ·exact .inl (.inr ⟨by omega,hq2.out.2 e2⟩)
    ·exact .inr ⟨by omega,(bu c 32).2 e2⟩
    ·exact .inl (.inl (hq1.out.2 e))
   rw [show u8s b++[AV.int IntKind.u8 (c.toNat:Int)]=u8s (b++[c]) by simp [u8s]];refine ai _ _ _ (by omega) (CutL (b:=by simp)) ⟨i+1,m+1,b++[c],rfl,hlt,by omega,hid ⟨by simp [hb.out.1],?_⟩,rfl,rfl⟩;rw [<- hb2.out,wrB,if_neg hc0,if_neg hq,abT]
 ·have hke:i=s.length:=by omega
  subst hke;have g1:¬ (s.length:Int)<(s.length:Int):=by omega
  have e1:=fM b;have e2:=fa b;have e:=hb.out.2;rw [acm,wrL,acj] at e;have h':=h.out;rw [<- e] at h';replace h':=hid h';clear e;refine wk ?_;exact ae rfl h'.out
def Vp (n:Nat):Nat:=if n<10 then 48+n else 87+n
theorem xF {n:Nat} (hn:n<16) (h:K (.int .u8 (Vp n:Nat)) L):abC 221 [.int .u8 n] L K:=by
 unfold Vp at h;refine ad Lb (by simp [ot]) ?_;simp only [ot,ao];by_cases h1:n<10
 ·rw [if_pos h1] at h;replace h:=hid h;have k1:(n:Int)<10:=by omega
  have k2:IntKind.u8.wrap (48+(n:Int))=48+(n:Int):=cx (by omega) (by omega);clear h1;refine wk ?_;refine aa ?_;simpa using h.out
 ·rw [if_neg h1] at h;replace h:=hid h;have k1:¬ (n:Int)<10:=by omega
  have k2:IntKind.u8.wrap (97+(n:Int))=97+(n:Int):=cx (by omega) (by omega);have k3:IntKind.u8.wrap (97+(n:Int) - 10)=97+(n:Int) - 10:=cx (by omega) (by omega);clear h1;refine wk ?_;refine aa ?_;have:=h.out
  rwa [show ((87+n:Nat):Int)=97+(n:Int) - 10 by omega] at this
theorem Y8:∀ (a:_root_.Fin 256) (x:_root_.Fin 16),(Vp x.val=(dp (UInt8.ofNat a.val)).toNat)↔gH (UInt8.ofNat a.val)=some x.val:=by decide +kernel
theorem aa4 {a:UInt8} {x:Nat} (hx:x<16):((Vp x:Nat):Int)=((dp a).toNat:Int)↔gH a=some x:=by
 have:=Y8 ⟨a.toNat,a.toNat_lt⟩ ⟨x,hx⟩;simp only [UInt8.ofNat_toNat] at this;rw [<- this];omega
def SH (a b:UInt8) (k:Nat):Prop:=gH a=some (k / 16)/\gH b=some (k % 16)
theorem U2 {a b:UInt8} {k:Nat} (h:SH a b k):Ke a b=some (UInt8.ofNat k):=by
 obtain ⟨h1,h2⟩:=h;simp only [Ke,h1,h2]
 congr 2;omega
theorem U3 {a b:UInt8} (h:∀ j,j<256->¬ SH a b j):Ke a b=none:=by
 unfold Ke;rcases h1:gH a with _|x
 ·rfl
 ·rcases h2:gH b with _|y
  ·rfl
  ·have:=EZ h1;have:=EZ h2;exact absurd ⟨by rw [h1];congr 1;omega,by rw [h2];congr 1;omega⟩ (h (16 * x+y) (by omega))
theorem Uz {a b:UInt8} (h:K (H5 a b) L):abC 189 [.str [a,b]] L K:=by
 obtain ⟨p,hp⟩:=aby (dp a);obtain ⟨q,hq⟩:=aby (dp b);have hf:ab [a,b]=[p,q]:=by simp [ab,hp,hq]
 have hl:[p,q].length=2:=rfl;have hl':[a,b].length=2:=rfl;have ha:[p,q].getD 0 0=p:=rfl;have hb:[p,q].getD 1 0=q:=rfl;have d1:Int.tmod 2 2=0:=by decide
 replace h:=hid h;refine abB Lc ?_;refine jp (by simp) ?_;rw [hf];refine sk ?_;refine wk ?_;refine cH (l:=[]) (n:=0) 4 1 rfl (acf 1).symm ?_;refine ak (fun n T' L'=>(n=1/\T'=[(6,.int .i64 0),(4,.gsl [] 0 L.length 1),(5,.str [p,q]),(0,.str [a,b])]/\L'=L++[.spare 0 1])\/(n=0/\∃ (x:UInt8) (w:List AV),Hid (Ke a b=some x/\w=u8s [x])/\T'=[(6,.int .i64 2),(4,.gsl w 1 L.length 1),(5,.str [p,q]),(0,.str [a,b])]/\L'=L++[.spare 1 1])) (n0:=1) (T0:=[(6,.int .i64 0),(4,.gsl [] 0 L.length 1),(5,.str [p,q]),(0,.str [a,b])]) (L0:=L++[.spare 0 1]) (CutS (b:=by simp)) (.inl ⟨rfl,rfl,rfl⟩) ?_;rintro _ _ _ (⟨rfl,rfl,rfl⟩|⟨rfl,x,w,hx,rfl,rfl⟩)
 ·refine wk ?_;refine ak (fun n T' L'=>(∃ k:Nat,n=257 - k/\k<=256/\Hid (∀ j,j<k->¬ SH a b j)/\T'=[(8,.int .i64 (k:Int)),(7,.bool false),(6,.int .i64 0),(4,.gsl [] 0 L.length 1),(5,.str [p,q]),(0,.str [a,b])]/\L'=L++[.spare 0 1])\/(n=0/\∃ (x:UInt8) (k:Nat) (w:List AV),k<=256/\Hid (Ke a b=some x/\w=u8s [x])/\T'=[(8,.int .i64 (k:Int)),(7,.bool true),(6,.int .i64 0),(4,.gsl w 1 L.length 1),(5,.str [p,q]),(0,.str [a,b])]/\L'=L++[.spare 1 1])) (n0:=257) (T0:=[(8,.int .i64 0),(7,.bool false),(6,.int .i64 0),(4,.gsl [] 0 L.length 1),(5,.str [p,q]),(0,.str [a,b])]) (L0:=L++[.spare 0 1]) (CutS (b:=by simp)) (.inl ⟨0,rfl,by omega,hid (by simp),rfl,rfl⟩) ?_;rintro _ _ _ (⟨k,rfl,hk,hno,rfl,rfl⟩|⟨rfl,x,k,w,hk,hx,rfl,rfl⟩)
  ·by_cases hlt:k<256
   ·have g1:(k:Int)<256:=by omega
    have g2:=abA k (by omega);have g3:IntKind.u8.wrap (k:Int)=(k:Int):=cx (by omega) (by omega);obtain ⟨u,hu⟩:=aby (k / 16);obtain ⟨v,hv⟩:=aby (k % 16);have hu16:u<16:=by omega
    have hv16:v<16:=by omega
    have g4:IntKind.i64.wrap (Int.tdiv (k:Int) 16)=(u:Int):=by
     rw [Int.tdiv_eq_ediv_of_nonneg (by omega),ac (by omega) (by omega)];omega
    have g5:IntKind.u8.wrap (u:Int)=(u:Int):=cx (by omega) (by omega);have g6:Int.tmod (k:Int) 16=(v:Int):=by
     rw [adC (by omega)];omega
    have g7:IntKind.u8.wrap (v:Int)=(v:Int):=cx (by omega) (by omega);have m1:=aa4 (a:=a) hu16;have m2:=aa4 (a:=b) hv16;rw [hp] at m1;rw [hq] at m2;have mk:SH a b k↔gH a=some u/\gH b=some v:=by unfold SH;rw [hu,hv]
    replace hu:=hid hu;replace hv:=hid hv;replace mk:=hid mk;have nxt:=hid fun (e:¬ SH a b k)=>show ∀ j,j<k+1->¬ SH a b j from fun j hj=>by
     rcases abX j k with e'|e'
     ·exact hno.out j e'
     ·rw [show j=k by omega];exact e
    by_cases h1:gH a=some u
    ·have k1:=m1.2 h1;by_cases h2:gH b=some v
     ·have k2:=m2.2 h2;have hx:=U2 (mk.out.2 ⟨h1,h2⟩);have hkk:((UInt8.ofNat k).toNat:Int)=(k:Int):=by simp;omega
      replace hkk:=hid hkk;replace hx:=hid hx;clear m1 m2 h1 h2;have kk1:=@hid _ (fun L K=>xF hu16 (L:=L) (K:=K));have kk2:=@hid _ (fun L K=>xF hv16 (L:=L) (K:=K));refine wk ?_;refine ai _ _ _ (by omega) (CutL (b:=by simp)) (.inr ⟨rfl,UInt8.ofNat k,k+1,_,by omega,hid ⟨hx.out,?_⟩,rfl,rfl⟩);simp only [u8s,List.map,hkk.out]
     ·have k2:¬ ((Vp v:Nat):Int)=(q.toNat:Int):=fun e=>h2 (m2.1 e)
      have hn:=hid (nxt.out fun e=>h2 (mk.out.1 e).2);clear m1 m2 h1 h2;have kk1:=@hid _ (fun L K=>xF hu16 (L:=L) (K:=K));have kk2:=@hid _ (fun L K=>xF hv16 (L:=L) (K:=K));refine wk ?_;exact ai _ _ _ (by omega) (CutL (b:=by simp)) (.inl ⟨k+1,rfl,by omega,hn,rfl,rfl⟩)
    ·have k1:¬ ((Vp u:Nat):Int)=(p.toNat:Int):=fun e=>h1 (m1.1 e)
     have hn:=hid (nxt.out fun e=>h1 (mk.out.1 e).1);clear m1 m2 h1;have kk1:=@hid _ (fun L K=>xF hu16 (L:=L) (K:=K));refine wk ?_;exact ai _ _ _ (by omega) (CutL (b:=by simp)) (.inl ⟨k+1,rfl,by omega,hn,rfl,rfl⟩)
   ·have hke:k=256:=by omega
    subst hke;have h':=h.out;simp only [H5,U3 hno.out] at h';replace h':=hid h';have g1:¬ ((256:Nat):Int)<256:=by omega
    refine wk ?_;exact ae rfl h'.out
  ·by_cases hlt:(k:Int)<256
   ·refine wk ?_;exact ai _ _ _ (by omega) (CutL (b:=by simp)) (.inr ⟨rfl,x,w,hx,rfl,rfl⟩)
   ·refine wk ?_;exact ai _ _ _ (by omega) (CutL (b:=by simp)) (.inr ⟨rfl,x,w,hx,rfl,rfl⟩)
 ·have h':=h.out;simp only [H5,hx.out.1] at h';replace h':=hid h';rw [hx.out.2];have e1:=fM [x];have e2:=fa [x];refine wk ?_;exact ae rfl h'.out
def ja (b:List UInt8) (bl:Bool) (s:List UInt8):Option (List UInt8×List UInt8):=match eH b bl s with
 | some (v,r,true)=>some (v,r)
 | _=>none
def R4 (n:Nat) (o:Option (List UInt8×List UInt8)):AV:=match o with
 | none=>.tup [.str [],.int .i64 0,.bool false]
 | some (v,r)=>.tup [.str v,.int .i64 ((n - r.length:Nat):Int),.bool true]
theorem Ud {b s:List UInt8} {c:UInt8} (h:c=44\/c=43):ja b false (c::s)=some (b,c::s):=by simp only [ja,me h];rfl
theorem R3 {b s:List UInt8} {c:UInt8} (h:c=44\/c=43):ja b true (c::s)=none:=by simp only [ja,me h];rfl
theorem VX {b:List UInt8}:ja b false []=some (b,[]):=by simp only [ja,jv];rfl
theorem Uf {b:List UInt8}:ja b true []=none:=by simp only [ja,jv];rfl
theorem VY {b s:List UInt8} {bl:Bool} {c:UInt8} (h:¬ (c=44\/c=43)) (h2:c≠92) (hb:c=0\/c∈([34,59,60,62]:List UInt8)\/(b=[]/\(c=32\/c=35))):ja b bl (c::s)=none:=by
 simp only [ja,jc h h2,if_pos hb]
theorem MK {b s:List UInt8} {bl:Bool} {c:UInt8} (h:¬ (c=44\/c=43)) (h2:c≠92) (hb:¬ (c=0\/c∈([34,59,60,62]:List UInt8)\/(b=[]/\(c=32\/c=35)))):ja b bl (c::s)=ja (b++[c]) (decide (c=32)) s:=by
 simp only [ja,jc h h2,if_neg hb]
theorem Mx {x:UInt8} {L:List Blk} {K:abD} (h:K (.bool (mo.contains x)) L):abC 170 [.int .u8 x.toNat,.str mo] L K:=jw (by simp) h
theorem PR {a b c d x:UInt8} {L:List Blk} {K:abD} (h:K (.bool ([a,b,c,d].contains x)) L):abC 170 [.int .u8 x.toNat,.str [a,b,c,d]] L K:=jw (by simp) h
theorem PT {a b x:UInt8} {L:List Blk} {K:abD} (h:K (.bool ([a,b].contains x)) L):abC 170 [.int .u8 x.toNat,.str [a,b]] L K:=jw (by simp) h
theorem Wg {s:List UInt8} {at0:Nat} (hs:s.length<=100000) (hat:at0<=s.length) (h:K (R4 s.length (ja [] false (s.drop at0))) L):abC 166 [.str s,.int .i64 (at0:Int)] L K:=by
 obtain ⟨R,hR⟩:=aby (ja [] false (s.drop at0));rw [hR] at h;replace h:=hid h;refine abB K7 ?_;refine cH (l:=[]) (n:=0) 7 1 rfl (acf 1).symm ?_;refine ak (fun n T' L'=>∃ (i m:Nat) (b:List UInt8) (bl fb:Bool),n=s.length - i/\i<=s.length/\m<=i/\Hid (m=b.length/\ja b bl (s.drop i)=R/\(bl=true->i<s.length/\s.getD i 0≠44/\s.getD i 0≠43)/\(fb=true↔b=[]))/\T'=[(8,.bool fb),(1,.int .i64 (i:Int)),(7,.gsl (u8s b) m L.length 1),(0,.str s)]/\L'=L++[.spare m 1]) (CutS (b:=by simp)) ⟨at0,0,[],false,true,rfl,hat,by omega,hid ⟨rfl,hR,by simp,by simp⟩,rfl,rfl⟩ ?_;rintro _ _ _ ⟨i,m,b,bl,fb,rfl,hi,hm,hI,rfl,rfl⟩;have e1:=fM b;have e2:=fa b;by_cases hlt:i<s.length
 ·have g1:(i:Int)<(s.length:Int):=by omega
  have g2:=abA i (by omega);obtain ⟨c,hc⟩:=aby (s.getD i 0);have hdr:=iZ hlt;rw [hc] at hdr;have hb2:=hI.out.2.1;rw [hdr] at hb2;by_cases hcc:c=44\/c=43
  ·have hbl:bl=false:=by
    cases bl with
    | false=>rfl
    | true =>
      obtain ⟨_,n1,n2⟩:=hI.out.2.2.1 rfl;rw [hc] at n1 n2;rcases hcc with e|e
      ·exact absurd e n1
      ·exact absurd e n2
   subst hbl;rw [Ud hcc] at hb2;have h':=h.out;rw [<- hb2] at h';simp only [R4] at h';rw [<- hdr,acY,show s.length - (s.length - i)=i by omega] at h';replace h':=hid h';have k1:((c.toNat:Int)=44)\/((c.toNat:Int)=43):=hcc.imp (bu c 44).2 (bu c 43).2;clear hb2 hcc hdr;rcases k1 with k1|k1
   ·refine wk ?_;exact ae rfl h'.out
   ·refine wk ?_;exact ae rfl h'.out
  ·have k1:¬ (c.toNat:Int)=44:=fun e=>hcc (.inl ((bu c 44).1 e))
   have k2:¬ (c.toNat:Int)=43:=fun e=>hcc (.inr ((bu c 43).1 e))
   by_cases h92:c=92
   ·subst h92;have g3:IntKind.i64.wrap ((i:Int)+1+1)=(i:Int)+1+1:=ac (by omega) (by omega);have g4:IntKind.i64.wrap ((i:Int)+1+2)=(i:Int)+1+2:=ac (by omega) (by omega);have t1:((i:Int)+1).toNat=i+1:=by omega
    have t3:((i:Int)+1+2).toNat=i+3:=by omega
    by_cases h1:i+1<s.length
    ·have f1:(i:Int)+1<(s.length:Int):=by omega
     have f0:¬ (i:Int)+1=(s.length:Int):=by omega
     obtain ⟨d,hd⟩:=aby (s.getD (i+1) 0);have hdr1:=iZ h1;rw [hd] at hdr1;rw [hdr1] at hb2;by_cases hsp:d∈mo
     ·simp only [ja,oz hsp] at hb2;have f2:mo.contains d=true:=acx.2 hsp;clear hdr hdr1 hcc;replace hb2:=hid hb2;have kk1:=@hid _ @Mx;have kk2:=@hid _ @PR;have kk3:=@hid _ @PT;refine wk ?_;rw [show u8s b++[AV.int IntKind.u8 (d.toNat:Int)]=u8s (b++[d]) by simp [u8s]];exact ai _ _ _ (by omega) (CutL (b:=by simp)) ⟨i+1+1,m+1,b++[d],false,false,rfl,h1,by omega,hid ⟨by simp [hI.out.1],hb2.out,by simp,by simp⟩,rfl,rfl⟩
     ·have f2:mo.contains d=false:=by
       rw [<- ac7,acx];exact hsp
      by_cases h2:i+2<s.length
      ·have f3:¬ (s.length:Int)<(i:Int)+1+2:=by omega
       have f4:(i:Int)+1<=(i:Int)+1+2:=by omega
       have f5:(i:Int)+1+2<=(s.length:Int):=by omega
       have f6:(0:Int)<=(i:Int)+1:=by omega
       obtain ⟨e,he⟩:=aby (s.getD (i+2) 0);have hdr2:=iZ h2;rw [he] at hdr2;rw [hdr2] at hb2;simp only [ja,xw hsp] at hb2;have hcut:(s.drop (i+1)).take (i+3 - (i+1))=[d,e]:=by
        rw [hdr1,hdr2,show i+3 - (i+1)=2 by omega];rfl
       clear hdr hdr1 hdr2 hcc;replace hb2:=hid hb2;have kk1:=@hid _ @Mx;have kk2:=@hid _ @PR;have kk3:=@hid _ @PT;refine wk ?_;refine Uz ?_;rcases hx:Ke d e with _|x
       ·rw [show H5 d e=.tup [.str [],.bool false] by simp only [H5,hx]];have h':=h.out;rw [<- hb2.out,hx] at h';simp only [R4] at h';replace h':=hid h';clear hx;refine sk ?_;refine wk ?_;exact ae rfl h'.out
       ·rw [show H5 d e=.tup [.str [x],.bool true] by simp only [H5,hx]];have hb3:=hb2.out;rw [hx] at hb3;simp only at hb3;replace hb3:=hid hb3;have q1:[x].getD 0 0=x:=rfl;clear hx hb2;refine sk ?_;refine wk ?_;rw [show u8s b++[AV.int IntKind.u8 (x.toNat:Int)]=u8s (b++[x]) by simp [u8s]];exact ai _ _ _ (by omega) (CutL (b:=by simp)) ⟨i+1+2,m+1,b++[x],false,false,rfl,h2,by omega,hid ⟨by simp [hI.out.1],hb3.out,by simp,by simp⟩,rfl,rfl⟩
      ·have f3:(s.length:Int)<(i:Int)+1+2:=by omega
       have hnil:s.drop (i+1+1)=[]:=adl (by omega);rw [hnil] at hb2;simp only [ja,EN hsp] at hb2;have h':=h.out;rw [<- hb2] at h';replace h':=hid h';clear hdr hdr1 hb2 hcc;have kk1:=@hid _ @Mx;have kk2:=@hid _ @PR;have kk3:=@hid _ @PT;refine wk ?_;exact ae rfl h'.out
    ·have f1:¬ (i:Int)+1<(s.length:Int):=by omega
     have f0:(i:Int)+1=(s.length:Int):=by omega
     have f3:(s.length:Int)<(s.length:Int)+2:=by omega
     have f4:¬ (s.length:Int)<(s.length:Int):=by omega
     have g5:IntKind.i64.wrap (s.length:Int)=(s.length:Int):=ac (by omega) (by omega);have g6:IntKind.i64.wrap ((s.length:Int)+2)=(s.length:Int)+2:=ac (by omega) (by omega);have hnil:s.drop (i+1)=[]:=adl (by omega);rw [hnil] at hb2;simp only [ja,EO] at hb2;have h':=h.out;rw [<- hb2] at h';replace h':=hid h';clear hdr hb2 hcc;have kk1:=@hid _ @Mx;have kk2:=@hid _ @PR;have kk3:=@hid _ @PT;refine wk ?_;exact ae rfl h'.out
   ·have k3:¬ (c.toNat:Int)=92:=fun e=>h92 ((bu c 92).1 e)
    obtain ⟨p1,hp1⟩:=aby (([34,59,60,62]:List UInt8).contains c);obtain ⟨p2,hp2⟩:=aby (([32,35]:List UInt8).contains c);have hq1:p1=true↔c∈([34,59,60,62]:List UInt8):=by rw [<- hp1,acx]
    have hq2:p2=true↔(c=32\/c=35):=by rw [<- hp2,acx];simp
    replace hq1:=hid hq1;replace hq2:=hid hq2;have h0:=hid (bu c 0);have h32:=hid (bu c 32);have hfb:=hid hI.out.2.2.2;obtain ⟨lst,hlst⟩:∃ lst:Bool,decide (i+1<s.length->s.getD (i+1) 0=44\/s.getD (i+1) 0=43)=lst:=⟨_,rfl⟩;have hbad:=hid fun (e:c=0\/c∈([34,59,60,62]:List UInt8)\/(b=[]/\(c=32\/c=35)))=>(show R=none by rw [<- hb2,VY hcc h92 e])
    have hend:=hid fun (e:lst=true/\c=32)=>(show R=none by
     by_cases eb:c=0\/c∈([34,59,60,62]:List UInt8)\/(b=[]/\(c=32\/c=35))
     ·exact hbad.out eb
     ·rw [<- hb2,MK hcc h92 eb,e.2];have el:=of_decide_eq_true (hlst.trans e.1);simp only [decide_true];by_cases h1:i+1<s.length
      ·rw [iZ h1,R3 (el h1)]
      ·rw [adl (by omega),Uf])
    have hgo:=hid fun (e:¬ (c=0\/c∈([34,59,60,62]:List UInt8)\/(b=[]/\(c=32\/c=35))))=>(show ja (b++[c]) (decide (c=32)) (s.drop (i+1))=R by rw [<- hb2,MK hcc h92 e])
    replace hlst:=hid hlst;clear hdr hb2 hcc;have bad:R=none->Fin L (.tup [.str [],.int .i64 0,.bool false]) (L++[.spare m 1]) K:=fun e=>ae rfl (by have h':=h.out;rwa [e] at h')
    replace bad:=hid bad;by_cases h1:i+1<s.length
    ·have f1:(i:Int)+1<(s.length:Int):=by omega
     have f0:¬ (i:Int)+1=(s.length:Int):=by omega
     have t1:((i:Int)+1).toNat=i+1:=by omega
     obtain ⟨d,hd⟩:=aby (s.getD (i+1) 0);have hlst2:=hid (show lst=true↔((d.toNat:Int)=44\/(d.toNat:Int)=43) by
      rw [<- hlst.out,decide_eq_true_eq,hd,show (44:Int)=((44:UInt8).toNat:Int) from rfl,show (43:Int)=((43:UInt8).toNat:Int) from rfl,bu,bu];exact ⟨fun e=>e h1,fun e _=>e⟩)
     repeat' first
      | refine a8 ?_
      | (first|refine aU (by kernel_rfl) ?_|refine aB (by kernel_rfl) ?_|refine aE ?_|refine bI ?_|refine bf (fun _=>?_)|refine ay ?_|refine aW ?_|refine jw (by simp) ?_|refine bo (jw (by simp) ⟨rfl,rfl⟩) (jw (by simp) ⟨rfl,rfl⟩) ?_|refine aN (jw (by simp) ⟨rfl,rfl⟩) ?_)
        refine sm ?_
      | (first|refine aO (by kernel_rfl) ?_|refine aP ?_|refine aD ?_|refine aV ?_|refine bp (ax ?_))
        refine sl ?_
      | exact bg
      | first|apply bh|apply aR|apply bj|apply aS|apply bm|apply aT
      | refine aH ?_
      | refine aC ?_
      | first|refine aF rfl ?_|refine aG rfl ?_|refine an rfl ?_ ?_|refine aJ rfl (fun _=>?_) (fun _=>?_)|refine aI rfl (fun _=>?_) (fun _=>?_)
      | ((first|refine am (fun _=>?_) (fun _=>?_)|refine aw (fun _=>?_) (fun _=>?_))<;>try refine sm ?_)
      | refine And.intro trivial ?_
      | refine And.intro (by omega) ?_
      | refine aM rfl (fun _=>?_) (fun _=>?_)
      | refine And.intro ?_ ?_
     ·rename_i hx
      refine bad.out ?_;simp only [ace,abK,decide_eq_true_eq] at hx;rcases hx with ((e|e)|⟨e,e'⟩)|e
      ·exact hbad.out (.inl (h0.out.1 e))
      ·exact hbad.out (.inr (.inl (hq1.out.1 e)))
      ·exact hbad.out (.inr (.inr ⟨hfb.out.1 e,hq2.out.1 e'⟩))
      ·exact hend.out ⟨hlst2.out.2 e.1,h32.out.1 e.2⟩
     ·rename_i hx
      rw [<- ac7] at hx;simp only [ace,abK,decide_eq_true_eq] at hx;rw [show u8s b++[AV.int IntKind.u8 (c.toNat:Int)]=u8s (b++[c]) by simp [u8s]];refine ai _ _ _ (by omega) (CutL (b:=by simp)) ⟨i+1,m+1,b++[c],decide (c=32),false,rfl,hlt,by omega,hid ⟨by simp [hI.out.1],?_,fun e=>?_,by simp⟩,rfl,rfl⟩
      ·refine hgo.out fun e=>hx ?_
       rcases e with e|e|⟨e,e'⟩
       ·exact .inl (.inl (.inl (h0.out.2 e)))
       ·exact .inl (.inl (.inr (hq1.out.2 e)))
       ·exact .inl (.inr ⟨hfb.out.2 e,hq2.out.2 e'⟩)
      ·have e32:=h32.out.2 (of_decide_eq_true e);refine ⟨h1,?_,?_⟩
       ·intro e4;exact hx (.inr ⟨.inl (by rw [<- hd,e4];rfl),e32⟩)
       ·intro e4;exact hx (.inr ⟨.inr (by rw [<- hd,e4];rfl),e32⟩)
    ·have f1:¬ (i:Int)+1<(s.length:Int):=by omega
     have f0:(i:Int)+1=(s.length:Int):=by omega
     have g5:IntKind.i64.wrap (s.length:Int)=(s.length:Int):=ac (by omega) (by omega);have hlst2:=hid (show lst=true by rw [<- hlst.out,decide_eq_true_eq];exact fun e=>absurd e h1)
     repeat' first
      | refine a8 ?_
      | (first|refine aU (by kernel_rfl) ?_|refine aB (by kernel_rfl) ?_|refine aE ?_|refine bI ?_|refine bf (fun _=>?_)|refine ay ?_|refine aW ?_|refine jw (by simp) ?_|refine bo (jw (by simp) ⟨rfl,rfl⟩) (jw (by simp) ⟨rfl,rfl⟩) ?_|refine aN (jw (by simp) ⟨rfl,rfl⟩) ?_)
        refine sm ?_
      | (first|refine aO (by kernel_rfl) ?_|refine aP ?_|refine aD ?_|refine aV ?_|refine bp (ax ?_))
        refine sl ?_
      | exact bg
      | first|apply bh|apply aR|apply bj|apply aS|apply bm|apply aT
      | refine aH ?_
      | refine aC ?_
      | first|refine aF rfl ?_|refine aG rfl ?_|refine an rfl ?_ ?_|refine aJ rfl (fun _=>?_) (fun _=>?_)|refine aI rfl (fun _=>?_) (fun _=>?_)
      | ((first|refine am (fun _=>?_) (fun _=>?_)|refine aw (fun _=>?_) (fun _=>?_))<;>try refine sm ?_)
      | refine And.intro trivial ?_
      | refine And.intro (by omega) ?_
      | refine aM rfl (fun _=>?_) (fun _=>?_)
      | refine And.intro ?_ ?_
     ·rename_i hx
      refine bad.out ?_;simp only [ace,abK,decide_eq_true_eq] at hx;rcases hx with ((e|e)|⟨e,e'⟩)|e
      ·exact hbad.out (.inl (h0.out.1 e))
      ·exact hbad.out (.inr (.inl (hq1.out.1 e)))
      ·exact hbad.out (.inr (.inr ⟨hfb.out.1 e,hq2.out.1 e'⟩))
      ·exact hend.out ⟨hlst2.out,h32.out.1 e⟩
     ·rename_i hx
      rw [<- ac7] at hx;simp only [ace,abK,decide_eq_true_eq] at hx;rw [show u8s b++[AV.int IntKind.u8 (c.toNat:Int)]=u8s (b++[c]) by simp [u8s]];refine ai _ _ _ (by omega) (CutL (b:=by simp)) ⟨i+1,m+1,b++[c],decide (c=32),false,rfl,hlt,by omega,hid ⟨by simp [hI.out.1],?_,fun e=>?_,by simp⟩,rfl,rfl⟩
      ·refine hgo.out fun e=>hx ?_
       rcases e with e|e|⟨e,e'⟩
       ·exact .inl (.inl (.inl (h0.out.2 e)))
       ·exact .inl (.inl (.inr (hq1.out.2 e)))
       ·exact .inl (.inr ⟨hfb.out.2 e,hq2.out.2 e'⟩)
      ·have e32:=h32.out.2 (of_decide_eq_true e);exact absurd (.inr e32) hx
 ·have hke:i=s.length:=by omega
  subst hke;have g1:¬ (s.length:Int)<(s.length:Int):=by omega
  have hbl:bl=false:=by
   cases bl with
   | false=>rfl
   | true=>exact absurd (hI.out.2.2.1 rfl).1 (by omega)
  subst hbl;have h':=h.out;rw [<- hI.out.2.1,acm,VX] at h';simp only [R4,acD,Nat.sub_zero] at h';replace h':=hid h';refine wk ?_;exact ae rfl h'.out
theorem VZ:∀ (n:Nat) {s b:List UInt8} {bl:Bool} {v r:List UInt8} {ok:Bool},s.length<=n->eH b bl s=some (v,r,ok)->r <:+ s:=by
 intro n
 induction n with
 | zero =>
   intro s b bl v r ok hn h;obtain rfl:=ack.1 (Nat.le_zero.1 hn);rw [jv] at h;cases h;exact List.suffix_refl _
 | succ n ih =>
   intro s b bl v r ok hn h;cases s with
   | nil=>rw [jv] at h;cases h;exact List.suffix_refl _
   | cons c s =>
     simp only [abR] at hn;by_cases hc:c=44\/c=43
     ·rw [me hc] at h;cases h;exact List.suffix_refl _
     by_cases h92:c=92
     ·subst h92;cases s with
      | nil=>rw [EO] at h;cases h
      | cons d s =>
        by_cases hd:d∈mo
        ·rw [oz hd] at h;exact (ih (by simp at hn;omega) h).trans ((adP _ _).trans (adP _ _))
        ·cases s with
         | nil=>rw [EN hd] at h;cases h
         | cons e s =>
           rw [xw hd] at h;split at h
           ·cases h
           ·exact (ih (by simp at hn;omega) h).trans ((adP _ _).trans ((adP _ _).trans (adP _ _)))
     ·rw [jc hc h92] at h;split at h
      ·cases h
      ·exact (ih (by omega) h).trans (adP _ _)
theorem Ue {s v r:List UInt8} (h:ja [] false s=some (v,r)):eH [] false s=some (v,r,true):=by
 unfold ja at h;split at h
 ·rename_i e;cases h;exact e
 ·cases h
theorem O4 (f:Nat) (out:List Rdn) (now:Rdn) (s:List UInt8):mX (f+1) out now s=if out.length=32\/now.length=8 then ([],9) else match gJ s with
  | none=>([],4)
  | some (typ,rest)=>if fc typ=false then ([],4) else if gT now typ=true then ([],21) else match ja [] false rest with
    | none=>([],4)
    | some (v,r2)=>match r2 with
      | []=>(out++[now++[(typ,v)]],0)
      | c::s'=>if c=44 then mX f (out++[now++[(typ,v)]]) [] s' else mX f out (now++[(typ,v)]) s':=by
 rw [mX]
 congr 1
 rcases gJ s with _|⟨typ,rest⟩
 ·rfl
 ·simp only
  congr 1
  congr 1
  unfold ja;rcases eH [] false rest with _|⟨v,r2,ok⟩
  ·rfl
  ·cases ok<;>rfl
theorem Vr {s:List UInt8} {i j:Nat} (hij:i<=j) (hj:j<s.length) (hc:s.getD j 0≠61) (h:gJ (s.drop i)=(gJ (s.drop j)).map fun p=>((s.drop i).take (j - i)++p.1,p.2)) :
  gJ (s.drop i)=(gJ (s.drop (j+1))).map fun p=>((s.drop i).take (j+1 - i)++p.1,p.2):=by
 rw [h,iZ hj];simp only [gJ,if_neg hc];have ht:(s.drop i).take (j+1 - i)=(s.drop i).take (j - i)++[s.getD j 0]:=by
  rw [show j+1 - i=(j - i)+1 by omega,ab2 (by simp;omega)]
  congr 2
  simp [show i+(j - i)=j by omega,hj]
 rw [ht];rcases gJ (s.drop (j+1)) with _|⟨a,b⟩
 ·rfl
 ·simp
theorem YQ {r:Rdn} {typ:List UInt8} {i n:Nat} (hr:r.length=n) (hn:n<=8) (h1:∀ a∈r,a.1.length<=32) (h2:typ.length<=4096) (h:K (.bool (gT r typ)) L) :
  abC 165 [.gsl (aZ r) n i 2,.str typ] L K:=by
 subst hr;exact mm (by simpa only [AV.frzL,AV.frz,fH] using Wp (cap:=none) (by omega) (fun a ha=>by have:=h1 a ha;omega) (by omega) h)
theorem Uy {s:List UInt8} {z:Int} {at0:Nat} (hz:z=(at0:Int)) (hs:s.length<=100000) (hat:at0<=s.length) (h:K (R4 s.length (ja [] false (s.drop at0))) L):abC 166 [.str s,.int .i64 z] L K:=by
 subst hz;exact Wg hs hat h
theorem Wj {s:List UInt8} (h:K (Sm (rC s)) L):abC 131 [.str s] L K:=by
 refine ad La (by simp [oq]) ?_;simp only [oq,ao];by_cases h1:4096<s.length
 ·have f1:(4096:Int)<(s.length:Int):=by omega
  rw [rC,if_pos h1] at h;replace h:=hid h;clear h1;refine wk ?_;exact bv (aa h.out)
 have f1:¬ (4096:Int)<(s.length:Int):=by omega
 rw [rC,if_neg h1] at h;have hs:=hid (show s.length<=4096 by omega);clear h1;obtain ⟨R,hR⟩:=aby ((if s=[] then ([],0) else mX (s.length+1) [] [] s));rw [hR] at h;replace h:=hid h;replace hR:=hid hR;refine wk ?_;refine cH (l:=[]) (n:=0) 4 1 rfl (acf 1).symm ?_;refine ak (fun n T' L'=>∃ (f m i:Nat) (out:List Rdn) (X:List Blk),f=n/\i<=s.length/\m<=32/\Hid (s≠[]->s.length - i<f/\mX f out [] (s.drop i)=R)/\Hid (s=[]->out=[])/\Hid (m=out.length)/\L'[L.length]?=some (.spare m 1)/\T'=[(5,.int .i64 (i:Int)),(4,.gsl (out.map ci) m L.length 1),(0,.str s)]/\L'=L++X) (CutS (b:=by simp)) ⟨s.length+1,0,0,[],[.spare 0 1],rfl,abL _,by omega,hid (fun e=>⟨by omega,by have:=hR.out;rw [if_neg e] at this;simpa using this⟩),hid (fun _=>rfl),hid rfl,by simp,rfl,rfl⟩ ?_;rintro _ _ _ ⟨f,m,i,out,X,rfl,hi,hm32,hI,hI0,hm,ho,rfl,rfl⟩;by_cases h0:s=[]
 ·have h':=h.out;rw [<- hR.out,if_pos h0] at h';replace h':=hid h';have f2:¬ (0:Int)<(s.length:Int):=by rw [h0];simp
  clear h0;refine wk ?_;exact bv (ae rfl h'.out)
 obtain ⟨hf,hp⟩:=hI.out h0;have f2:(0:Int)<(s.length:Int):=by have:=acQ.2 h0;omega
 clear hI hI0 hR h0;have hB:L.length<(L++X).length:=(abE.1 ho).1;by_cases hlim:m=32
 ·obtain ⟨f,rfl⟩:∃ g,f=g+1:=⟨f - 1,by omega⟩;rw [O4,if_pos (.inl (by rw [<- hm.out];exact hlim))] at hp;have h':=h.out;rw [<- hp] at h';replace h':=hid h';have k:(m:Int)=32:=by omega
  clear hp hlim hf;refine wk ?_;exact eS h'.out
 have k1:¬ (m:Int)=32:=by omega
 replace hp:=hid hp;refine wk ?_;refine ak (fun n T' L'=>∃ (g i:Nat) (now:Rdn) (v:AV) (Z:List Blk),g=n/\g<=f/\i<=s.length/\now.length<=8/\Hid (s.length - i<g/\mX g out now (s.drop i)=R/\(∀ a∈now,a.1.length<=32)/\aaL L.length now v L')/\L'[L.length]?=some (.spare m 1)/\X.length<=Z.length/\T'=[(6,v),(5,.int .i64 (i:Int)),(4,.gsl (out.map ci) m L.length 1),(0,.str s)]/\L'=L++Z) (CutS (b:=by simp)) ⟨f,i,[],_,X,rfl,abF _,hi,by simp,hid ⟨hf,hp.out,by simp,.inl ⟨rfl,rfl,rfl⟩⟩,ho,abF _,rfl,rfl⟩ ?_;clear hp hf ho hi;rintro _ _ _ ⟨g,i,now,v,X1,rfl,hgf,hi,hn8,hI,ho,hXZ,rfl,rfl⟩;obtain ⟨hf,hp,ht,hv⟩:=hI.out;clear hI;obtain ⟨g,rfl⟩:∃ g',g=g'+1:=⟨g - 1,by omega⟩;have hB1:L.length<(L++X1).length:=(abE.1 ho).1;refine Qy 6 2 L.length rfl hB1 hv fun p Y hBi hpi=>?_
 rw [abT] at hpi ⊢;have ho2:(L++(X1++Y))[L.length]?=some (.spare m 1):=by rw [<- abT,abQ hB1];exact ho
 have hXZ2:X.length<=(X1++Y).length:=by simp;omega
 generalize X1++Y=Z at hpi ho2 hXZ2 ⊢;clear ho hB1 hv hXZ X1 Y;replace hXZ2:=hid hXZ2;have hpl:=(abE.1 hpi).1;have hol:=(abE.1 ho2).1;have hz:p - L.length≠0:=by omega
 obtain ⟨c,hc⟩:∃ c:Nat,now.length=c:=⟨_,rfl⟩;rw [O4] at hp;rw [hc] at hp hpi hn8 ⊢;rw [abW] at hpl hol;replace hz:=hid hz;replace hpl:=hid hpl;replace hol:=hid hol;by_cases hlim2:c=8
 ·rw [if_pos (.inr hlim2)] at hp;have h':=h.out;rw [<- hp] at h';replace h':=hid h';have k:(c:Int)=8:=by omega
  clear hp hlim2;refine wk ?_;exact eS h'.out
 rw [if_neg (by rw [<- hm.out];omega)] at hp;have k2:¬ (c:Int)=8:=by omega
 replace hp:=hid hp;replace ht:=hid ht;replace hf:=hid hf;refine wk ?_;refine ak (fun n T' L'=>∃ j:Nat,n=s.length - j/\i<=j/\j<=s.length/\Hid (gJ (s.drop i)=(gJ (s.drop j)).map fun p=>((s.drop i).take (j - i)++p.1,p.2))/\T'=[(7,.int .i64 (j:Int)),(6,.gsl (aZ now) c p 2),(5,.int .i64 (i:Int)),(4,.gsl (out.map ci) m L.length 1),(0,.str s)]/\L'=L++Z) (CutS (b:=by simp)) ⟨i,rfl,abF _,hi,hid (by rcases gJ (s.drop i) with _|⟨a,b⟩<;>simp),rfl,rfl⟩ ?_;rintro _ _ _ ⟨j,rfl,hij,hj,hcut,rfl,rfl⟩;by_cases hjl:j<s.length;rotate_left
 ·have hje:j=s.length:=by omega
  subst hje;have g1:¬ (s.length:Int)<(s.length:Int):=by omega
  have e:=hcut.out;rw [acm] at e;simp only [gJ,acb] at e;have h':=h.out;rw [<- hp.out,e] at h';simp only at h';replace h':=hid h';clear e;refine wk ?_;exact eS h'.out
 have g1:(j:Int)<(s.length:Int):=by omega
 have g2:=abA j (by omega);obtain ⟨x,hx⟩:=aby (s.getD j 0);by_cases h61:x=61;rotate_left
 ·have g3:¬ (x.toNat:Int)=61:=fun e=>h61 ((bu x 61).1 e)
  have hcut':=hid (Vr hij hjl (by rw [hx];exact h61) hcut.out);clear h61;refine wk ?_;exact ai _ _ _ (by omega) (CutL (b:=by simp)) ⟨j+1,rfl,by omega,hjl,hcut',rfl,rfl⟩
 subst h61;have g3:((61:UInt8).toNat:Int)=61:=rfl;have hcutS:gJ (s.drop i)=some ((s.drop i).take (j - i),s.drop (j+1)):=by
  rw [hcut.out,iZ hjl,hx];simp [gJ]
 clear hcut;obtain ⟨typ,htyp⟩:=aby ((s.drop i).take (j - i));have htl:typ.length<=4096:=by rw [<- htyp];have:=hs.out;simp;omega
 have htl3:(typ.length:Int)<=100000:=by omega
 rw [htyp] at hcutS;have hp2:=hp.out;rw [hcutS] at hp2;simp only at hp2;have g4:¬ (j:Int)=(s.length:Int):=by omega
 have g5:(i:Int)<=(j:Int):=by omega
 have g6:(j:Int)<=(s.length:Int):=by omega
 replace hp2:=hid hp2;clear hcutS hp;cases hty:fc typ with
 | false =>
   have h':=h.out;rw [<- hp2.out,if_pos hty] at h';replace h':=hid h';have kk1:=@hid _ (fun L K=>PO htl3 (L:=L) (K:=K));refine wk ?_;exact eS h'.out
 | true =>
 have hp3:=hp2.out;rw [if_neg (by rw [hty];simp)] at hp3;replace hp3:=hid hp3;clear hp2;have hpn:=hid (show p≠L.length+Z.length by have:=hpl.out;omega);have b1:∀ b,(L++(Z++[b]))[p]?=some (.spare c 2):=fun b=>by
  rw [<- abT,abQ (abE.1 hpi).1];exact hpi
 have b2:∀ A b,(L++(Z++[b])).set p A=L++(Z.set (p - L.length) A++[b]):=fun A b=>by
  rw [acE _ _ (by omega),acH _ _ (by have:=hpl.out;omega)]
 have b3:∀ A b,(L++(Z.set (p - L.length) A++[b]))[L.length]?=some (.spare m 1):=fun A b=>by
  rw [<- b2,ab0 (by omega),<- abT,abQ (abE.1 ho2).1];exact ho2
 have b4:∀ A b,(L++(Z.set (p - L.length) A++[b]))[p]?=some A:=fun A b=>by
  rw [<- b2,ab3,if_pos rfl,if_pos (by have:=hpl.out;simp;omega)]
 have hsl:(i:Int).toNat=i:=by omega
 have kk1:=@hid _ (fun L K=>PO htl3 (L:=L) (K:=K));refine wk ?_;refine YQ hc hn8 ht.out (by omega) ?_;cases hha:gT now typ with
 | true =>
   have h':=h.out;rw [<- hp3.out,if_pos hha] at h';replace h':=hid h';refine sk ?_;refine wk ?_;exact eS h'.out
 | false =>
 have hp4:=hp3.out;rw [if_neg (by rw [hha];simp)] at hp4;replace hp4:=hid hp4;clear hp3;refine sk ?_;refine wk ?_;refine Uy (at0:=j+1) (by omega) (by have:=hs.out;omega) hjl ?_;rcases hvl:ja [] false (s.drop (j+1)) with _|⟨w,r2⟩
 ·have h':=h.out;rw [<- hp4.out,hvl] at h';simp only at h';replace h':=hid h';simp only [R4];refine sk ?_;refine wk ?_;exact eS h'.out
 have hp5:=hp4.out;rw [hvl] at hp5;simp only at hp5;have hsuf:=VZ _ (abF _) (Ue hvl);have hsd:r2=s.drop (s.length - r2.length):=List.suffix_iff_eq_drop.1 (hsuf.trans (List.drop_suffix _ _));have hl2:r2.length<=s.length - (j+1):=by have:=hsuf.length_le;simpa using this
 obtain ⟨t,ht0⟩:=aby (s.length - r2.length);rw [ht0] at hsd;have htj:j<t:=by omega
 have hts:t<=s.length:=by omega
 simp only [R4,ht0];replace hp5:=hid hp5;clear hp4 hvl hsuf;replace hsd:=hid hsd;have q1:(c+1) * 32<=140737488355328:=by omega
 have q2:c+1<=140737488355328:=by omega
 have q3:(m+1) * 24<=140737488355328:=by omega
 have q4:m+1<=140737488355328:=by omega
 have e1:aZ now++[AV.str typ,AV.str w]=aZ (now++[(typ,w)]):=(PD _ _ _).symm;have e2:out.map ci++[AV.sl (AV.frzL (aZ now++[AV.str typ,AV.str w])) (c+1) none]=(out++[now++[(typ,w)]]).map ci:=by
  rw [e1,fH,aca];simp [hc]
 have e3:(out++[now++[(typ,w)]]).length=m+1:=by simp [hm.out]
 have e4:(now++[(typ,w)]).length=c+1:=by simp [hc]
 have e5:∀ a∈now++[(typ,w)],a.1.length<=32:=fun a ha=>by
  rcases abH.1 ha with h|h
  ·exact ht.out a h
  ·rw [abZ.1 h];exact oB hty
 have s4:∀ (W:List Blk) A,(L++W).set L.length A=L++W.set 0 A:=fun W A=>by rw [acE _ _ (abF _),ac5]
 have g7:IntKind.i64.wrap ((t:Int)+1)=(t:Int)+1:=ac (by have:=hs.out;omega) (by have:=hs.out;omega);replace e1:=hid e1;replace e2:=hid e2;replace e3:=hid e3;replace e4:=hid e4;replace e5:=hid e5;cases r2 with
 | nil =>
   have h':=h.out;rw [<- hp5.out] at h';simp only at h';replace h':=hid h';have hte:t=s.length:=by simp at ht0;omega
   subst hte;refine sk ?_;refine wk ?_;rw [e2.out];refine bv (ae ?_ ?_)
   ·simp only [AV.frz,AV.frzL,oD,AV.refs,AV.refsL,EU,adv]
   ·simp only [AV.frz,AV.frzL,oD];have:=h'.out;simp only [Sm,e3.out] at this;exact this
 | cons x s' =>
   simp only at hp5;have htl2:t<s.length:=by simp at ht0 hl2;omega
   have k3:¬ (t:Int)=(s.length:Int):=by omega
   have k4:(t:Int)<(s.length:Int):=by omega
   have hxd:=hsd.out;rw [iZ htl2] at hxd;obtain ⟨hx1,hx2⟩:=List.cons.inj hxd;have hx3:=hx1.symm;replace hx2:=hid hx2;clear hxd hx1;by_cases hx:x=44
   ·subst hx;refine sk ?_;refine wk ?_;rw [e2.out];refine ai _ _ _ ?_ (CutS (b:=?_)) ⟨g,m+1,t+1,out++[now++[(typ,w)]],_,rfl,htl2,?_,hid fun _=>⟨?_,?_⟩,hid fun e=>?_,hid e3.out.symm,?_,rfl,rfl⟩
    ·omega
    ·simp
    ·have:=hm.out;omega
    ·have:=hf.out;omega
    ·rw [<- hx2.out,<- hp5.out,if_pos rfl]
    ·rw [e] at htl2;simp at htl2
    ·rw [<- s4,ab3,if_pos rfl,if_pos (by simp)]
   ·have q6:¬ (x.toNat:Int)=44:=fun e=>hx ((bu x 44).1 e)
    refine sk ?_;refine wk ?_;rw [e1.out];refine ai _ _ _ ?_ (CutS (b:=?_)) ⟨g,t+1,now++[(typ,w)],_,_,rfl,?_,htl2,?_,hid ⟨?_,?_,e5.out,.inr ⟨p,hBi,by rw [e4.out],by rw [e4.out];exact b4 _ _⟩⟩,b3 _ _,?_,rfl,rfl⟩
    ·omega
    ·have:=hXZ2.out;simp;omega
    ·omega
    ·rw [e4.out];omega
    ·have:=hf.out;omega
    ·rw [<- hx2.out,<- hp5.out,if_neg hx]
    ·have:=hXZ2.out;simp;omega
end Go.Proofs.YtcmfcpjnhephaaaGreatDoor.Av
