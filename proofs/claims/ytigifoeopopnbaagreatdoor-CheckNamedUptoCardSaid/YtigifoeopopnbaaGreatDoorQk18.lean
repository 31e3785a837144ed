/- Joined texts of the walk, made small by a program. -/
import Derived.Test.YtigifoeopopnbaaGreatDoorQk4
import Derived.Test.YtigifoeopopnbaaGreatDoorRows
import Derived.KernelRfl
import Derived.Test.YtigifoeopopnbaaGreatDoorQk14
import Derived.Test.YtigifoeopopnbaaGreatDoorQk17
import Derived.Test.YtigifoeopopnbaaGreatDoorQk8
import Derived.Test.YtigifoeopopnbaaGreatDoorQk12
import Derived.Test.YtigifoeopopnbaaGreatDoorQk6
set_option linter.unusedSimpArgs false
set_option linter.unusedVariables false
set_option maxRecDepth 100000
namespace Go.Proofs.YtigifoeopopnbaaGreatDoor.Av
open Go
def Mo:LSO:=[Ab 4 0]
def Mn:LSO:=[Aa 6 0,Ah 7 6,Ab 8 0]
def Mm:LSO:=[Ai 9 8 7]
def Ml:LSO:=[Aa 10 8,Aa 5 10]
def Mk:LSO:=[Aa 11 0,Aa 12 5,Aj 13 4 11 12,Ad 14 0 13,Ac 15 1 14,Ao 16 33 15,Aa 17 1,Ao 18 33 17,A7 19 16 18]
def Mj:LSO:=[Aa 20 5,Aa 4 20]
def Mi:LSO:=[Af 21 8 1,Aa 8 21]
def Mh:LSO:=[Ab 4 (-1)]
def mL:aV:=⟨22,(.seq (.sreg Mo [])
 (.seq (.seq (.sreg Mn Cp)
 (.block 0 (.loop (.seq (.sreg Mm [])
 (.seq (.cond (tm 9) .skip
 (.exit 0))
 (.seq (.block 1 (.seq (.sreg Ml Cj)
 (.seq (.sreg Mk Cx)
 (.cond (tm 19) (.seq (.sreg Mj Cj)
 .ret)
 .skip))))
 (.sreg Mi Cj)))))))
 (.seq (.sreg Mh [])
 .ret))),[(.tmp 4)]⟩
attribute [push_cast] Mo Mn Mm Ml Mk Mj Mi Mh
theorem K1:aX Tryz.prog (fun _ _=>1) 37=some mL.raw:=by kernel_rfl
def nU:LSO:=[Ab 4 0]
def nT:LSO:=[Aa 6 0,Ah 7 6,Ab 8 0]
def nS:LSO:=[Ai 9 8 7]
def nR:LSO:=[Aa 10 8,Aa 5 10]
def nQ:LSO:=[Aa 11 0,Aa 12 5,Aj 13 5 11 12,Ad 14 0 13,Ac 15 1 14,Ao 16 33 15,Aa 17 1,Ao 18 33 17,A7 19 16 18]
def nP:LSO:=[Aa 20 5,Aa 4 20]
def nO:LSO:=[Af 21 8 1,Aa 8 21]
def nN:LSO:=[Ab 4 (-1)]
def kV:aV:=⟨22,(.seq (.sreg nU [])
 (.seq (.seq (.sreg nT Cp)
 (.block 0 (.loop (.seq (.sreg nS [])
 (.seq (.cond (tm 9) .skip
 (.exit 0))
 (.seq (.block 1 (.seq (.sreg nR Cj)
 (.seq (.sreg nQ Cx)
 (.cond (tm 19) (.seq (.sreg nP Cj)
 .ret)
 .skip))))
 (.sreg nO Cj)))))))
 (.seq (.sreg nN [])
 .ret))),[(.tmp 4)]⟩
attribute [push_cast] nU nT nS nR nQ nP nO nN
theorem Lv:aX Tryz.prog (fun _ _=>1) 54=some kV.raw:=by kernel_rfl
def xp:LSO:=[Az 1 0,Ab 2 0]
def xo:LSO:=[Ad 11 0 1,Ac 12 1 11,Ah 13 12,A6 14 13 128,Aa 15 14,.grp none 15 false
 [Bb 16 15 1 1,AP 17 15 1 16,Bo 18 15 17,AB 19 15 18 128]
 20 (tm 19)]
def xn:LSO:=[Ab 2 9]
def xm:LSO:=[Ad 21 0 1,Ac 22 1 21,Ah 23 22,Ab 24 0]
def xl:LSO:=[Ai 25 24 23]
def xk:LSO:=[Aa 26 24,Aj 27 4 22 24,An 28 4 27,Bh 4,Aa 3 26,Ap 4 4 28]
def xj:LSO:=[Ad 29 0 4,Ac 30 1 29,Ao 31 66 30,Aw 32 31]
def xi:LSO:=[Ab 2 20]
def xh:LSO:=[Ad 33 0 1,Ac 34 1 33,Aa 35 3,o1 36 (.slV 4 (tm 34) none (some (tm 35)) none),Ad 37 0 4,Ac 38 1 37,Am 39 37 36 38,AM 40 39 0]
def xg:LSO:=[Ab 2 21]
def rp:LSO:=[Ad 41 1 4,Ac 42 1 41,AA 43 42 1,Aa 44 43,.grp none 44 false
 [Bb 45 44 1 4,AP 46 44 1 45,AB 47 44 46 8]
 48 (tm 47)]
def rn:LSO:=[Ab 2 23]
def rm:LSO:=[Af 49 24 1,Aa 24 49]
def rl:LSO:=[Ad 50 1 1,Ac 51 1 50,Ah 52 51,Ab 53 0]
def rk:LSO:=[Ai 54 53 52]
def rj:LSO:=[Aa 55 53,Aj 56 5 51 53,An 57 5 56,Bl 6,Aa 5 55,Ap 5 6 57]
def ri:LSO:=[Ad 58 0 6,Ac 59 1 58,Ao 60 66 59,Aw 61 60]
def rh:LSO:=[Ab 2 20]
def rg:LSO:=[Ad 62 1 1,Ac 63 1 62,Aa 64 5,o1 65 (.slV 5 (tm 63) none (some (tm 64)) none),Ad 66 0 6,Ac 67 1 66,Am 68 54 65 67,AM 69 68 0]
def rf:LSO:=[Ab 2 21]
def re:LSO:=[Ad 70 2 6,Ac 71 1 70,AA 72 71 0,Aa 73 72,.grp none 73 false
 [Bb 74 73 2 6,AP 75 73 1 74,AB 76 73 75 2]
 77 (tm 76)]
def rd:LSO:=[Ab 2 23]
def rb:LSO:=[Ad 78 1 1,Ac 79 1 78,Aa 80 5,o1 81 (.slV 5 (tm 79) none (some (tm 80)) none),Ad 82 1 6,Ac 83 1 82,Am 84 54 81 83,Aa 7 84]
def ra:LSO:=[Ad 85 1 6,Ac 86 1 85,BI 87 86,Aa 88 87,.grp none 88 true
 [Ae 89 88 7,Bq 90 88 89 0]
 91 (tm 90)]
def q9:LSO:=[Ab 2 22]
def q0:LSO:=[Ad 92 1 6,Ac 93 1 92,Bu 94 93,Aa 95 94,.grp none 95 true
 [A4 96 95 2 6,A3 97 95 1 96,BE 98 95 97 0]
 99 (tm 98),Aa 100 99,.grp none 100 false
 [Bb 101 100 1 6,AP 102 100 1 101,og 103 100 false (.bin .neq (tm 102) (.av (.str []))),Al 104 100 103,.grp (some (100,false)) 104 true
 [A4 105 104 1 1,A3 106 104 1 105,Ae 107 104 7,AU 108 104 5 106 107,A4 109 104 2 108,A3 110 104 1 109,BE 111 104 110 0]
 112 (tm 111),Al 113 100 112,.grp (some (100,false)) 113 true
 [A4 114 113 1 1,A3 115 113 1 114,Ae 116 113 7,AU 117 113 5 115 116,A4 118 113 2 117,A3 119 113 1 118,A4 120 113 2 6,A3 121 113 1 120,
 og 122 113 true (.bin .neq (tm 119) (tm 121))]
 123 (tm 122)]
 124 (tm 123)]
def qZ:LSO:=[Ab 2 2]
def qY:List (ak×Kd) :=
 [od 125 (.bslice false 1 0 [] []) (.read 0 0),A5 126 3 6,A8 127 1 126 0 0,od 128 (.app 1 1 16 [(.str [])] (tm 125) (tm 127)) .eff,A5 129 4 6,A8 130 1 129 1 0,
 od 131 (.app 1 1 16 [(.str [])] (tm 128) (tm 130)) .eff,od 132 (.len false (tm 131)) (.read 0 0),od 133 (.mv (iv 0)) .pure]
def nV:List ak :=
 []
def qX:LSO:=[Ai 134 133 132]
def qW:LSO:=[Aj 135 1 131 133,Ac 136 1 135,Aa 9 136]
def qV:LSO:=[Ad 137 0 1,Ac 138 1 137,Aa 139 9,Am 140 37 138 139,AA 141 140 0]
def qU:LSO:=[Ab 2 22]
def qT:LSO:=[Af 142 133 1,Aa 133 142]
def qS:LSO:=[Af 143 53 1,Aa 53 143]
def qR:LSO:=[Ad 144 0 1,Ac 145 1 144,o1 146 (.call 37 [(tm 145),(.av (.str [111,98,106,101,99,116,99,108,97,115,115]))]),Aa 10 146]
def qQ:LSO:=[Aa 147 10,AA 148 147 0]
def qP:LSO:=[Ab 2 22]
def qO:LSO:=[Ad 149 0 1,Ac 150 1 149,Aa 151 10,Aj 152 4 150 151,Ad 153 1 152,Ac 154 1 153,AH 155 154 3,Aa 156 155,.grp none 156 false
 [Bb 157 156 0 1,AP 158 156 1 157,Al 159 156 10,og 160 156 false (.iaddr 4 (tm 158) (tm 159)),Bb 161 156 2 160,AP 162 156 1 161]
 163 (tm 162)]
def qN:LSO:=[Ab 2 2]
def qM:LSO:=[Ab 2 0]
def oU:aV:=⟨164,(.seq (.sreg xp [])
 (.seq (.seq (.sreg xo Co)
 (.cond (tm 20) (.seq (.sreg xn [])
 .ret)
 .skip))
 (.seq (.seq (.sreg xm Cz)
 (.block 0 (.loop (.seq (.sreg xl [])
 (.seq (.cond (tm 25) .skip
 (.exit 0))
 (.seq (.block 1 (.seq (.sreg xk Ct)
 (.seq (.seq (.sreg xj Cl)
 (.cond (tm 32) (.seq (.sreg xi [])
 .ret)
 .skip))
 (.seq (.seq (.sdreg xh [.pure,(.read 0 0),.pure,(.read 0 0),.pure,(.read 0 0)] Cr)
 (.cond (tm 40) (.seq (.sreg xg [])
 .ret)
 .skip))
 (.seq (.sreg rp Cm)
 (.cond (tm 48) (.seq (.sreg rn [])
 .ret)
 .skip))))))
 (.sreg rm Cj)))))))
 (.seq (.seq (.sreg rl Cz)
 (.block 2 (.loop (.seq (.sreg rk [])
 (.seq (.cond (tm 54) .skip
 (.exit 2))
 (.seq (.block 3 (.seq (.sreg rj Ct)
 (.seq (.seq (.sreg ri Cl)
 (.cond (tm 61) (.seq (.sreg rh [])
 .ret)
 .skip))
 (.seq (.seq (.sdreg rg [.pure,(.read 0 0),.pure,(.read 0 0),.pure,(.read 0 0)] Cr)
 (.cond (tm 69) (.seq (.sreg rf [])
 .ret)
 .skip))
 (.seq (.seq (.sreg re Cm)
 (.cond (tm 77) (.seq (.sreg rd [])
 .ret)
 .skip))
 (.seq (.sdreg rb [.pure,(.read 0 0),.pure,(.read 0 0),.pure,(.read 0 0)] Cr)
 (.seq (.seq (.sreg ra Cm)
 (.cond (tm 91) (.seq (.sreg q9 [])
 .ret)
 .skip))
 (.seq (.seq (.sdreg q0 [.pure,(.read 0 0),.pure,.pure,.pure,(.read 0 0),.pure,.pure,.pure,.pure,(.read 0 0),.pure,.pure,.pure,(.read 0 0),.pure,(.read 0 0),.pure,(.read 0 0),.pure,.pure,.pure,.pure,(.read 0 0),.pure,(.read 0 0),.pure,(.read 0 0),.pure,(.read 0 0)] Cq)
 (.cond (tm 124) (.seq (.sreg qZ [])
 .ret)
 .skip))
 (.seq (.dregM qY nV CE)
 (.block 4 (.loop (.seq (.sreg qX [])
 (.seq (.cond (tm 134) .skip
 (.exit 4))
 (.seq (.block 5 (.seq (.sreg qW Ck)
 (.seq (.sreg qV Cm)
 (.cond (tm 141) (.seq (.sreg qU [])
 .ret)
 .skip))))
 (.sreg qT Cj)))))))))))))))
 (.sreg qS Cj)))))))
 (.seq (.sreg qR Cl)
 (.seq (.seq (.sreg qQ Cj)
 (.cond (tm 148) (.seq (.sreg qP [])
 .ret)
 .skip))
 (.seq (.seq (.sreg qO Cx)
 (.cond (tm 163) (.seq (.sreg qN [])
 .ret)
 .skip))
 (.seq (.sreg qM [])
 .ret)))))))),[(.tmp 2)]⟩
attribute [push_cast] xp xo xn xm xl xk xj xi xh xg rp rn rm rl rk rj ri rh rg rf re rd rb ra q9 q0 qZ qY nV qX qW qV qU qT qS qR qQ qP qO qN qM
theorem Oy:aX Tryz.prog (fun _ _=>1) 41=some oU.raw:=by kernel_rfl
def qq:LSO:=[Ak 4]
def qp:LSO:=[Aa 7 0,Ah 8 7,Ab 9 0]
def qo:LSO:=[Ai 10 9 8]
def qn:LSO:=[Aj 11 2 7 9,An 12 2 11,Bf 6,Ap 2 6 12]
def qm:LSO:=[Ad 13 0 6,Ac 14 1 13,Ao 15 33 14,Aa 16 1,Ao 17 33 16,A7 18 15 17]
def ql:LSO:=[o1 19 (.bslice false 1 0 [] []),Ad 20 1 6,Ac 21 1 20,AO 22 19 21,Aa 4 22]
def qj:LSO:=[Af 23 9 1,Aa 9 23]
def qi:LSO:=[Ak 4]
def mK:aV:=⟨24,(.seq (.sreg qq [])
 (.seq (.seq (.sreg qp [])
 (.block 0 (.loop (.seq (.sreg qo [])
 (.seq (.cond (tm 10) .skip
 (.exit 0))
 (.seq (.block 1 (.seq (.sreg qn Ck)
 (.seq (.sreg qm Co)
 (.cond (tm 18) (.seq (.sreg ql Cm)
 .ret)
 .skip))))
 (.sreg qj Cj)))))))
 (.seq (.sreg qi [])
 .ret))),[(.tmp 4)]⟩
attribute [push_cast] qq qp qo qn qm ql qj qi
theorem NT:aX Tryz.prog (fun _ _=>1) 29=some mK.raw:=by kernel_rfl
def D0:LSO:=[Aq 4]
def DZ:LSO:=[Aa 8 0,Aa 9 1,Am 10 38 8 9,Aa 7 10,Ar 11 7,As 12 7,Aa 5 11,Aa 6 12]
def DY:LSO:=[Aa 13 5,Aa 4 13]
def uD:aV:=⟨14,(.seq (.sreg D0 [])
 (.seq (.sreg DZ [false,true,false,false,false,false,false,false])
 (.seq (.sreg DY Cj)
 .ret))),[(.tmp 4)]⟩
attribute [push_cast] D0 DZ DY
theorem PH:aX Tryz.prog (fun _ _=>1) 40=some uD.raw:=by kernel_rfl
def Mg:LSO:=[Ag 6]
def Mf:LSO:=[Aa 9 1,Ah 10 9,Ab 11 0]
def Me:LSO:=[Ai 12 11 10]
def Md:LSO:=[Aj 13 1 9 11,Ac 14 1 13,Aa 8 14]
def Mc:LSO:=[Aa 15 0,Aa 16 8,Am 17 40 15 16,Aa 18 2,A7 19 17 18]
def Mb:LSO:=[A0 6]
def Ma:LSO:=[Af 20 11 1,Aa 11 20]
def L9:LSO:=[Ag 6]
def Lu:aV:=⟨21,(.seq (.sreg Mg [])
 (.seq (.seq (.sreg Mf [])
 (.block 0 (.loop (.seq (.sreg Me [])
 (.seq (.cond (tm 12) .skip
 (.exit 0))
 (.seq (.block 1 (.seq (.sreg Md Ck)
 (.seq (.sreg Mc Cm)
 (.cond (tm 19) (.seq (.sreg Mb [])
 .ret)
 .skip))))
 (.sreg Ma Cj)))))))
 (.seq (.sreg L9 [])
 .ret))),[(.tmp 6)]⟩
attribute [push_cast] Mg Mf Me Md Mc Mb Ma L9
theorem R3:aX Tryz.prog (fun _ _=>1) 39=some Lu.raw:=by kernel_rfl
def Ec:LSO:=[Ak 6]
def Eb:LSO:=[Ak 7]
def Ea:LSO:=[Ag 8]
def D9:LSO:=[Aa 11 1,Ah 12 11,Ab 13 0]
def D8:LSO:=[Ai 14 13 12]
def D7:LSO:=[Aj 15 1 11 13,Ac 16 1 15,Aa 10 16]
def D6:LSO:=[Aa 17 8,Aw 18 17,Aa 19 18,.grp none 19 true
 [Ae 20 19 0,Ae 21 19 2,Bm 22 19 40 20 21,Ae 23 19 0,Ae 24 19 10,Bm 25 19 40 23 24,Cd 26 19 22 25]
 27 (tm 26)]
def D3:LSO:=[Aa 28 7,Aa 29 2,AE 30 29,AO 31 28 30,Aa 7 31]
def D2:LSO:=[A0 8]
def D1:LSO:=[Aa 32 7,Aa 33 10,AE 34 33,AO 35 32 34,Aa 7 35]
def v8:LSO:=[Af 36 13 1,Aa 13 36]
def v7:LSO:=[Aa 37 8,Aw 38 37]
def v6:LSO:=[Aa 39 7,Aa 40 2,AE 41 40,AO 42 39 41,Aa 7 42]
def vZ:LSO:=[Aa 43 7,Aa 6 43]
def uE:aV:=⟨44,(.seq (.sreg Ec [])
 (.seq (.sreg Eb [])
 (.seq (.sreg Ea [])
 (.seq (.seq (.sreg D9 [])
 (.block 0 (.loop (.seq (.sreg D8 [])
 (.seq (.cond (tm 14) .skip
 (.exit 0))
 (.seq (.block 1 (.seq (.sreg D7 Ck)
 (.seq (.seq (.sreg D6 Cl)
 (.cond (tm 27) (.seq (.sreg D3 Cm)
 (.sreg D2 []))
 .skip))
 (.sreg D1 Cm))))
 (.sreg v8 Cj)))))))
 (.seq (.seq (.sreg v7 Cj)
 (.cond (tm 38) (.sreg v6 Cm)
 .skip))
 (.seq (.sreg vZ Cj)
 .ret)))))),[(.tmp 6)]⟩
attribute [push_cast] Ec Eb Ea D9 D8 D7 D6 D3 D2 D1 v8 v7 v6 vZ
theorem PI:aX Tryz.prog (fun _ _=>1) 67=some uE.raw:=by kernel_rfl
def IJ:LSO:=[Az 3 0,Ak 6,Ab 7 0]
def II:LSO:=[Aa 12 2,Ah 13 12,Ab 14 0]
def IH:LSO:=[Ai 15 14 13]
def IG:LSO:=[Aj 16 1 12 14,Ac 17 1 16,Aa 9 17]
def IF:LSO:=[Ad 19 1 3,Ac 20 1 19,Aa 21 9,Am 22 38 20 21,Aa 18 22,Ar 23 18,As 24 18,Aa 10 23,Aa 11 24]
def IE:LSO:=[Aa 25 11,Aw 26 25]
def ID:LSO:=[Ak 6,Ab 7 21]
def IC:LSO:=[Ad 27 1 3,Ac 28 1 27,Aa 29 1,Aa 30 10,AD 31 39 28 29 30]
def IB:LSO:=[Ak 6,Ab 7 20]
def IA:LSO:=[Ad 32 1 3,Ac 33 1 32,Aa 34 1,Aa 35 9,AD 36 67 33 34 35,Aa 1 36]
def Eg:LSO:=[Af 37 14 1,Aa 14 37]
def Ef:LSO:=[Ad 38 2 3,Ac 39 1 38,Aa 40 39,.grp none 40 true
 [Ae 41 40 1,AT 42 40 41,og 43 40 true (.bin .gtr (tm 42) (iv 1))]
 44 (tm 43)]
def Ee:LSO:=[Ak 6,Ab 7 19]
def Ed:LSO:=[Aa 45 1,Aa 6 45,Ab 7 0]
def HL:aV:=⟨46,(.seq (.sreg IJ [])
 (.seq (.seq (.sreg II [])
 (.block 0 (.loop (.seq (.sreg IH [])
 (.seq (.cond (tm 15) .skip
 (.exit 0))
 (.seq (.block 1 (.seq (.sreg IG Ck)
 (.seq (.sreg IF C0)
 (.seq (.seq (.sreg IE Cj)
 (.cond (tm 26) (.seq (.sreg ID [])
 .ret)
 .skip))
 (.seq (.seq (.sreg IC Cm)
 (.cond (tm 31) (.seq (.sreg IB [])
 .ret)
 .skip))
 (.sreg IA Co))))))
 (.sreg Eg Cj)))))))
 (.seq (.seq (.sreg Ef Cl)
 (.cond (tm 44) (.seq (.sreg Ee [])
 .ret)
 .skip))
 (.seq (.sreg Ed Cp)
 .ret)))),[(.tmp 6),(.tmp 7)]⟩
attribute [push_cast] IJ II IH IG IF IE ID IC IB IA Eg Ef Ee Ed
theorem Ro:aX Tryz.prog (fun _ _=>1) 42=some HL.raw:=by kernel_rfl
def IU:LSO:=[Ak 6]
def IT:LSO:=[Ak 7]
def IS:LSO:=[Aa 11 2,Ah 12 11,Au 13 12 0,Aa 8 13]
def IR:LSO:=[Aa 14 0,Ah 15 14,Ab 16 0]
def IQ:LSO:=[Ai 17 16 15]
def IP:LSO:=[Aj 18 2 14 16,An 19 2 18,Bf 10,Ap 2 10 19]
def IN:LSO:=[Aa 20 8,Aw 21 20,Aa 22 21,.grp none 22 true
 [Ae 23 22 1,AN 24 22 33 23,A4 25 22 0 10,A3 26 22 1 25,AN 27 22 33 26,BV 28 22 24 27]
 29 (tm 28)]
def IM:LSO:=[Aa 30 7,Aa 31 1,Aa 32 2,o1 33 (.build [(.str []),(.sl [] 0 (some 0))] [(0,(1,(tm 31))),(1,(1,(tm 32)))]),Ce 34 33,Cf 35 30 34,Aa 7 35]
def IL:LSO:=[A0 8]
def IK:LSO:=[Aa 36 1,Ao 37 33 36,Ad 38 0 10,Ac 39 1 38,Ao 40 33 39,o1 41 (.bin .neq (tm 37) (tm 40))]
def Eu:LSO:=[Aa 42 7,An 43 2 10,Ce 44 43,Cf 45 42 44,Aa 7 45]
def Et:LSO:=[Af 46 16 1,Aa 16 46]
def Es:LSO:=[Aa 47 8,Aw 48 47]
def Er:LSO:=[Aa 49 7,Aa 50 1,Aa 51 2,o1 52 (.build [(.str []),(.sl [] 0 (some 0))] [(0,(1,(tm 50))),(1,(1,(tm 51)))]),Ce 53 52,Cf 54 49 53,Aa 7 54]
def Ep:LSO:=[Aa 55 7,Aa 6 55]
def HM:aV:=⟨56,(.seq (.sreg IU [])
 (.seq (.sreg IT [])
 (.seq (.sreg IS Cl)
 (.seq (.seq (.sreg IR [])
 (.block 0 (.loop (.seq (.sreg IQ [])
 (.seq (.cond (tm 17) .skip
 (.exit 0))
 (.seq (.block 1 (.seq (.sreg IP Ck)
 (.seq (.seq (.sdreg IN [.pure,.pure,.pure,.pure,(.read 0 0),.pure,(.read 0 0)] Cl)
 (.cond (tm 29) (.seq (.sreg IM Cq)
 (.sreg IL []))
 .skip))
 (.seq (.sdreg IK [.pure,(.read 0 0),.pure,(.read 0 0)] Co)
 (.cond (tm 41) (.sreg Eu Cm)
 .skip)))))
 (.sreg Et Cj)))))))
 (.seq (.seq (.sreg Es Cj)
 (.cond (tm 48) (.sreg Er Cq)
 .skip))
 (.seq (.sreg Ep Cj)
 .ret)))))),[(.tmp 6)]⟩
attribute [push_cast] IU IT IS IR IQ IP IN IM IL IK Eu Et Es Er Ep
theorem Rp:aX Tryz.prog (fun _ _=>1) 43=some HM.raw:=by kernel_rfl
def EE:LSO:=[Az 2 0,Ak 4,Ab 5 0]
def ED:LSO:=[Ak 6]
def EC:LSO:=[Aa 12 1,Ah 13 12,Ab 14 0]
def EB:LSO:=[Ai 15 14 13]
def EA:LSO:=[Aj 16 2 12 14,An 17 2 16,Bf 8,Ap 2 8 17]
def Ez:LSO:=[Ad 18 0 2,Ac 19 1 18,Ad 20 0 8,Ac 21 1 20,Am 22 37 19 21,Aa 9 22]
def Ey:LSO:=[Aa 23 9,AA 24 23 0]
def Ex:LSO:=[Ak 4,Ab 5 17]
def Ew:LSO:=[Ad 25 1 8,Ac 26 1 25,Ah 27 26,Au 28 27 0]
def Ev:LSO:=[Ak 4,Ab 5 19]
def wj:LSO:=[Ad 30 0 2,Ac 31 1 30,Aa 32 9,Aj 33 4 31 32,An 34 4 33,Aa 35 6,Ad 36 0 8,Ac 37 1 36,Am 38 29 35 37,Ad 39 1 8,Ac 40 1 39,AD 41 42 34 38 40,Aa 29 41,
 Ar 42 29,As 43 29,Aa 10 42,Aa 11 43]
def wi:LSO:=[Aa 44 11,AH 45 44 0]
def wh:LSO:=[Aa 46 11,Ak 4,Aa 5 46]
def wg:LSO:=[Aa 47 6,Ad 48 0 2,Ac 49 1 48,Aa 50 9,Aj 51 4 49 50,Ad 52 0 51,Ac 53 1 52,Aa 54 10,AD 55 43 47 53 54,Aa 6 55]
def wc:LSO:=[Af 56 14 1,Aa 14 56]
def wb:LSO:=[Aa 57 6,Aa 4 57,Ab 5 0]
def uG:aV:=⟨58,(.seq (.sreg EE [])
 (.seq (.sreg ED [])
 (.seq (.seq (.sreg EC [])
 (.block 0 (.loop (.seq (.sreg EB [])
 (.seq (.cond (tm 15) .skip
 (.exit 0))
 (.seq (.block 1 (.seq (.sreg EA Ck)
 (.seq (.sreg Ez Co)
 (.seq (.seq (.sreg Ey Cj)
 (.cond (tm 24) (.seq (.sreg Ex [])
 .ret)
 .skip))
 (.seq (.seq (.sreg Ew Cl)
 (.cond (tm 28) (.seq (.sreg Ev [])
 .ret)
 .skip))
 (.seq (.sdreg wj [.pure,(.read 0 0),.pure,(.read 0 0),(.read 0 0),.pure,.pure,(.read 0 0),(.read 0 0),.pure,(.read 0 0),(.read 0 0),.pure,.pure,.pure,.pure] [true,true,false,false,false,false,false,false,false,false,false,false,false,false,false,false,false])
 (.seq (.seq (.sreg wi Cj)
 (.cond (tm 45) (.seq (.sreg wh Cp)
 .ret)
 .skip))
 (.sreg wg Cv))))))))
 (.sreg wc Cj)))))))
 (.seq (.sreg wb Cp)
 .ret)))),[(.tmp 4),(.tmp 5)]⟩
attribute [push_cast] EE ED EC EB EA Ez Ey Ex Ew Ev wj wi wh wg wc wb
theorem PK:aX Tryz.prog (fun _ _=>1) 19=some uG.raw:=by kernel_rfl
def I0:LSO:=[Az 4 0,Ag 8]
def IZ:LSO:=[Ad 12 0 4,Ac 13 1 12,Aa 14 2,Am 15 37 13 14,Aa 9 15]
def IY:LSO:=[Aa 16 9,AA 17 16 0]
def IX:LSO:=[Ag 8]
def IW:LSO:=[Ad 19 0 4,Ac 20 1 19,Aa 21 9,Aj 22 4 20 21,Ad 23 1 22,Ac 24 1 23,Aa 25 3,Am 26 38 24 25,Aa 18 26,Ar 27 18,As 28 18,Aa 10 27,Aa 11 28]
def IV:LSO:=[Aa 29 11,Aa 30 29,.grp none 30 true
 [A4 31 30 0 4,A3 32 30 1 31,Ae 33 30 9,AU 34 30 4 32 33,A4 35 30 1 34,A3 36 30 1 35,Ae 37 30 1,Ae 38 30 2,Bm 39 30 29 37 38,Ae 40 30 10,Bn 41 30 39 36 39 40]
 42 (tm 41),Aa 8 42]
def HN:aV:=⟨43,(.seq (.sreg I0 [])
 (.seq (.sreg IZ Cm)
 (.seq (.seq (.sreg IY Cj)
 (.cond (tm 17) (.seq (.sreg IX [])
 .ret)
 .skip))
 (.seq (.sreg IW CR)
 (.seq (.sdreg IV [.pure,.pure,.pure,(.read 0 0),.pure,(.read 0 0),.pure,(.read 0 0),.pure,.pure,(.read 0 0),.pure] Cl)
 .ret))))),[(.tmp 8)]⟩
attribute [push_cast] I0 IZ IY IX IW IV
theorem Rq:aX Tryz.prog (fun _ _=>1) 12=some HN.raw:=by kernel_rfl
attribute [push_cast] mL kV mK uD Lu uE HL HM uG HN
variable {L:List Blk} {K:aef}
set_option maxHeartbeats 8000000
set_option maxRecDepth 100000
theorem adi {ts:List Typ} {cap:Option Nat} {n:List UInt8} (hl:ts.length<=1100000) (hts:∀ t∈ts,am t.1) (hn:am n) (h1:ef ts n=none->K (.int .i64 (-1)) L) (h2:∀ k:Nat,k<ts.length->ef ts n=some (ts.getD k gk)->K (.int .i64 k) L) :
  aee 37 [.sl (aW ts) ts.length cap,.str n] L K:=by
 replace h1:=hid h1;replace h2:=hid h2;refine aed K1 ?_;refine ai (fun m T' L'=>∃ k:Nat,m=ts.length - k/\k<=ts.length/\T'=[(8,.int .i64 (k:Int)),(7,.int .i64 ts.length),(0,.sl (aW ts) ts.length cap),(1,.str n)]/\L=L' /\
  ∀ j,j<k->¬ aa (ts.getD j gk).1=aa n) (CutS (b:=aeg _)) ⟨0,rfl,aej _,rfl,rfl,by simp⟩ ?_
 rintro _ _ L' ⟨k,rfl,hk,rfl,e,hr⟩;subst e;replace hr:=hid hr;by_cases hlt:k<ts.length
 ·have g1:(k:Int)<(ts.length:Int):=by omega
  have g2:=aec k (by omega);have e4:k * 4<(aW ts).length:=by rw [gG];omega
  have e3:(aW ts).getD (k * 4) .undef=.str (ts.getD k gk).1:=by
   have h3:=congrArg (fun l=>l[0]?) (ik hlt);simp only [ae1 (show 0<4 by omega),aeZ,afd] at h3;rw [aew,h3];rfl
  obtain ⟨ty,hty⟩:=aea (ts.getD k gk);have hm:am ty.1:=hts _ (by rw [<- hty];simp [hlt]);rw [hty] at e3;replace hty:=hid hty;by_cases hq:aa ty.1=aa n
  ·have e:ef ts n=some (ts.getD k gk):=gP (d:=gk) hlt (fun j hj=>decide_eq_false (hr.out j hj)) (by rw [hty.out];exact decide_eq_true hq);have h':=hid (h2.out k hlt e);have kk1:=@hid _ (fun L K=>bg hm (L:=L) (K:=K));have kk2:=@hid _ (fun L K=>bg hn (L:=L) (K:=K));refine wk ?_;exact ac h'.out
  ·have kk1:=@hid _ (fun L K=>bg hm (L:=L) (K:=K));have kk2:=@hid _ (fun L K=>bg hn (L:=L) (K:=K));refine wk ?_;refine ag _ _ _ (by omega) (CutL (b:=by simp)) ⟨k+1,rfl,hlt,rfl,rfl,fun j hj=>?_⟩;rcases aer j k with h|h
   ·exact hr.out j h
   ·have:j=k:=by omega
    subst this;rw [hty.out];exact hq
 ·have g1:¬ (k:Int)<(ts.length:Int):=by omega
  have h':=hid (h1.out (agL.2 fun ty hty=>by
   obtain ⟨j,hj,e⟩:=aeU.1 hty;have:=hr.out j (by omega);simpa [hj,e] using this))
  refine wk ?_;exact ac h'.out
theorem K8 {syn:Int} {v:List UInt8} {L:List Blk} {K:aef} (h:K (.str (bP syn v)) L):aee 40 [.int .i64 syn,.str v] L K:=by
 unfold bP at h;refine aed PH ?_;refine mU ?_;rcases hm:ci syn v with _|m
 all_goals rw [hm] at h
 ·replace h:Hid (K (.str []) L):=hid h;simp only [gj];refine sk ?_;refine wk ?_;exact ac h.out
 ·replace h:Hid (K (.str m) L):=hid h;simp only [gj];refine sk ?_;refine wk ?_;exact ac h.out
theorem acT {syn:Int} {l:List (List UInt8)} {cap:Option Nat} {n:List UInt8} (hl:l.length<=1100000) (h:K (.bool (inM syn l n)) L) :
  aee 39 [.int .i64 syn,.sl (l.map AV.str) l.length cap,.str n] L K:=by
 obtain ⟨R,hR⟩:=aea (inM syn l n);rw [hR] at h;replace h:=hid h;refine aed R3 ?_;refine ai (fun m T' L'=>∃ k:Nat,m=l.length - k/\k<=l.length/\Hid (inM syn (l.drop k) n=R)/\T'=[(11,.int .i64 (k:Int)),(10,.int .i64 l.length),(9,.sl (l.map AV.str) l.length cap),(0,.int .i64 syn),(2,.str n)]/\L=L') (CutS (b:=aeg _)) ⟨0,rfl,aej _,hid (by simpa using hR),rfl,rfl⟩ ?_;rintro _ _ L' ⟨k,rfl,hk,hI,rfl,e⟩;subst e;by_cases hlt:k<l.length
 ·have g1:(k:Int)<(l.length:Int):=by omega
  have g2:=aec k (by omega);obtain ⟨v,hv⟩:=aea (l.getD k []);have g3:(l.map AV.str).getD k .undef=.str v:=by rw [<- hv];simp [hlt]
  have hdr:l.drop k=v::l.drop (k+1):=by rw [aeH hlt,<- hv];simp [hlt]
  have hI2:=hI.out;rw [hdr,inM,List.any_cons] at hI2;clear hv hdr hI hR;by_cases hq:bP syn v=n
  ·rw [decide_eq_true hq,af5] at hI2;have h':=h.out;rw [<- hI2] at h';replace h':=hid h';clear hI2;have kk1:=@hid _ @K8;refine wk ?_;exact ac h'.out
  ·rw [decide_eq_false hq,afQ] at hI2;replace hI2:=hid hI2;have kk1:=@hid _ @K8;refine wk ?_;exact ag _ _ _ (by omega) (CutL (b:=by simp)) ⟨k+1,rfl,hlt,hI2,rfl,rfl⟩
 ·have hke:k=l.length:=by omega
  subst hke;have g1:¬ (l.length:Int)<(l.length:Int):=by omega
  have h':=h.out;rw [<- hI.out,aeC] at h';replace h':=hid h';clear hI hR;refine wk ?_;exact ac h'.out
theorem acJ {syn:Int} {l:List (List UInt8)} {cap:Option Nat} {v:List UInt8} (hl:l.length<=1100000) (h:K (iI (gy syn v false l)) L) :
  aee 67 [.int .i64 syn,.sl (l.map AV.str) l.length cap,.str v] L K:=by
 obtain ⟨R,hR⟩:=aea (gy syn v false l);rw [hR] at h;replace h:=hid h;refine aed PI ?_;refine cz (l:=[]) (n:=0) 7 1 rfl (aeX 1).symm ?_;refine ai (fun m T' L'=>∃ (k:Nat) (d:Bool) (u:List (List UInt8)) (C:List AV) (n:Nat),m=l.length - k/\k<=l.length/\n<=k+1/\(d=false->n<=k)/\Hid (C=u.map AV.str/\n=u.length)/\Hid (u++gy syn v d (l.drop k)=R)/\T'=[(13,.int .i64 (k:Int)),(12,.int .i64 l.length),(11,.sl (l.map AV.str) l.length cap),(8,.bool d),(7,.gsl C n L.length 1),(0,.int .i64 syn),(2,.str v)]/\L'=L++[.spare n 1]) (CutS (b:=by simp)) ⟨0,false,[],[],0,rfl,aej _,by simp,by simp,hid ⟨rfl,rfl⟩,hid (by simpa using hR),rfl,rfl⟩ ?_;rintro _ _ _ ⟨k,d,u,C,n,rfl,hk,hul,hul2,hC,hI,rfl,rfl⟩;by_cases hlt:k<l.length
 ·have g1:(k:Int)<(l.length:Int):=by omega
  have g2:=aec k (by omega);obtain ⟨x,hx⟩:=aea (l.getD k []);have g3:(l.map AV.str).getD k .undef=.str x:=by rw [<- hx];simp [hlt]
  have hdr:l.drop k=x::l.drop (k+1):=by rw [aeH hlt,<- hx];simp [hlt]
  have hI2:=hI.out;rw [hdr,gy] at hI2;clear hx hdr hI hR;have fin:∀ (y:List UInt8),(C++[.str y]=(u++[y]).map AV.str/\n+1=(u++[y]).length):=fun y=>by
   obtain ⟨rfl,rfl⟩:=hC.out;simp
  replace fin:=hid fin;replace hI2:=hid hI2;cases d with
  | true =>
    have hI3:=hI2.out;rw [if_neg (by simp)] at hI3;simp only [aeR,af5] at hI3;replace hI3:=hid hI3;clear hI2;have kk1:=@hid _ @K8;refine wk ?_;refine ag _ _ _ (by omega) (CutL (b:=by simp)) ⟨k+1,true,u++[x],C++[.str x],n+1,rfl,hlt,by omega,by simp,hid (fin.out x),hid (by simpa using hI3.out),rfl,rfl⟩
  | false =>
    have hul3:=hul2 rfl
    repeat' first
     | refine aY ?_
     | (first|refine aO (by kernel_rfl) ?_|refine aA (by kernel_rfl) ?_|refine aB ?_|refine bw ?_|refine a6 (fun _=>?_)|refine ax ?_|refine aR ?_|refine K8 ?_|refine bj (K8 ⟨rfl,rfl⟩) (K8 ⟨rfl,rfl⟩) ?_|refine aS (K8 ⟨rfl,rfl⟩) ?_)
       refine sm ?_
     | (first|refine aK (by kernel_rfl) ?_|refine aP ?_|refine aQ ?_|refine bd (aw ?_))
       refine sl ?_
     | exact a7
     | first|apply a8|apply aL|apply ba|apply aM|apply bc|apply aN
     | refine aE ?_
     | first|refine aC rfl ?_|refine aD rfl ?_|refine ap rfl ?_ ?_|refine aG rfl (fun _=>?_) (fun _=>?_)|refine aF rfl (fun _=>?_) (fun _=>?_)
     | ((first|refine ao (fun _=>?_) (fun _=>?_)|refine au (fun _=>?_) (fun _=>?_))<;>try refine sm ?_)
     | refine And.intro trivial ?_
     | refine And.intro (by omega) ?_
     | refine aI rfl (fun _=>?_) (fun _=>?_)
     | refine And.intro ?_ ?_
    ·rename_i hq
     rw [bytesLess_eq,decide_eq_true_eq] at hq;have hI3:=hI2.out;rw [if_pos ⟨rfl,hq⟩,decide_eq_true hq,ago] at hI3;refine ag _ _ _ (by omega) (CutL (b:=by simp)) ⟨k+1,true,u++[v]++[x],C++[.str v]++[.str x],n+1+1,rfl,hlt,by omega,by simp,hid ?_,hid (by simpa using hI3),rfl,rfl⟩;obtain ⟨rfl,rfl⟩:=hC.out;simp
    ·rename_i hq
     rw [bytesLess_eq,decide_eq_false_iff_not] at hq;have hI3:=hI2.out;rw [if_neg (fun e=>hq e.2),decide_eq_false hq] at hI3;refine ag _ _ _ (by omega) (CutL (b:=by simp)) ⟨k+1,false,u++[x],C++[.str x],n+1,rfl,hlt,by omega,by omega,hid (fin.out x),hid (by simpa using hI3),rfl,rfl⟩
 ·have hke:k=l.length:=by omega
  subst hke;have g1:¬ (l.length:Int)<(l.length:Int):=by omega
  have hI2:=hI.out;rw [aeC,gy] at hI2;have e0:AV.frzL (R.map AV.str)=R.map AV.str:=cy R;have hfin:∀ X:List Blk,Fin L (.sl (R.map AV.str) R.length none) (L++X) K:=fun X=>ab (by simp only [AV.refs,bV]) h.out
  replace hfin:=hid hfin;cases d with
  | true =>
    rw [if_pos rfl,aeJ] at hI2;subst hI2;refine wk ?_;refine aZ ?_;simp only [AV.frz];rw [hC.out.1,e0,hC.out.2];exact hfin.out _
  | false =>
    rw [if_neg (by simp)] at hI2;subst hI2;have hul3:=hul2 rfl;refine wk ?_;refine aZ ?_;simp only [AV.frz];rw [show C++[AV.str v]=(u++[v]).map AV.str by rw [hC.out.1];simp,e0,show n+1=(u++[v]).length by rw [hC.out.2];simp];exact hfin.out _
theorem QP (syn:Int) (v:List UInt8):∀ (l:List (List UInt8)) (d:Bool),(gy syn v d l).length<=l.length+1
 | [],d=>by rw [gy];split<;>simp
 | x::t,d=>by
   rw [gy];by_cases h:d=false/\bP syn v<bP syn x
   ·rw [if_pos h,decide_eq_true h.2,ago,Lc];simp
   ·have:=QP syn v t (d || decide (bP syn v<bP syn x));rw [if_neg h];simp;omega
theorem acF {ty:Typ} {l vs:List (List UInt8)} {cap capV:Option Nat} (hl:l.length+vs.length<=1100000) {R:List (List UInt8)×Int} (hR:ek ty.2.1 ty.2.2.1 l vs=R) (h:K (.tup [iI R.1,.int .i64 R.2]) L) :
  aee 42 [.agg (tyC ty),.sl (l.map AV.str) l.length cap,.sl (vs.map AV.str) vs.length capV] L K:=by
 replace h:=hid h;replace hR:=hid hR;simp only [tyC];refine aed Ro ?_;refine ai (fun m T' L'=>∃ (i:Nat) (u:List (List UInt8)) (cu:Option Nat),m=vs.length - i/\i<=vs.length/\u.length<=l.length+i/\Hid (ek ty.2.1 ty.2.2.1 u (vs.drop i)=R)/\T'=[(14,.int .i64 (i:Int)),(13,.int .i64 vs.length),(12,.sl (vs.map AV.str) vs.length capV),(1,.sl (u.map AV.str) u.length cu),(3,.ptr L.length 0)]/\L'=L++[Blk.cells (tyC ty)]) (CutS (b:=by simp)) ⟨0,l,cap,rfl,aej _,aeg _,hid (by simpa using hR.out),rfl,rfl⟩ ?_;rintro _ _ _ ⟨i,u,cu,rfl,hi,hul,hI,rfl,rfl⟩;simp only [tyC];by_cases hlt:i<vs.length
 ·have g1:(i:Int)<(vs.length:Int):=by omega
  have g2:=aec i (by omega);obtain ⟨v,hv⟩:=aea (vs.getD i []);have g3:(vs.map AV.str).getD i .undef=.str v:=by rw [<- hv];simp [hlt]
  have hdr:vs.drop i=v::vs.drop (i+1):=by rw [aeH hlt,<- hv];simp [hlt]
  have hI2:=hI.out;rw [hdr] at hI2;have hu1:u.length<=1100000:=by omega
  clear hv hdr hI hR;refine wk ?_;refine mU ?_;rcases hn:ci ty.2.1 v with _|n
  ·rw [S6 hn] at hI2;have h':=h.out;rw [<- hI2] at h';replace h':=hid h';simp only [gj];clear hI2 hn;refine sk ?_;refine wk ?_;exact aZ (ab rfl h'.out)
  rw [S5 hn] at hI2;simp only [gj];rcases hb:inM ty.2.1 u n with _|_
  rotate_left
  ·rw [if_pos hb] at hI2;have h':=h.out;rw [<- hI2] at h';replace h':=hid h';clear hI2 hn;refine sk ?_;have kk1:=@hid _ (fun L K=>acT (syn:=ty.2.1) (n:=n) (cap:=cu) hu1 (L:=L) (K:=K));refine wk ?_;exact aZ (ab rfl h'.out)
  rw [if_neg (by rw [hb];simp)] at hI2;obtain ⟨u',hu'⟩:=aea (gy ty.2.1 v false u);have hl':=QP ty.2.1 v u false;rw [hu'] at hI2 hl';replace hI2:=hid hI2;clear hn;refine sk ?_;have kk1:=@hid _ (fun L K=>acT (syn:=ty.2.1) (n:=n) (cap:=cu) hu1 (L:=L) (K:=K));have kk2:=@hid _ (fun L K=>acJ (syn:=ty.2.1) (v:=v) (cap:=cu) hu1 (L:=L) (K:=K));refine wk ?_;exact ag _ _ _ (by omega) (CutL (b:=by simp)) ⟨i+1,u',none,rfl,hlt,by omega,hI2,rfl,rfl⟩
 ·have hke:i=vs.length:=by omega
  subst hke;have g1:¬ (vs.length:Int)<(vs.length:Int):=by omega
  have hI2:=hI.out;rw [aeC,ek] at hI2;by_cases hs:ty.2.2.1=true/\1<u.length
  ·rw [if_pos hs] at hI2;have h':=h.out;rw [<- hI2] at h';replace h':=hid h';obtain ⟨hs1,hs2⟩:=hs;have g3:(1:Int)<(u.length:Int):=by omega
   clear hI hI2 hR hs2;refine wk ?_;exact aZ (ab rfl h'.out)
  ·rw [if_neg hs] at hI2;have g3:(ty.2.2.1 && decide ((1:Int)<(u.length:Int)))=false:=by
    rcases hsg:ty.2.2.1 with _|_
    ·rfl
    ·simp only [ae7,decide_eq_false_iff_not];intro e;exact hs ⟨hsg,by omega⟩
   have h':=h.out;rw [<- hI2] at h';replace h':=hid h';clear hI hI2 hR hs;refine wk ?_;refine aZ (ab ?_ ?_)
   ·simp only [AV.frz,AV.frzL,cy,AV.refs,AV.refsL,bV];rfl
   ·simp only [AV.frz,AV.frzL,cy];exact h'.out
theorem N9 {l:List Atr} {cap:Option Nat} {n:List UInt8} (hl:l.length<=1100000) (hz:∀ a∈l,am a.1/\a.2.length<=1100000) (hn:am n) (h:K (iI (bu l n)) L) :
  aee 29 [.sl (bh l) l.length cap,.str n] L K:=by
 obtain ⟨R,hR⟩:=aea (bu l n);rw [hR] at h;replace h:=hid h;replace hR:=hid hR;refine aed NT ?_;refine ai (fun m T' L'=>∃ (k:Nat) (X:List Blk),m=l.length - k/\k<=l.length/\Hid (bu (l.drop k) n=R)/\T'=[(9,.int .i64 (k:Int)),(8,.int .i64 l.length),(7,.sl (bh l) l.length cap),(1,.str n)]/\L'=L++X) (CutS (b:=by simp)) ⟨0,[],rfl,aej _,hid (by simpa using hR.out),rfl,by simp⟩ ?_;rintro _ _ _ ⟨k,X,rfl,hk,hI,rfl,rfl⟩;by_cases hlt:k<l.length
 ·have g1:(k:Int)<(l.length:Int):=by omega
  have g2:=aec k (by omega);have e3:=iH hlt;have e4:k * 2+2<=(bh l).length:=by rw [fZ];omega
  obtain ⟨⟨nm,vs⟩,ha⟩:∃ a,l.getD k ([],[])=a:=⟨_,rfl⟩;have hdr:l.drop k=(nm,vs)::l.drop (k+1):=by rw [aeH hlt,<- ha];simp [hlt]
  obtain ⟨hnm,hvs⟩:=hz (nm,vs) (by rw [<- ha];simp [hlt]);simp only at hnm hvs;rw [ha] at e3;simp only [atA] at e3;have hI2:=hI.out;rw [hdr,bu] at hI2;simp only at hI2;clear hI hdr ha hz hR;by_cases hq:aa nm=aa n
  ·rw [if_pos hq] at hI2;subst hI2;have e0:AV.frzL (vs.map AV.str)=vs.map AV.str:=cy vs;have kk1:=@hid _ (fun L K=>bg hnm (L:=L) (K:=K));have kk2:=@hid _ (fun L K=>bg hn (L:=L) (K:=K));refine wk ?_;refine aZ ?_;simp only [AV.frz,e0];exact ab (by simp only [AV.refs,bV]) h.out
  ·rw [if_neg hq] at hI2;replace hI2:=hid hI2;have kk1:=@hid _ (fun L K=>bg hnm (L:=L) (K:=K));have kk2:=@hid _ (fun L K=>bg hn (L:=L) (K:=K));refine wk ?_;exact ag _ _ _ (by omega) (CutL (b:=by simp)) ⟨k+1,_,rfl,hlt,hI2,rfl,rfl⟩
 ·have hke:k=l.length:=by omega
  subst hke;have g1:¬ (l.length:Int)<(l.length:Int):=by omega
  have hI2:=hI.out;rw [aeC,bu] at hI2;subst hI2;refine wk ?_;exact aZ (ab rfl h.out)
theorem acy {l:List Atr} {cap capV:Option Nat} {n:List UInt8} {vs:List (List UInt8)} (hl:l.length<=1100000) (hz:∀ a∈l,am a.1/\a.2.length<=1100000) (hn:am n) (h:K (.sl (bh (fp n vs vs.isEmpty l)) (fp n vs vs.isEmpty l).length none) L) :
  aee 43 [.sl (bh l) l.length cap,.str n,.sl (vs.map AV.str) vs.length capV] L K:=by
 obtain ⟨R,hR⟩:=aea (fp n vs vs.isEmpty l);rw [hR] at h;replace h:=hid h;obtain ⟨d0,hd0⟩:=aea (vs.isEmpty);have hd1:decide ((vs.length:Int)=0)=d0:=by rw [<- hd0];cases vs<;>simp;omega
 rw [hd0] at hR;replace hR:=hid hR;have ev:AV.frzL (vs.map AV.str)=vs.map AV.str:=cy vs;replace hd0:=hid hd0;refine aed Rp ?_;refine cz (l:=[]) (n:=0) 7 2 rfl (aeX 2).symm ?_;refine ai (fun m T' L'=>∃ (k:Nat) (d:Bool) (u:List Atr) (C:List AV) (z:Nat) (X:List Blk),m=l.length - k/\k<=l.length/\z<=k+1/\(d=false->z<=k)/\Hid (C=bh u/\z=u.length)/\Hid (u++fp n vs d (l.drop k)=R)/\T'=[(16,.int .i64 (k:Int)),(15,.int .i64 l.length),(14,.sl (bh l) l.length cap),(8,.bool d),(7,.gsl C z L.length 2),(1,.str n),(2,.sl (vs.map AV.str) vs.length capV)]/\L'=L++(.spare z 2::X)) (CutS (b:=by simp)) ⟨0,d0,[],[],0,[],rfl,aej _,by simp,by simp,hid ⟨rfl,rfl⟩,hid (by simpa using hR.out),rfl,rfl⟩ ?_;rintro _ _ _ ⟨k,d,u,C,z,X,rfl,hk,hul,hul2,hC,hI,rfl,rfl⟩;by_cases hlt:k<l.length
 ·have g1:(k:Int)<(l.length:Int):=by omega
  have g2:=aec k (by omega);have e3:=iH hlt;have e4:k * 2+2<=(bh l).length:=by rw [fZ];omega
  obtain ⟨⟨nm,ws⟩,ha⟩:∃ a,l.getD k ([],[])=a:=⟨_,rfl⟩;have hdr:l.drop k=(nm,ws)::l.drop (k+1):=by rw [aeH hlt,<- ha];simp [hlt]
  obtain ⟨hnm,hws⟩:=hz (nm,ws) (by rw [<- ha];simp [hlt]);simp only at hnm hws;rw [ha] at e3;simp only [atA] at e3;have ew:AV.frzL (ws.map AV.str)=ws.map AV.str:=cy ws;have hI2:=hI.out;rw [hdr,fp] at hI2;simp only at hI2;have fin:∀ (C':List AV) (u':List Atr) (z':Nat) (a:Atr),C'=bh u'/\z'=u'.length->C'++[.str a.1,.sl (a.2.map AV.str) a.2.length none]=bh (u'++[a])/\z'+1=(u'++[a]).length:=fun C' u' z' a e=>by
   obtain ⟨rfl,rfl⟩:=e;simp [NZ,bh]
  replace fin:=hid fin;replace hd1:=hid hd1;clear hI hdr ha hz hR;by_cases hx:aa nm<aa n
  ·have hq:aa n≠aa nm:=fun e=>by rw [e] at hx;exact ae9 _ hx
   have hb:Op.bytesLess (aa n) (aa nm)=false:=by
    rw [bytesLess_eq,decide_eq_false_iff_not];exact fun e=>ae9 _ (afT hx e)
   cases d with
   | true =>
     have hI3:=hI2;rw [if_neg (fun e=>by cases e.1),if_pos hq] at hI3;rw [show (true || !decide (aa nm<aa n))=true by simp [hx]] at hI3;replace hI3:=hid hI3;clear hI2;have kk1:=@hid _ (fun L K=>bg hn (L:=L) (K:=K));have kk2:=@hid _ (fun L K=>bg hnm (L:=L) (K:=K));refine wk ?_;exact ag _ _ _ (by omega) (CutL (b:=by simp)) ⟨k+1,true,u++[(nm,ws)],C++[.str nm,.sl (ws.map AV.str) ws.length none],z+1,_,rfl,hlt,by omega,by simp,hid (fin.out _ _ _ (nm,ws) hC.out),hid (by simpa using hI3.out),rfl,rfl⟩
   | false =>
     have hul3:=hul2 rfl;have hI3:=hI2;rw [if_neg (fun e=>e.2 hx),if_pos hq] at hI3;rw [show (false || !decide (aa nm<aa n))=false by simp [hx]] at hI3;replace hI3:=hid hI3;clear hI2;have kk1:=@hid _ (fun L K=>bg hn (L:=L) (K:=K));have kk2:=@hid _ (fun L K=>bg hnm (L:=L) (K:=K));refine wk ?_;exact ag _ _ _ (by omega) (CutL (b:=by simp)) ⟨k+1,false,u++[(nm,ws)],C++[.str nm,.sl (ws.map AV.str) ws.length none],z+1,_,rfl,hlt,by omega,by simp;omega,hid (fin.out _ _ _ (nm,ws) hC.out),hid (by simpa using hI3.out),rfl,rfl⟩
  ·by_cases hq:aa n=aa nm
   ·have hb:Op.bytesLess (aa n) (aa nm)=false:=by
     rw [bytesLess_eq,decide_eq_false_iff_not,hq];exact ae9 _
    cases d with
    | true =>
      have hI3:=hI2;rw [if_neg (fun e=>by cases e.1),if_neg (fun e=>e hq)] at hI3;rw [show (true || !decide (aa nm<aa n))=true by simp [hx]] at hI3;replace hI3:=hid hI3;clear hI2;have kk1:=@hid _ (fun L K=>bg hn (L:=L) (K:=K));have kk2:=@hid _ (fun L K=>bg hnm (L:=L) (K:=K));refine wk ?_;exact ag _ _ _ (by omega) (CutL (b:=by simp)) ⟨k+1,true,u,C,z,_,rfl,hlt,by omega,by simp,hid hC.out,hid (by simpa using hI3.out),rfl,rfl⟩
    | false =>
      have hul3:=hul2 rfl;have hI3:=hI2;rw [if_pos ⟨rfl,hx⟩,if_neg (fun e=>e hq)] at hI3;rw [show (false || !decide (aa nm<aa n))=true by simp [hx]] at hI3;replace hI3:=hid hI3;clear hI2;have kk1:=@hid _ (fun L K=>bg hn (L:=L) (K:=K));have kk2:=@hid _ (fun L K=>bg hnm (L:=L) (K:=K));refine wk ?_;exact ag _ _ _ (by omega) (CutL (b:=by simp)) ⟨k+1,true,u++[(n,vs)],C++[.str n,.sl (vs.map AV.str) vs.length none],z+1,_,rfl,hlt,by omega,by simp,hid (fin.out _ _ _ (n,vs) hC.out),hid (by simpa using hI3.out),rfl,rfl⟩
   ·have hb:Op.bytesLess (aa n) (aa nm)=true:=by
     rw [bytesLess_eq,decide_eq_true_eq];exact (af6.1 (afz.1 hx)).resolve_right hq
    cases d with
    | true =>
      have hI3:=hI2;rw [if_neg (fun e=>by cases e.1),if_pos hq] at hI3;rw [show (true || !decide (aa nm<aa n))=true by simp [hx]] at hI3;replace hI3:=hid hI3;clear hI2;have kk1:=@hid _ (fun L K=>bg hn (L:=L) (K:=K));have kk2:=@hid _ (fun L K=>bg hnm (L:=L) (K:=K));refine wk ?_;exact ag _ _ _ (by omega) (CutL (b:=by simp)) ⟨k+1,true,u++[(nm,ws)],C++[.str nm,.sl (ws.map AV.str) ws.length none],z+1,_,rfl,hlt,by omega,by simp,hid (fin.out _ _ _ (nm,ws) hC.out),hid (by simpa using hI3.out),rfl,rfl⟩
    | false =>
      have hul3:=hul2 rfl;have hI3:=hI2;rw [if_pos ⟨rfl,hx⟩,if_pos hq] at hI3;rw [show (false || !decide (aa nm<aa n))=true by simp [hx]] at hI3;replace hI3:=hid hI3;clear hI2;have kk1:=@hid _ (fun L K=>bg hn (L:=L) (K:=K));have kk2:=@hid _ (fun L K=>bg hnm (L:=L) (K:=K));refine wk ?_;exact ag _ _ _ (by omega) (CutL (b:=by simp)) ⟨k+1,true,u++[(n,vs)]++[(nm,ws)],C++[.str n,.sl (vs.map AV.str) vs.length none]++[.str nm,.sl (ws.map AV.str) ws.length none],z+1+1,_,rfl,hlt,by omega,by simp,hid (fin.out _ _ _ (nm,ws) (fin.out _ _ _ (n,vs) hC.out)),hid (by simpa using hI3.out),rfl,rfl⟩
 ·have hke:k=l.length:=by omega
  subst hke;have g1:¬ (l.length:Int)<(l.length:Int):=by omega
  have hI2:=hI.out;rw [aeC,fp] at hI2;have e0:=mR R;have hfin:∀ X:List Blk,Fin L (.sl (bh R) R.length none) (L++X) K:=fun X=>ab (by simp only [AV.refs,jz]) h.out
  replace hfin:=hid hfin;replace hd1:=hid hd1;clear hI hR;cases d with
  | true =>
    rw [if_pos rfl,aeJ] at hI2;subst hI2;refine wk ?_;refine aZ ?_;simp only [AV.frz];rw [hC.out.1,e0,hC.out.2];exact hfin.out _
  | false =>
    rw [if_neg (by simp)] at hI2;subst hI2;have hul3:=hul2 rfl;refine wk ?_;refine aZ ?_;simp only [AV.frz];rw [show C++[AV.str n,.sl (vs.map AV.str) vs.length none]=bh (u++[(n,vs)]) by rw [hC.out.1,NZ];simp [bh],e0,show z+1=(u++[(n,vs)]).length by rw [hC.out.2];simp];exact hfin.out _
theorem Tf {ts:List Typ} {capT:Option Nat} {c2:List AV} {n2:Nat} {cap2:Option Nat} {list:List Atr} {cap:Option Nat} (hts:LI ts) (hl:list.length<=100) (hv:∀ a∈list,am a.1/\a.2.length<=9000) {R:List Atr×Int} (hR:Ld ts [] list=R) (h:K (.tup [.sl (bh R.1) R.1.length none,.int .i64 R.2]) L) :
  aee 19 [.agg [.sl (aW ts) ts.length capT,.sl c2 n2 cap2],.sl (bh list) list.length cap] L K:=by
 replace h:=hid h;replace hR:=hid hR;refine aed PK ?_;obtain ⟨sC,hsC⟩:=aea (AV.sl c2 n2 cap2);rw [hsC];refine ai (fun m T' L'=>∃ (i:Nat) (out:List Atr) (co:Option Nat) (X:List Blk),m=list.length - i/\i<=list.length/\out.length<=i/\Hid (Ld ts out (list.drop i)=R)/\Hid (∀ a∈out,am a.1/\a.2.length<=9000 * i)/\T'=[(14,.int .i64 (i:Int)),(13,.int .i64 list.length),(12,.sl (bh list) list.length cap),(6,.sl (bh out) out.length co),(2,.ptr L.length 0)]/\L'=L++(.cells [.sl (aW ts) ts.length capT,sC]::X)) (CutS (b:=by simp)) ⟨0,[],some 0,[],rfl,aej _,aeg _,hid (by simpa using hR.out),hid (by simp),rfl,by simp⟩ ?_;rintro _ _ _ ⟨i,out,co,X,rfl,hi,hol,hI,ho,rfl,rfl⟩;by_cases hlt:i<list.length
 ·have g1:(i:Int)<(list.length:Int):=by omega
  have g2:=aec i (by omega);have e3:=iH hlt;have e4:i * 2+2<=(bh list).length:=by rw [fZ];omega
  obtain ⟨⟨nm,vs⟩,ha⟩:∃ a,list.getD i ([],[])=a:=⟨_,rfl⟩;have hdr:list.drop i=(nm,vs)::list.drop (i+1):=by rw [aeH hlt,<- ha];simp [hlt]
  obtain ⟨hnm,hvs⟩:=hv (nm,vs) (by rw [<- ha];simp [hlt]);simp only at hnm hvs;rw [ha] at e3;simp only [atA] at e3;have hI2:=hI.out;rw [hdr,Ld] at hI2;simp only at hI2;replace hI2:=hid hI2;clear hI hdr ha hv hR;refine wk ?_;refine adi hts.1 hts.2.1 hnm (fun hty=>?_) (fun t ht hty=>?_)
  ·have hI3:=hI2.out;rw [hty] at hI3;simp only at hI3;have h':=h.out;rw [<- hI3] at h';replace h':=hid h';clear hI2 hI3 hty;refine sk ?_;refine wk ?_;exact aZ (ab rfl h'.out)
  ·have hI3:=hI2.out;have e5:=ik ht;have e6:t * 4+4<=(aW ts).length:=by rw [gG];omega
   have e8:(aW ts).getD (t * 4) .undef=.str (ts.getD t gk).1:=by
    have h3:=congrArg (fun l=>l[0]?) (ik ht);simp only [ae1 (show 0<4 by omega),aeZ,afd] at h3;rw [aew,h3];rfl
   have g3:¬ (t:Int)<0:=by omega
   have g4:(t:Int)<(ts.length:Int):=by omega
   have g6:t * 4<(aW ts).length:=by omega
   have htn:=lS hty;obtain ⟨ty,hte⟩:=aea (ts.getD t gk);rw [hte] at hty e5 e8 htn;rw [hty] at hI3;simp only at hI3;simp only [tyC] at e5;by_cases hvn:vs=[]
   ·rw [if_pos hvn] at hI3;have h':=h.out;rw [<- hI3] at h';replace h':=hid h';subst hvn;clear hI2 hI3 hty htn hte;refine sk ?_;refine wk ?_;exact aZ (ab rfl h'.out)
   rw [if_neg hvn] at hI3;have g5:¬ (vs.length:Int)=0:=by
    rcases vs with _|⟨x,t⟩
    ·exact absurd rfl hvn
    ·simp;omega
   obtain ⟨V,hV⟩:=aea (bu out nm);have hVl:V.length<=9000 * i:=by rw [<- hV];exact Ql fun a ha=>(ho.out a ha).2
   rw [hV] at hI3;obtain ⟨A,hA⟩:=aea (ek ty.2.1 ty.2.2.1 V vs);rw [hA] at hI3;have kk1:Hid (Ctr Tryz.prog 29 [.sl (bh out) out.length co,.str nm] (.sl (V.map AV.str) V.length none)):=hid fun q=>N9 (by omega) (fun a ha=>⟨(ho.out a ha).1,by have:=(ho.out a ha).2;omega⟩) hnm (by rw [hV];exact q)
   have kk2:Hid (Ctr Tryz.prog 42 [.agg [.str ty.1,.int .i64 ty.2.1,.bool ty.2.2.1,.bool ty.2.2.2],.sl (V.map AV.str) V.length none,.sl (vs.map AV.str) vs.length none] (.tup [.sl (A.1.map AV.str) A.1.length none,.int .i64 A.2])):=hid fun q=>acF (ty:=ty) (by omega) hA q
   have kk3:Hid (Ctr Tryz.prog 43 [.sl (bh out) out.length co,.str ty.1,.sl (A.1.map AV.str) A.1.length none] (.sl (bh (fp ty.1 A.1 A.1.isEmpty out)) (fp ty.1 A.1 A.1.isEmpty out).length none)):=hid fun q=>acy (by omega) (fun a ha=>⟨(ho.out a ha).1,by have:=(ho.out a ha).2;omega⟩) (hts.2.1 ty htn.1) q
   obtain ⟨A1,A2⟩:=A;simp only at kk2 kk3 hI3;obtain ⟨out',hout'⟩:=aea (fp ty.1 A1 A1.isEmpty out);rw [hout'] at kk3 hI3;clear hI2 hvn hty;by_cases hc0:A2=0
   ·subst hc0;rw [if_neg (by simp)] at hI3;have hAl:=N1 (by rw [hA]:(ek ty.2.1 ty.2.2.1 V vs).2=0);rw [hA] at hAl;simp only at hAl;have hol':out'.length<=i+1:=by
     have:=@P4 ty.1 A1 A1.isEmpty out;rw [hout'] at this;split at this<;>omega
    have ho':∀ a∈out',am a.1/\a.2.length<=9000 * (i+1):=fun a ha=>by
     rw [<- hout'] at ha;rcases LY ha with e|e
     ·rw [e];exact ⟨hts.2.1 ty htn.1,by simp only;omega⟩
     ·have:=ho.out a e;exact ⟨this.1,by omega⟩
    replace hI3:=hid hI3;replace ho':=hid ho';clear hA hV hout' hAl htn hte;refine sk ?_;refine wk ?_;exact ag _ _ _ (by omega) (CutL (b:=by simp)) ⟨i+1,out',none,_,rfl,hlt,hol',hI3,ho',rfl,rfl⟩
   ·rw [if_pos hc0] at hI3;have h':=h.out;rw [<- hI3] at h';replace h':=hid h';clear hA hV hout' htn hI3 hte;refine sk ?_;refine wk ?_;exact aZ (ab rfl h'.out)
 ·have hke:i=list.length:=by omega
  subst hke;have g1:¬ (list.length:Int)<(list.length:Int):=by omega
  have hI2:=hI.out;rw [aeC,Ld] at hI2;have h':=h.out;rw [<- hI2] at h';replace h':=hid h';clear hI hI2 hR hv;have e0:=mR out;refine wk ?_;refine aZ ?_;simp only [AV.frz,AV.frzL,e0];exact ab (by simp only [AV.refs,AV.refsL,jz];rfl) h'.out
theorem abn {ts:List Typ} {capT:Option Nat} {c2:List AV} {n2:Nat} {cap2:Option Nat} {l:List Atr} {cap:Option Nat} {n v:List UInt8} (hts:LI ts) (hl:l.length<=1100000) (hz:∀ a∈l,am a.1/\a.2.length<=1100000) (hn:am n) (h:K (.bool (HD ts l n v)) L) :
  aee 12 [.agg [.sl (aW ts) ts.length capT,.sl c2 n2 cap2],.sl (bh l) l.length cap,.str n,.str v] L K:=by
 unfold HD at h;refine aed Rq ?_;refine adi hts.1 hts.2.1 hn (fun hty=>?_) (fun t ht hty=>?_)
 ·rw [hty] at h;replace h:=hid h;clear hty;refine sk ?_;refine wk ?_;exact ab rfl h.out
 rw [hty] at h;simp only at h;have e6:t * 4+1<(aW ts).length:=by rw [gG];omega
 have e8:(aW ts).getD (t * 4+1) .undef=.int .i64 (ts.getD t gk).2.1:=by
  have h3:=congrArg (fun l=>l[1]?) (ik ht);simp only [ae1 (show 1<4 by omega),aeZ] at h3;rw [aew,h3];rfl
 have g3:¬ (t:Int)<0:=by omega
 have g4:(t:Int)<(ts.length:Int):=by omega
 obtain ⟨ty,hte⟩:=aea (ts.getD t gk);rw [hte] at h e8;clear hty hte;refine sk ?_;refine wk ?_;refine mU ?_;rcases hno:ci ty.2.1 v with _|m
 ·rw [hno] at h;replace h:=hid h;simp only [gj];clear hno;refine sk ?_;refine wk ?_;exact ab rfl h.out
 ·rw [hno] at h;simp only at h;obtain ⟨V,hV⟩:=aea (bu l n);have hVl:V.length<=1100000:=by rw [<- hV];exact Ql fun a ha=>(hz a ha).2
  rw [hV] at h;replace h:=hid h;have kk1:Hid (Ctr Tryz.prog 29 [.sl (bh l) l.length cap,.str n] (.sl (V.map AV.str) V.length none)):=hid fun q=>N9 hl hz hn (by rw [hV];exact q)
  have kk2:Hid (Ctr Tryz.prog 39 [.int .i64 ty.2.1,.sl (V.map AV.str) V.length none,.str m] (.bool (inM ty.2.1 V m))):=hid fun q=>acT hVl q
  simp only [gj];clear hno hV;refine sk ?_;refine wk ?_;exact ab rfl h.out
theorem ZF {ts:List Typ} {B:Nat}:∀ {l out:List Atr} {i:Nat},out.length<=i->(∀ a∈out,a.2.length<=B * i)->(∀ a∈l,a.2.length<=B)->(Ld ts out l).1.length<=i+l.length/\∀ a∈(Ld ts out l).1,a.2.length<=B * (i+l.length)
 | [],out,i,h1,h2,_=>by rw [Ld];exact ⟨h1,h2⟩
 | x::t,out,i,h1,h2,h3=>by
   have nil:([]:List Atr).length<=i+(x::t).length/\∀ a∈([]:List Atr),a.2.length<=B * (i+(x::t).length):=⟨by simp,fun a ha=>by cases ha⟩;rw [Ld];rcases hty:ef ts x.1 with _|ty
   ·exact nil
   ·simp only;split
    ·exact nil
    ·split
     ·exact nil
     ·rename_i hd
      simp only [ne_eq,agI] at hd;have hl:=N1 hd;have hv:=Ql (l:=out) (n:=x.1) h2;have hx:=h3 x (by simp);have hB:=Nat.mul_add_one B i;have:=@ZF ts B t (fp ty.1 (ek ty.2.1 ty.2.2.1 (bu out x.1) x.2).1 (ek ty.2.1 ty.2.2.1 (bu out x.1) x.2).1.isEmpty out) (i+1) (by
       have:=@P4 ty.1 (ek ty.2.1 ty.2.2.1 (bu out x.1) x.2).1 (ek ty.2.1 ty.2.2.1 (bu out x.1) x.2).1.isEmpty out;split at this<;>omega) (fun a ha=>by
       rcases LY ha with e|e
       ·rw [e];simp only;omega
       ·have:=h2 a e;omega) (fun a ha=>h3 a (by simp [ha]))
      rw [aet,show i+(t.length+1)=i+1+t.length by omega];exact this
end Go.Proofs.YtigifoeopopnbaaGreatDoor.Av
