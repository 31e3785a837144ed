/- Joined texts of the walk, made small by a program. -/
import Derived.Test.YtdhjplmjpjfjnaaGreatHP4
import Derived.Test.YtdhjplmjpjfjnaaGreatRows
import Derived.KernelRfl
set_option linter.unusedSimpArgs false
set_option linter.unusedVariables false
set_option maxRecDepth 100000
namespace Go.Proofs.YtdhjplmjpjfjnaaGreat.Av
open Go
def wi:LSO:=[A7 2,Ac 3 0]
def wh:LSO:=[Aa 7 0,Ah 8 52 7,Aa 6 8,Ar 9 6,Aw 10 6,Aa 4 9,Aa 5 10]
def wg:LSO:=[Aa 11 5,A2 12 11 0]
def wc:LSO:=[Aa 13 5,A7 2,Aa 3 13]
def wb:LSO:=[Aa 14 0,Ae 15 14,Au 16 15 0]
def wa:LSO:=[A7 2,Ac 3 2]
def v8:LSO:=[Aa 17 0,Ah 18 51 17,o1 19 (.build [(.sl [] 0 (some 0)),(.sl [] 0 (some 0)),(.int .i64 0)] [(0,(1,(tm 18)))]),A4 20 19,Aa 2 20,Ac 3 0]
def fb:bh:=⟨21,(.seq (.sreg wi [])
 (.seq (.sreg wh B8)
 (.seq (.seq (.sreg wg B4)
 (.cond (tm 12) (.seq (.sreg wc BC)
 .ret)
 .skip))
 (.seq (.seq (.sreg wb B5)
 (.cond (tm 16) (.seq (.sreg wa [])
 .ret)
 .skip))
 (.seq (.sreg v8 BH)
 .ret))))),[(.tmp 2),(.tmp 3)]⟩
attribute [push_cast] wi wh wg wc wb wa v8
theorem mI:bz Tryz.prog (fun _ _=>1) 25=some fb.raw:=by kernel_rfl
def nX:LSO:=[Ac 4 0]
def nW:LSO:=[Aa 11 1,Ah 12 53 11,Aa 10 12,Ar 13 10,Aw 14 10,Aa 5 13,Aa 6 14]
def nV:LSO:=[Ac 7 0]
def nU:LSO:=[Aa 15 6,Au 16 15 0,Aa 17 16,.grp none 17 true
 [Af 18 17 7,Af 19 17 0,AF 20 17 19,Ax 21 17 1 20,As 22 17 1 21,AA 23 17 22,og 24 17 true (.bin .lss (tm 18) (tm 23))]
 25 (tm 24)]
def nT:LSO:=[Aa 29 0,Ag 30 29,Ad 31 1 30,Ab 32 1 31,Aa 33 7,Aj 34 3 32 33,Ad 35 1 34,Ab 36 1 35,Ah 37 53 36,Aa 28 37,Ar 38 28,Aw 39 28,Aa 8 38,Aa 9 39]
def nS:LSO:=[Aa 40 5,Aa 41 8,AC 42 40 41]
def nR:LSO:=[Aa 43 7,Aa 4 43]
def nQ:LSO:=[Aa 26 7,Ai 27 26 1,Aa 7 27]
def nP:LSO:=[Ac 4 (-1)]
def eR:bh:=⟨44,(.seq (.sreg nX [])
 (.seq (.sreg nW BI)
 (.seq (.seq (.sreg nV [])
 (.block 0 (.loop (.seq (.seq (.sreg nU B6)
 (.cond (tm 25) .skip
 (.exit 0)))
 (.seq (.block 1 (.seq (.sreg nT [false,true,false,false,false,false,false,false,false,false,false,false,false,false])
 (.seq (.sreg nS B5)
 (.cond (tm 42) (.seq (.sreg nR B4)
 .ret)
 .skip))))
 (.sreg nQ B5))))))
 (.seq (.sreg nP [])
 .ret)))),[(.tmp 4)]⟩
attribute [push_cast] nX nW nV nU nT nS nR nQ nP
theorem mH:bz Tryz.prog (fun _ _=>1) 49=some eR.raw:=by kernel_rfl
def kZ:LSO:=[Ac 4 0]
def kY:LSO:=[Aa 6 0,Ag 7 6,Ad 8 1 7,Ab 9 1 8,Ae 10 9,Ac 11 0]
def kX:LSO:=[Al 12 11 10]
def kW:LSO:=[Aa 13 11,Aa 5 13]
def kV:LSO:=[Aa 14 0,Ag 15 14,Ad 16 1 15,Ab 17 1 16,Aa 18 5,Aj 19 3 17 18,Ad 20 0 19,Ab 21 1 20,Aa 22 1,AC 23 21 22]
def kQ:LSO:=[Aa 24 5,Aa 4 24]
def kP:LSO:=[Ai 25 11 1,Aa 11 25]
def kO:LSO:=[Ac 4 (-1)]
def gI:bh:=⟨26,(.seq (.sreg kZ [])
 (.seq (.seq (.sreg kY BH)
 (.block 0 (.loop (.seq (.sreg kX [])
 (.seq (.cond (tm 12) .skip
 (.exit 0))
 (.seq (.block 1 (.seq (.sreg kW B4)
 (.seq (.sreg kV BD)
 (.cond (tm 23) (.seq (.sreg kQ B4)
 .ret)
 .skip))))
 (.sreg kP B4)))))))
 (.seq (.sreg kO [])
 .ret))),[(.tmp 4)]⟩
attribute [push_cast] kZ kY kX kW kV kQ kP kO
theorem vq:bz Tryz.prog (fun _ _=>1) 43=some gI.raw:=by kernel_rfl
def kK:LSO:=[Ac 4 0]
def kJ:LSO:=[Aa 6 0,Aa 7 1,Aq 8 49 6 7,Aa 5 8]
def kI:LSO:=[Aa 9 5,Bh 10 9 0]
def kH:LSO:=[Ac 4 0]
def kG:LSO:=[Aa 11 0,Ag 12 11,Ad 13 1 12,Ab 14 1 13,Aa 15 5,Aj 16 3 14 15,Ad 17 0 16,Ab 18 1 17,Aa 4 18]
def dP:bh:=⟨19,(.seq (.sreg kK [])
 (.seq (.sreg kJ B6)
 (.seq (.seq (.sreg kI B4)
 (.cond (tm 10) (.seq (.sreg kH [])
 .ret)
 .skip))
 (.seq (.sreg kG BF)
 .ret)))),[(.tmp 4)]⟩
attribute [push_cast] kK kJ kI kH kG
theorem jp:bz Tryz.prog (fun _ _=>1) 17=some dP.raw:=by kernel_rfl
def kB:LSO:=[Ac 4 0]
def kA:LSO:=[Aa 8 0,Aa 9 1,Aq 10 43 8 9,Aa 5 10]
def kz:LSO:=[Ac 6 0]
def kw:LSO:=[Aa 11 0,Ag 12 11,Ad 13 1 12,Ab 14 1 13,Ae 15 14,Ac 16 0]
def ku:LSO:=[Al 17 16 15]
def kr:LSO:=[Aa 18 16,Aa 7 18]
def kp:LSO:=[Aa 19 5,AE 20 19 0,Aa 21 20,.grp none 21 true
 [Af 22 21 0,AF 23 21 22,Ax 24 21 1 23,As 25 21 1 24,Af 26 21 7,AL 27 21 3 25 26,Ax 28 21 1 27,As 29 21 1 28,AA 30 21 29,Af 31 21 0,AF 32 21 31,Ax 33 21 1 32,As 34 21 1 33,
 Af 35 21 5,AL 36 21 3 34 35,Ax 37 21 1 36,As 38 21 1 37,AA 39 21 38,og 40 21 true (.bin .add (tm 39) (iv 1)),og 41 21 true (.bin .eql (tm 30) (tm 40))]
 42 (tm 41),Aa 43 42,.grp none 43 true
 [Af 44 43 0,AF 45 43 44,Ax 46 43 1 45,As 47 43 1 46,Af 48 43 7,AL 49 43 3 47 48,Ax 50 43 1 49,As 51 43 1 50,Af 52 43 0,AF 53 43 52,Ax 54 43 1 53,As 55 43 1 54,Af 56 43 5,
 AL 57 43 3 55 56,Ax 58 43 1 57,As 59 43 1 58,AB 60 43 22 51 59]
 61 (tm 60)]
def ko:LSO:=[Aa 62 6,Ai 63 62 1,Aa 6 63]
def kl:LSO:=[Ai 64 16 1,Aa 16 64]
def kk:LSO:=[Aa 65 6,Aa 4 65]
def dO:bh:=⟨66,(.seq (.sreg kB [])
 (.seq (.sreg kA B6)
 (.seq (.sreg kz [])
 (.seq (.seq (.sreg kw BH)
 (.block 0 (.loop (.seq (.sreg ku [])
 (.seq (.cond (tm 17) .skip
 (.exit 0))
 (.seq (.block 1 (.seq (.sreg kr B4)
 (.seq (.sdreg kp [.pure,.pure,.pure,.pure,(.read 0 0),.pure,(.read 0 0),.pure,(.read 0 0),.pure,(.read 0 0),(.read 0 0),.pure,(.read 0 0),.pure,(.read 0 0),.pure,(.read 0 0),.pure,(.read 0 0),(.read 0 0),.pure,.pure,.pure,.pure,.pure,(.read 0 0),.pure,(.read 0 0),.pure,(.read 0 0),.pure,(.read 0 0),.pure,(.read 0 0),.pure,(.read 0 0),.pure,(.read 0 0),.pure,(.read 0 0)] B9)
 (.cond (tm 61) (.sreg ko B5)
 .skip))))
 (.sreg kl B4)))))))
 (.seq (.sreg kk B4)
 .ret))))),[(.tmp 4)]⟩
attribute [push_cast] kB kA kz kw ku kr kp ko kl kk
theorem jo:bz Tryz.prog (fun _ _=>1) 61=some dO.raw:=by kernel_rfl
def gr:LSO:=[Am 4]
def gq:LSO:=[Am 5]
def gp:LSO:=[Aa 7 0,Ag 8 7,Ad 9 1 8,Ab 10 1 9,Ae 11 10,Ac 12 0]
def gm:LSO:=[Al 13 12 11]
def gl:LSO:=[Aa 14 12,Aa 6 14]
def gk:LSO:=[Aa 15 1,Aa 16 0,Ag 17 16,Ad 18 1 17,Ab 19 1 18,Aa 20 6,Aj 21 3 19 20,Ad 22 1 21,Ab 23 1 22,Aq 24 22 15 23,Aa 25 24,.grp none 25 true
 [Af 26 25 0,AF 27 25 26,Ax 28 25 1 27,As 29 25 1 28,Af 30 25 6,AL 31 25 3 29 30,Ax 32 25 1 31,As 33 25 1 32,AA 34 25 33,Af 35 25 5,AA 36 25 35,
 og 37 25 true (.bin .gtr (tm 34) (tm 36))]
 38 (tm 37)]
def gj:LSO:=[Aa 39 0,Ag 40 39,Ad 41 1 40,Ab 42 1 41,Aa 43 6,Aj 44 3 42 43,Ad 45 1 44,Ab 46 1 45,Aa 5 46]
def gi:LSO:=[Ai 47 12 1,Aa 12 47]
def gh:LSO:=[Aa 48 5,Ah 49 51 48,Aa 4 49]
def fa:bh:=⟨50,(.seq (.sreg gr [])
 (.seq (.sreg gq [])
 (.seq (.seq (.sreg gp BH)
 (.block 0 (.loop (.seq (.sreg gm [])
 (.seq (.cond (tm 13) .skip
 (.exit 0))
 (.seq (.block 1 (.seq (.sreg gl B4)
 (.seq (.sreg gk BJ)
 (.cond (tm 38) (.sreg gj BF)
 .skip))))
 (.sreg gi B4)))))))
 (.seq (.sreg gh B5)
 .ret)))),[(.tmp 4)]⟩
attribute [push_cast] gr gq gp gm gl gk gj gi gh
theorem pR:bz Tryz.prog (fun _ _=>1) 20=some fa.raw:=by kernel_rfl
def sy:LSO:=[An 4]
def sx:LSO:=[Aa 5 0,Ae 6 5,Aa 7 1,Ae 8 7,AC 9 6 8,Aa 10 9,.grp none 10 true
 [Af 11 10 0,Af 12 10 1,AB 13 10 22 11 12]
 14 (tm 13),Aa 4 14]
def gH:bh:=⟨15,(.seq (.sreg sy [])
 (.seq (.sreg sx BA)
 .ret)),[(.tmp 4)]⟩
attribute [push_cast] sy sx
theorem se:bz Tryz.prog (fun _ _=>1) 60=some gH.raw:=by kernel_rfl
def qC:LSO:=[Am 6]
def qB:LSO:=[Am 7]
def qA:LSO:=[Aa 8 7,Aa 9 0,Aa 10 0,Ae 11 10,Aa 12 1,Bc 13 11 12,Bx 14 9 13,AZ 15 8 14,Aa 7 15]
def qz:LSO:=[Aa 16 7,Aa 17 2,AZ 18 16 17,Aa 6 18]
def oy:bh:=⟨19,(.seq (.sreg qC [])
 (.seq (.sreg qB [])
 (.seq (.sreg qA BF)
 (.seq (.sreg qz B6)
 .ret)))),[(.tmp 6)]⟩
attribute [push_cast] qC qB qA qz
theorem zR:bz Tryz.prog (fun _ _=>1) 62=some oy.raw:=by kernel_rfl
def lr:LSO:=[A4 3 1,Ac 4 0]
def lq:LSO:=[Ad 14 0 3,Ab 15 1 14,Bh 16 15 1,Aa 17 16,.grp none 17 false
 [A9 18 17 0 3,A6 19 17 1 18,AO 20 17 19 4]
 21 (tm 20)]
def lp:LSO:=[Ac 4 1]
def ln:LSO:=[Aa 22 0,Ad 23 1 3,Ab 24 1 23,Aq 25 49 22 24,Aa 5 25]
def lm:LSO:=[Ad 26 0 3,Ab 27 1 26,Au 28 27 1]
def ll:LSO:=[Ad 30 1 3,Ab 31 1 30,Ah 32 52 31,Aa 29 32,Ar 33 29,Aw 34 29,Aa 6 33,Aa 7 34]
def lh:LSO:=[Aa 35 7,A2 36 35 0]
def k9:LSO:=[Ac 4 34]
def k8:LSO:=[Aa 37 5,AE 38 37 0]
def k7:LSO:=[Ac 4 68]
def jg:LSO:=[Ad 39 1 3,Ab 40 1 39,Aa 41 0,Ag 42 41,Ad 43 0 42,Ab 44 1 43,Aq 45 60 40 44,AJ 46 45,Aa 47 46,.grp none 47 true
 [Ax 48 47 1 3,As 49 47 1 48,AA 50 47 49,AH 51 47 50 0,Af 52 47 51,.grp (some (47,true)) 52 false
 [Ak 53 52 0,A9 54 52 1 3,A6 55 52 1 54,og 56 52 false (.slV 1 (tm 55) (some (iv 1)) none none),Bo 57 52 49 53 56,og 58 52 false (.bin .lss (tm 57) (iv 0))]
 59 (tm 58)]
 60 (tm 59)]
def jf:LSO:=[Ac 4 32]
def je:LSO:=[Aa 61 0,Ag 62 61,Ad 63 1 62,Ab 64 1 63,Ae 65 64,AE 66 65 4096]
def jd:LSO:=[Ac 4 80]
def jc:LSO:=[Ac 4 0]
def jb:LSO:=[Aa 67 5,Bh 68 67 0]
def ja:LSO:=[Ac 4 32]
def i9:LSO:=[Ad 69 0 3,Ab 70 1 69,Au 71 70 2,Aa 72 71,.grp none 72 true
 [Af 73 72 0,Af 74 72 0,AF 75 72 74,Ax 76 72 1 75,As 77 72 1 76,Af 78 72 5,AL 79 72 3 77 78,Ax 80 72 0 79,As 81 72 1 80,AB 82 72 61 73 81,
 og 83 72 true (.bin .gtr (tm 82) (iv 0))]
 84 (tm 83)]
def i8:LSO:=[Ac 4 66]
def i7:LSO:=[Ad 85 0 3,Ab 86 1 85,Au 87 86 4]
def i6:LSO:=[Ad 89 2 3,Ab 90 1 89,Ah 91 52 90,Aa 88 91,Ar 92 88,Aw 93 88,Aa 8 92,Aa 9 93]
def i5:LSO:=[Ad 94 1 3,Ab 95 1 94,Aa 96 0,Ag 97 96,Ad 98 0 97,Ab 99 1 98,Aq 100 60 95 99]
def iZ:LSO:=[Ac 4 53]
def iY:LSO:=[Aa 101 9,A2 102 101 0,Aa 103 102,.grp none 103 false
 [A9 104 103 2 3,A6 105 103 1 104,AI 106 103 105,AT 107 103 106 0]
 108 (tm 107)]
def iX:LSO:=[Ac 4 34]
def iW:LSO:=[Ad 109 2 3,Ab 110 1 109,Be 111 110 1,Ad 112 1 3,Ab 113 1 112,Aq 114 22 111 113]
def iV:LSO:=[Ac 4 53]
def iU:LSO:=[Aa 115 0,Ad 116 2 3,Ab 117 1 116,Be 118 117 1,Aq 119 49 115 118,Bh 120 119 0]
def iT:LSO:=[Ac 4 32]
def iS:LSO:=[Aa 121 0,Ad 122 2 3,Ab 123 1 122,Aq 124 49 121 123,AE 125 124 0,Aa 126 125,.grp none 126 true
 [Af 127 126 0,Ax 128 126 2 3,As 129 126 1 128,AB 130 126 49 127 129,Af 131 126 5,og 132 126 true (.bin .neq (tm 130) (tm 131))]
 133 (tm 132)]
def iR:LSO:=[Ac 4 68]
def iQ:LSO:=[Aa 134 0,Ag 135 134,Ad 136 1 135,Ab 137 1 136,Ae 138 137,Ac 139 0]
def iP:LSO:=[Al 140 139 138]
def iO:LSO:=[Aj 141 3 137 139,A1 142 3 141,o1 11 (.alloc [(.int .i64 0),(.sl [] 0 (some 0)),(.sl [] 0 (some 0))]),Ay 3 11 142]
def iN:LSO:=[Ad 143 1 11,Ab 144 1 143,Ad 145 1 3,Ab 146 1 145,Aq 147 22 144 146]
def iM:LSO:=[Ad 149 1 11,Ab 150 1 149,Ad 151 1 3,Ab 152 1 151,Ae 153 152,Ad 154 2 3,Ab 155 1 154,Bd 156 62 150 153 155,Ah 157 52 156,Aa 148 157,Ar 158 148,
 Aw 159 148,Aa 12 158,Aa 13 159]
def iL:LSO:=[Aa 160 13,A2 161 160 0]
def iK:LSO:=[Ac 4 34]
def iJ:LSO:=[Ai 162 139 1,Aa 139 162]
def iI:LSO:=[Ac 4 0]
def ae:bh:=⟨163,(.seq (.sreg lr [])
 (.seq (.seq (.sreg lq B7)
 (.cond (tm 21) (.seq (.sreg lp [])
 .ret)
 .skip))
 (.seq (.sreg ln B7)
 (.seq (.seq (.sreg lm B5)
 (.cond (tm 28) (.seq (.sreg ll BA)
 (.seq (.seq (.sreg lh B4)
 (.cond (tm 36) (.seq (.sreg k9 [])
 .ret)
 .skip))
 (.seq (.seq (.sreg k8 B4)
 (.cond (tm 38) (.seq (.sreg k7 [])
 .ret)
 .skip))
 (.seq (.seq (.sdreg jg [.pure,(.read 0 0),.pure,(.read 0 0),.pure,(.read 0 0),(.read 0 0),.pure,.pure,.pure,(.read 0 0),(.read 0 0),.pure,.pure,.pure,.pure,(.read 0 0),(.read 0 0)] BD)
 (.cond (tm 60) (.seq (.sreg jf [])
 .ret)
 .skip))
 (.seq (.seq (.sreg je B9)
 (.cond (tm 66) (.seq (.sreg jd [])
 .ret)
 .skip))
 (.seq (.sreg jc [])
 .ret))))))
 .skip))
 (.seq (.seq (.sreg jb B4)
 (.cond (tm 68) (.seq (.sreg ja [])
 .ret)
 .skip))
 (.seq (.seq (.sreg i9 B7)
 (.cond (tm 84) (.seq (.sreg i8 [])
 .ret)
 .skip))
 (.seq (.seq (.sreg i7 B5)
 (.cond (tm 87) (.seq (.sreg i6 BA)
 (.seq (.seq (.sdreg i5 [.pure,(.read 0 0),.pure,(.read 0 0),.pure,(.read 0 0)] B8)
 (.cond (tm 100) (.seq (.sreg iZ [])
 .ret)
 .skip))
 (.seq (.seq (.sreg iY B6)
 (.cond (tm 108) (.seq (.sreg iX [])
 .ret)
 .skip))
 (.seq (.seq (.sdreg iW [.pure,(.read 0 0),(.read 0 0),.pure,(.read 0 0)] B9)
 (.cond (tm 114) (.seq (.sreg iV [])
 .ret)
 .skip))
 (.seq (.seq (.sreg iU B9)
 (.cond (tm 120) (.seq (.sreg iT [])
 .ret)
 .skip))
 (.seq (.seq (.sreg iS B8)
 (.cond (tm 133) (.seq (.sreg iR [])
 .ret)
 .skip))
 (.seq (.sreg iQ BL)
 (.block 0 (.loop (.seq (.sreg iP [])
 (.seq (.cond (tm 140) .skip
 (.exit 0))
 (.seq (.block 1 (.seq (.sreg iO B5)
 (.seq (.sreg iN B7)
 (.cond (tm 147) (.seq (.sreg iM [true,false,false,false,false,false,false,false,false,false,false,false,false,false])
 (.seq (.sreg iL B4)
 (.cond (tm 161) (.seq (.sreg iK [])
 .ret)
 .skip)))
 .skip))))
 (.sreg iJ B4)))))))))))))
 .skip))
 (.seq (.sreg iI [])
 .ret)))))))),[(.tmp 4)]⟩
attribute [push_cast] lr lq lp ln lm ll lh k9 k8 k7 jg jf je jd jc jb ja i9 i8 i7 i6 i5 iZ iY iX iW iV iU iT iS iR iQ iP iO iN iM iL iK iJ iI
theorem aw:bz Tryz.prog (fun _ _=>1) 28=some ae.raw:=by kernel_rfl
def nO:LSO:=[A4 3 1,Ac 4 0]
def nN:LSO:=[Aa 10 0,A1 11 4 3,Aq 12 28 10 11,Aa 5 12]
def nM:LSO:=[Aa 13 5,A2 14 13 0]
def nL:LSO:=[Aa 15 5,Aa 4 15]
def nK:LSO:=[Aa 16 0,Ad 17 1 3,Ab 18 1 17,Aq 19 49 16 18,Aa 6 19]
def nJ:LSO:=[Am 7]
def nI:LSO:=[Aa 20 0,Ag 21 20,Ad 22 1 21,Ab 23 1 22,Ae 24 23,Ac 25 0]
def nH:LSO:=[Al 26 25 24]
def nG:LSO:=[Aa 27 25,Aj 28 3 23 25,A1 29 3 28,o1 9 (.alloc [(.int .i64 0),(.sl [] 0 (some 0)),(.sl [] 0 (some 0))]),Aa 8 27,Ay 3 9 29]
def nF:LSO:=[Ad 30 0 3,Ab 31 1 30,Au 32 31 4,Aa 33 32,.grp none 33 true
 [Ax 34 33 1 9,As 35 33 1 34,Ax 36 33 1 3,As 37 33 1 36,AB 38 33 22 35 37]
 39 (tm 38)]
def mr:LSO:=[Ad 40 1 9,Ab 41 1 40,Ad 42 1 3,Ab 43 1 42,Ae 44 43,Ad 45 2 3,Ab 46 1 45,Bd 47 62 41 44 46,Ah 48 51 47,Ad 49 1 9,Ay 1 49 48]
def mq:LSO:=[Aa 50 8,Aa 51 6,AC 52 50 51,Aa 53 52,.grp none 53 true
 [Ax 54 53 0 3,As 55 53 1 54,AH 56 53 55 3,Af 57 53 56,.grp (some (53,true)) 57 false
 [A9 58 57 0 3,A6 59 57 1 58,AT 60 57 59 4]
 61 (tm 60)]
 62 (tm 61)]
def mp:LSO:=[Ad 63 3 3,Ab 64 1 63,Ah 65 63 64,Ad 66 2 9,Ay 1 66 65]
def mo:LSO:=[Aa 67 8,Aa 68 6,Bg 69 67 68,Aa 70 69,.grp none 70 false
 [A9 71 70 0 3,A6 72 70 1 71,Bm 73 70 72 2]
 74 (tm 73)]
def mm:LSO:=[Aa 75 7,A1 76 3 9,o1 77 (.bslice false 3 1 [(.int .i64 0),(.sl [] 0 (some 0)),(.sl [] 0 (some 0))] [(0,(3,(tm 76)))]),
 o1 78 (.app 1 3 56 [(.int .i64 0),(.sl [] 0 (some 0)),(.sl [] 0 (some 0))] (tm 75) (tm 77)),Aa 7 78]
def ml:LSO:=[Ai 79 25 1,Aa 25 79]
def mj:LSO:=[Ad 80 0 3,Ab 81 1 80,Au 82 81 1]
def mh:LSO:=[Aa 83 0,Ag 84 83,Ad 85 2 84,Ab 86 1 85,Ai 87 86 1,Ag 88 83,Ad 89 2 88,Ay 1 89 87]
def mg:List (aj×Kd) :=
 [Az 90 7,Az 91 0,A5 92 91 0 0,Ap 93 2 92,Ao 94 1 93 0 0,Ap 95 1 3,Ao 96 1 95 0 0,A8 97 51 96 0 0,Ap 98 3 3,Ao 99 1 98 0 0,A8 100 63 99 0 0,
 od 101 (.build [(.int .i64 0),(.sl [] 0 (some 0)),(.sl [] 0 (some 0))] [(0,(1,(tm 94))),(1,(1,(tm 97))),(2,(1,(tm 100)))]) .pure,
 od 102 (.bslice false 3 1 [(.int .i64 0),(.sl [] 0 (some 0)),(.sl [] 0 (some 0))] [(0,(3,(tm 101)))]) (.read 0 0)]
def kL:List aj :=
 [⟨(some 103),(.app 1 3 56 [(.int .i64 0),(.sl [] 0 (some 0)),(.sl [] 0 (some 0))] (tm 90) (tm 102)),none⟩,⟨(some 7),(.mv (tm 103)),none⟩]
def mf:LSO:=[Aa 104 0,Aa 105 7,Ag 106 104,Ad 107 1 106,Ay 1 107 105]
def me:LSO:=[Ac 4 0]
def bf:bh:=⟨108,(.seq (.sreg nO [])
 (.seq (.sreg nN B6)
 (.seq (.seq (.sreg nM B4)
 (.cond (tm 14) (.seq (.sreg nL B4)
 .ret)
 .skip))
 (.seq (.sreg nK B7)
 (.seq (.sreg nJ [])
 (.seq (.seq (.sreg nI BL)
 (.block 0 (.loop (.seq (.sreg nH [])
 (.seq (.cond (tm 26) .skip
 (.exit 0))
 (.seq (.block 1 (.seq (.sreg nG BB)
 (.seq (.seq (.sreg nF B7)
 (.cond (tm 39) (.sreg mr BK)
 .skip))
 (.seq (.seq (.sreg mq B7)
 (.cond (tm 62) (.sreg mp BE)
 .skip))
 (.seq (.sreg mo B7)
 (.cond (tm 74) (.sreg mm B7)
 .skip))))))
 (.sreg ml B4)))))))
 (.seq (.seq (.sreg mj B5)
 (.cond (tm 82) (.seq (.sreg mh BR)
 (.dregM mg kL BM))
 .skip))
 (.seq (.sreg mf BE)
 (.seq (.sreg me [])
 .ret))))))))),[(.tmp 4)]⟩
attribute [push_cast] nO nN nM nL nK nJ nI nH nG nF mr mq mp mo mm ml mj mh mg kL mf me
theorem dj:bz Tryz.prog (fun _ _=>1) 29=some bf.raw:=by kernel_rfl
def qZ:LSO:=[An 4]
def qY:LSO:=[Aa 10 0,Ah 11 52 10,Aa 9 11,Ar 12 9,Aw 13 9,Aa 5 12,Aa 6 13]
def qX:LSO:=[Aa 15 1,Ah 16 53 15,Aa 14 16,Ar 17 14,Aw 18 14,Aa 7 17,Aa 8 18]
def qW:LSO:=[Aa 19 6,A2 20 19 0,Aa 21 20,.grp none 21 false
 [Ak 22 21 8,Bm 23 21 22 0]
 24 (tm 23),Aa 25 24,.grp none 25 false
 [Ak 26 25 0,AI 27 25 26,Ak 28 25 1,AI 29 25 28,og 30 25 false (.bin .lss (tm 27) (tm 29))]
 31 (tm 30)]
def qV:LSO:=[An 4]
def qU:LSO:=[Aa 32 0,Aa 33 0,Ae 34 33,Aa 35 1,Ae 36 35,Bc 37 34 36,Bt 38 32 37,Ah 39 55 38,Ah 40 54 39,Aa 41 7,AC 42 40 41,Aa 4 42]
def cn:bh:=⟨43,(.seq (.sreg qZ [])
 (.seq (.sreg qY B8)
 (.seq (.sreg qX BI)
 (.seq (.seq (.sreg qW B9)
 (.cond (tm 31) (.seq (.sreg qV [])
 .ret)
 .skip))
 (.seq (.sreg qU BJ)
 .ret))))),[(.tmp 4)]⟩
attribute [push_cast] qZ qY qX qW qV qU
theorem fj:bz Tryz.prog (fun _ _=>1) 22=some cn.raw:=by kernel_rfl
def tB:LSO:=[An 4]
def tA:LSO:=[Aa 7 0,Ae 8 7,Aa 9 1,Ae 10 9,Bg 11 8 10]
def tz:LSO:=[An 4]
def tx:LSO:=[Aa 12 0,Ae 13 12,Ac 14 0]
def tw:LSO:=[Al 15 14 13]
def tv:LSO:=[Aa 16 14,Aa 5 16]
def tu:LSO:=[Aa 17 0,Aa 18 5,Aj 19 1 17 18,Ab 20 1 19,Ae 21 20,Aa 22 1,Aa 23 5,Aj 24 1 22 23,Ab 25 1 24,Ae 26 25,Bg 27 21 26]
def tt:LSO:=[An 4]
def tq:LSO:=[Aa 28 0,Aa 29 5,Aj 30 1 28 29,Ab 31 1 30,Ae 32 31,Ac 33 0]
def tp:LSO:=[Al 34 33 32]
def re:LSO:=[Aa 35 33,Aa 6 35]
def rd:LSO:=[Aa 36 0,Aa 37 5,Aj 38 1 36 37,Ab 39 1 38,Aa 40 6,Aj 41 2 39 40,A1 42 2 41,Aa 43 1,Aa 44 5,Aj 45 1 43 44,Ab 46 1 45,Aa 47 6,Aj 48 2 46 47,A1 49 2 48,
 o1 50 (.eq2 true (tm 42) (tm 49))]
def rb:LSO:=[An 4]
def ra:LSO:=[Ai 51 33 1,Aa 33 51]
def q9:LSO:=[Ai 52 14 1,Aa 14 52]
def q8:LSO:=[AY 4]
def qj:bh:=⟨53,(.seq (.sreg tB [])
 (.seq (.seq (.sreg tA B7)
 (.cond (tm 11) (.seq (.sreg tz [])
 .ret)
 .skip))
 (.seq (.seq (.sreg tx BC)
 (.block 0 (.loop (.seq (.sreg tw [])
 (.seq (.cond (tm 15) .skip
 (.exit 0))
 (.seq (.block 1 (.seq (.sreg tv B4)
 (.seq (.seq (.sdreg tu [.pure,.pure,(.read 0 0),(.read 0 0),(.read 0 0),.pure,.pure,(.read 0 0),(.read 0 0),(.read 0 0)] BG)
 (.cond (tm 27) (.seq (.sreg tt [])
 .ret)
 .skip))
 (.seq (.sreg tq BH)
 (.block 2 (.loop (.seq (.sreg tp [])
 (.seq (.cond (tm 34) .skip
 (.exit 2))
 (.seq (.block 3 (.seq (.sreg re B4)
 (.seq (.sdreg rd [.pure,.pure,(.read 0 0),(.read 0 0),.pure,(.read 0 0),(.read 0 0),.pure,.pure,(.read 0 0),(.read 0 0),.pure,(.read 0 0),(.read 0 0)] BM)
 (.cond (tm 50) (.seq (.sreg rb [])
 .ret)
 .skip))))
 (.sreg ra B4))))))))))
 (.sreg q9 B4)))))))
 (.seq (.sreg q8 [])
 .ret)))),[(.tmp 4)]⟩
attribute [push_cast] tB tA tz tx tw tv tu tt tq tp re rd rb ra q9 q8
theorem CL:bz Tryz.prog (fun _ _=>1) 18=some qj.raw:=by kernel_rfl
def tj:LSO:=[Am 2]
def ti:LSO:=[Am 3]
def th:LSO:=[Aa 6 0,Ae 7 6,Ac 8 0]
def tg:LSO:=[Al 9 8 7]
def tf:LSO:=[Aj 10 1 6 8,Ab 11 1 10,Aa 5 11]
def td:LSO:=[Aa 12 3,o1 13 (.bslice false 2 0 [] []),Aa 14 5,o1 15 (.app 0 2 32 [(.str []),(.str [])] (tm 13) (tm 14)),Bn 16 15,AZ 17 12 16,Aa 3 17]
def tc:LSO:=[Ai 18 8 1,Aa 8 18]
def ta:LSO:=[Aa 19 3,Aa 2 19]
def qi:bh:=⟨20,(.seq (.sreg tj [])
 (.seq (.sreg ti [])
 (.seq (.seq (.sreg th [])
 (.block 0 (.loop (.seq (.sreg tg [])
 (.seq (.cond (tm 9) .skip
 (.exit 0))
 (.seq (.block 1 (.seq (.sreg tf B5)
 (.sreg td B8)))
 (.sreg tc B4)))))))
 (.seq (.sreg ta B4)
 .ret)))),[(.tmp 2)]⟩
attribute [push_cast] tj ti th tg tf td tc ta
theorem CK:bz Tryz.prog (fun r i=>if r=5∧i=3 then 0 else 1) 51=some qi.raw:=by kernel_rfl
end Go.Proofs.YtdhjplmjpjfjnaaGreat.Av
