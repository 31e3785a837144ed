/- Joined texts of the walk, made small by a program. -/
import Derived.Test.YtkkgmgmgcgiffaaGreatDoorUP4
import Derived.Test.YtkkgmgmgcgiffaaGreatDoorRows
import Derived.KernelRfl
import Derived.Test.YtkkgmgmgcgiffaaGreatDoorUE3
import Derived.Test.YtkkgmgmgcgiffaaGreatDoorUR3
import Derived.Test.YtkkgmgmgcgiffaaGreatDoorUA1
import Derived.Test.YtkkgmgmgcgiffaaGreatDoorUP5
set_option linter.unusedSimpArgs false
set_option linter.unusedVariables false
set_option maxRecDepth 100000
namespace Go.Proofs.YtkkgmgmgcgiffaaGreatDoor.Av
open Go
def Ic:LSO:=[Ab 4 0]
def Ib:LSO:=[Aa 6 0,An 7 6,Ab 8 0]
def Ia:LSO:=[Ak 9 8 7]
def H9:LSO:=[Aa 10 8,Aa 5 10]
def H8:LSO:=[Aa 11 0,Aa 12 5,Aq 13 4 11 12,Ac 14 0 13,Ad 15 1 14,Aj 16 67 15,Aa 17 1,Aj 18 67 17,AE 19 16 18]
def H7:LSO:=[Aa 20 5,Aa 4 20]
def H6:LSO:=[Ah 21 8 1,Aa 8 21]
def H5:LSO:=[Ab 4 (-1)]
def lp:aW:=⟨22,(.seq (.sreg Ic [])
 (.seq (.seq (.sreg Ib Cm)
 (.block 0 (.loop (.seq (.sreg Ia [])
 (.seq (.cond (tm 9) .skip
 (.exit 0))
 (.seq (.block 1 (.seq (.sreg H9 Cg)
 (.seq (.sreg H8 C0)
 (.cond (tm 19) (.seq (.sreg H7 Cg)
 .ret)
 .skip))))
 (.sreg H6 Cg)))))))
 (.seq (.sreg H5 [])
 .ret))),[(.tmp 4)]⟩
attribute [push_cast] Ic Ib Ia H9 H8 H7 H6 H5
theorem GS:bb Tryz.prog (fun _ _=>1) 50=some lp.raw:=by kernel_rfl
def l3:LSO:=[Ab 4 0]
def lZ:LSO:=[Aa 6 0,An 7 6,Ab 8 0]
def lY:LSO:=[Ak 9 8 7]
def lX:LSO:=[Aa 10 8,Aa 5 10]
def lW:LSO:=[Aa 11 0,Aa 12 5,Aq 13 5 11 12,Ac 14 0 13,Ad 15 1 14,Aj 16 67 15,Aa 17 1,Aj 18 67 17,AE 19 16 18]
def lV:LSO:=[Aa 20 5,Aa 4 20]
def lU:LSO:=[Ah 21 8 1,Aa 8 21]
def lT:LSO:=[Ab 4 (-1)]
def jY:aW:=⟨22,(.seq (.sreg l3 [])
 (.seq (.seq (.sreg lZ Cm)
 (.block 0 (.loop (.seq (.sreg lY [])
 (.seq (.cond (tm 9) .skip
 (.exit 0))
 (.seq (.block 1 (.seq (.sreg lX Cg)
 (.seq (.sreg lW C0)
 (.cond (tm 19) (.seq (.sreg lV Cg)
 .ret)
 .skip))))
 (.sreg lU Cg)))))))
 (.seq (.sreg lT [])
 .ret))),[(.tmp 4)]⟩
attribute [push_cast] l3 lZ lY lX lW lV lU lT
theorem He:bb Tryz.prog (fun _ _=>1) 109=some jY.raw:=by kernel_rfl
def tJ:LSO:=[A3 1 0,Ab 2 0]
def tI:LSO:=[Ac 11 0 1,Ad 12 1 11,An 13 12,A0 14 13 128,Aa 15 14,.grp none 15 false
 [AA 16 15 1 1,A8 17 15 1 16,Bm 18 15 17,A5 19 15 18 128]
 20 (tm 19)]
def tH:LSO:=[Ab 2 9]
def tG:LSO:=[Ac 21 0 1,Ad 22 1 21,An 23 22,Ab 24 0]
def tF:LSO:=[Ak 25 24 23]
def tE:LSO:=[Aa 26 24,Aq 27 4 22 24,Ap 28 4 27,Bo 4,Aa 3 26,Ai 4 4 28]
def tD:LSO:=[Ac 29 0 4,Ad 30 1 29,Aj 31 116 30,Ay 32 31]
def tC:LSO:=[Ab 2 20]
def tB:LSO:=[Ac 33 0 1,Ad 34 1 33,Aa 35 3,o1 36 (.slV 4 (tm 34) none (some (tm 35)) none),Ac 37 0 4,Ad 38 1 37,Aw 39 50 36 38,AZ 40 39 0]
def tA:LSO:=[Ab 2 21]
def oG:LSO:=[Ac 41 1 4,Ad 42 1 41,AB 43 42 1,Aa 44 43,.grp none 44 false
 [AA 45 44 1 4,A8 46 44 1 45,A5 47 44 46 8]
 48 (tm 47)]
def oF:LSO:=[Ab 2 23]
def oE:LSO:=[Ah 49 24 1,Aa 24 49]
def oD:LSO:=[Ac 50 1 1,Ad 51 1 50,An 52 51,Ab 53 0]
def oC:LSO:=[Ak 54 53 52]
def oB:LSO:=[Aa 55 53,Aq 56 5 51 53,Ap 57 5 56,o1 6 (.alloc [(.str []),(.str []),(.int .i64 0),(.sl [] 0 (some 0)),(.sl [] 0 (some 0))]),Aa 5 55,Ai 5 6 57]
def oA:LSO:=[Ac 58 0 6,Ad 59 1 58,Aj 60 116 59,Ay 61 60]
def oz:LSO:=[Ab 2 20]
def oy:LSO:=[Ac 62 1 1,Ad 63 1 62,Aa 64 5,o1 65 (.slV 5 (tm 63) none (some (tm 64)) none),Ac 66 0 6,Ad 67 1 66,Aw 68 109 65 67,AZ 69 68 0]
def ox:LSO:=[Ab 2 21]
def ow:LSO:=[Ac 70 2 6,Ad 71 1 70,AB 72 71 0,Aa 73 72,.grp none 73 false
 [AA 74 73 2 6,A8 75 73 1 74,A5 76 73 75 2]
 77 (tm 76)]
def ov:LSO:=[Ab 2 23]
def ou:LSO:=[Ac 78 1 1,Ad 79 1 78,Aa 80 5,o1 81 (.slV 5 (tm 79) none (some (tm 80)) none),Ac 82 1 6,Ad 83 1 82,Aw 84 109 81 83,Aa 7 84]
def ot:LSO:=[Ac 85 1 6,Ad 86 1 85,BH 87 86,Aa 88 87,.grp none 88 true
 [Ae 89 88 7,Bp 90 88 89 0]
 91 (tm 90)]
def oq:LSO:=[Ab 2 22]
def oo:LSO:=[Ac 92 1 6,Ad 93 1 92,Bs 94 93,Aa 95 94,.grp none 95 true
 [A7 96 95 2 6,A4 97 95 1 96,Bl 98 95 97 0]
 99 (tm 98),Aa 100 99,.grp none 100 false
 [AA 101 100 1 6,A8 102 100 1 101,og 103 100 false (.bin .neq (tm 102) (.av (.str []))),Ag 104 100 103,.grp (some (100,false)) 104 true
 [A7 105 104 1 1,A4 106 104 1 105,Ae 107 104 7,Bj 108 104 5 106 107,A7 109 104 2 108,A4 110 104 1 109,Bl 111 104 110 0]
 112 (tm 111),Ag 113 100 112,.grp (some (100,false)) 113 true
 [A7 114 113 1 1,A4 115 113 1 114,Ae 116 113 7,Bj 117 113 5 115 116,A7 118 113 2 117,A4 119 113 1 118,A7 120 113 2 6,A4 121 113 1 120,
 og 122 113 true (.bin .neq (tm 119) (tm 121))]
 123 (tm 122)]
 124 (tm 123)]
def om:LSO:=[Ab 2 2]
def ol:List (an×Kd) :=
 [od 125 (.bslice false 1 0 [] []) (.read 0 0),AL 126 3 6,AM 127 1 126 0 0,od 128 (.app 1 1 16 [(.str [])] (tm 125) (tm 127)) .eff,AL 129 4 6,AM 130 1 129 1 0,
 od 131 (.app 1 1 16 [(.str [])] (tm 128) (tm 130)) .eff,od 132 (.len false (tm 131)) (.read 0 0),od 133 (.mv (iv 0)) .pure]
def l4:List an :=
 []
def oj:LSO:=[Ak 134 133 132]
def oi:LSO:=[Aq 135 1 131 133,Ad 136 1 135,Aa 9 136]
def oh:LSO:=[Ac 137 0 1,Ad 138 1 137,Aa 139 9,Aw 140 50 138 139,AB 141 140 0]
def oe:LSO:=[Ab 2 22]
def oc:LSO:=[Ah 142 133 1,Aa 133 142]
def oa:LSO:=[Ah 143 53 1,Aa 53 143]
def n9:LSO:=[Ac 144 0 1,Ad 145 1 144,o1 146 (.call 50 [(tm 145),(.av (.str [111,98,106,101,99,116,99,108,97,115,115]))]),Aa 10 146]
def n8:LSO:=[Aa 147 10,AB 148 147 0]
def n7:LSO:=[Ab 2 22]
def nZ:LSO:=[Ac 149 0 1,Ad 150 1 149,Aa 151 10,Aq 152 4 150 151,Ac 153 1 152,Ad 154 1 153,AF 155 154 3,Aa 156 155,.grp none 156 false
 [AA 157 156 0 1,A8 158 156 1 157,Ag 159 156 10,og 160 156 false (.iaddr 4 (tm 158) (tm 159)),AA 161 156 2 160,A8 162 156 1 161]
 163 (tm 162)]
def nY:LSO:=[Ab 2 2]
def nX:LSO:=[Ab 2 0]
def mG:aW:=⟨164,(.seq (.sreg tJ [])
 (.seq (.seq (.sreg tI Ck)
 (.cond (tm 20) (.seq (.sreg tH [])
 .ret)
 .skip))
 (.seq (.seq (.sreg tG Ct)
 (.block 0 (.loop (.seq (.sreg tF [])
 (.seq (.cond (tm 25) .skip
 (.exit 0))
 (.seq (.block 1 (.seq (.sreg tE Co)
 (.seq (.seq (.sreg tD Ci)
 (.cond (tm 32) (.seq (.sreg tC [])
 .ret)
 .skip))
 (.seq (.seq (.sdreg tB [.pure,(.read 0 0),.pure,(.read 0 0),.pure,(.read 0 0)] Cp)
 (.cond (tm 40) (.seq (.sreg tA [])
 .ret)
 .skip))
 (.seq (.sreg oG Cj)
 (.cond (tm 48) (.seq (.sreg oF [])
 .ret)
 .skip))))))
 (.sreg oE Cg)))))))
 (.seq (.seq (.sreg oD Ct)
 (.block 2 (.loop (.seq (.sreg oC [])
 (.seq (.cond (tm 54) .skip
 (.exit 2))
 (.seq (.block 3 (.seq (.sreg oB Co)
 (.seq (.seq (.sreg oA Ci)
 (.cond (tm 61) (.seq (.sreg oz [])
 .ret)
 .skip))
 (.seq (.seq (.sdreg oy [.pure,(.read 0 0),.pure,(.read 0 0),.pure,(.read 0 0)] Cp)
 (.cond (tm 69) (.seq (.sreg ox [])
 .ret)
 .skip))
 (.seq (.seq (.sreg ow Cj)
 (.cond (tm 77) (.seq (.sreg ov [])
 .ret)
 .skip))
 (.seq (.sdreg ou [.pure,(.read 0 0),.pure,(.read 0 0),.pure,(.read 0 0)] Cp)
 (.seq (.seq (.sreg ot Cj)
 (.cond (tm 91) (.seq (.sreg oq [])
 .ret)
 .skip))
 (.seq (.seq (.sdreg oo [.pure,(.read 0 0),.pure,.pure,.pure,(.read 0 0),.pure,.pure,.pure,.pure,(.read 0 0),.pure,.pure,.pure,(.read 0 0),.pure,(.read 0 0),.pure,(.read 0 0),.pure,.pure,.pure,.pure,(.read 0 0),.pure,(.read 0 0),.pure,(.read 0 0),.pure,(.read 0 0)] Cl)
 (.cond (tm 124) (.seq (.sreg om [])
 .ret)
 .skip))
 (.seq (.dregM ol l4 C4)
 (.block 4 (.loop (.seq (.sreg oj [])
 (.seq (.cond (tm 134) .skip
 (.exit 4))
 (.seq (.block 5 (.seq (.sreg oi Ch)
 (.seq (.sreg oh Cj)
 (.cond (tm 141) (.seq (.sreg oe [])
 .ret)
 .skip))))
 (.sreg oc Cg)))))))))))))))
 (.sreg oa Cg)))))))
 (.seq (.sreg n9 Ci)
 (.seq (.seq (.sreg n8 Cg)
 (.cond (tm 148) (.seq (.sreg n7 [])
 .ret)
 .skip))
 (.seq (.seq (.sreg nZ C0)
 (.cond (tm 163) (.seq (.sreg nY [])
 .ret)
 .skip))
 (.seq (.sreg nX [])
 .ret)))))))),[(.tmp 2)]⟩
attribute [push_cast] tJ tI tH tG tF tE tD tC tB tA oG oF oE oD oC oB oA oz oy ox ow ov ou ot oq oo om ol l4 oj oi oh oe oc oa n9 n8 n7 nZ nY nX
theorem J5:bb Tryz.prog (fun _ _=>1) 73=some mG.raw:=by kernel_rfl
def nW:LSO:=[Am 4]
def nV:LSO:=[Aa 7 0,An 8 7,Ab 9 0]
def nU:LSO:=[Ak 10 9 8]
def nT:LSO:=[Aq 11 2 7 9,Ap 12 2 11,B6 6,Ai 2 6 12]
def nS:LSO:=[Ac 13 0 6,Ad 14 1 13,Aj 15 67 14,Aa 16 1,Aj 17 67 16,AE 18 15 17]
def nR:LSO:=[o1 19 (.bslice false 1 0 [] []),Ac 20 1 6,Ad 21 1 20,Bn 22 19 21,Aa 4 22]
def nQ:LSO:=[Ah 23 9 1,Aa 9 23]
def nP:LSO:=[Am 4]
def ln:aW:=⟨24,(.seq (.sreg nW [])
 (.seq (.seq (.sreg nV [])
 (.block 0 (.loop (.seq (.sreg nU [])
 (.seq (.cond (tm 10) .skip
 (.exit 0))
 (.seq (.block 1 (.seq (.sreg nT Ch)
 (.seq (.sreg nS Ck)
 (.cond (tm 18) (.seq (.sreg nR Cj)
 .ret)
 .skip))))
 (.sreg nQ Cg)))))))
 (.seq (.sreg nP [])
 .ret))),[(.tmp 4)]⟩
attribute [push_cast] nW nV nU nT nS nR nQ nP
theorem JC:bb Tryz.prog (fun _ _=>1) 53=some ln.raw:=by kernel_rfl
def xf:LSO:=[Ao 4]
def xe:LSO:=[Aa 8 0,Aa 9 1,Aw 10 51 8 9,Aa 7 10,As 11 7,Au 12 7,Aa 5 11,Aa 6 12]
def xd:LSO:=[Aa 13 5,Aa 4 13]
def ru:aW:=⟨14,(.seq (.sreg xf [])
 (.seq (.sreg xe [false,true,false,false,false,false,false,false])
 (.seq (.sreg xd Cg)
 .ret))),[(.tmp 4)]⟩
attribute [push_cast] xf xe xd
theorem Li:bb Tryz.prog (fun _ _=>1) 72=some ru.raw:=by kernel_rfl
def H4:LSO:=[Af 6]
def H3:LSO:=[Aa 9 1,An 10 9,Ab 11 0]
def H2:LSO:=[Ak 12 11 10]
def H1:LSO:=[Aq 13 1 9 11,Ad 14 1 13,Aa 8 14]
def H0:LSO:=[Aa 15 0,Aa 16 8,Aw 17 72 15 16,Aa 18 2,AE 19 17 18]
def HZ:LSO:=[Ax 6]
def HY:LSO:=[Ah 20 11 1,Aa 11 20]
def HX:LSO:=[Af 6]
def Hd:aW:=⟨21,(.seq (.sreg H4 [])
 (.seq (.seq (.sreg H3 [])
 (.block 0 (.loop (.seq (.sreg H2 [])
 (.seq (.cond (tm 12) .skip
 (.exit 0))
 (.seq (.block 1 (.seq (.sreg H1 Ch)
 (.seq (.sreg H0 Cj)
 (.cond (tm 19) (.seq (.sreg HZ [])
 .ret)
 .skip))))
 (.sreg HY Cg)))))))
 (.seq (.sreg HX [])
 .ret))),[(.tmp 6)]⟩
attribute [push_cast] H4 H3 H2 H1 H0 HZ HY HX
theorem NA:bb Tryz.prog (fun _ _=>1) 71=some Hd.raw:=by kernel_rfl
def xp:LSO:=[Am 6]
def xo:LSO:=[Am 7]
def xn:LSO:=[Af 8]
def xm:LSO:=[Aa 11 1,An 12 11,Ab 13 0]
def xl:LSO:=[Ak 14 13 12]
def xk:LSO:=[Aq 15 1 11 13,Ad 16 1 15,Aa 10 16]
def xj:LSO:=[Aa 17 8,Ay 18 17,Aa 19 18,.grp none 19 true
 [Ae 20 19 0,Ae 21 19 2,BM 22 19 72 20 21,Ae 23 19 0,Ae 24 19 10,BM 25 19 72 23 24,B5 26 19 22 25]
 27 (tm 26)]
def xi:LSO:=[Aa 28 7,Aa 29 2,Bw 30 29,Bn 31 28 30,Aa 7 31]
def xh:LSO:=[Ax 8]
def xg:LSO:=[Aa 32 7,Aa 33 10,Bw 34 33,Bn 35 32 34,Aa 7 35]
def sI:LSO:=[Ah 36 13 1,Aa 13 36]
def sH:LSO:=[Aa 37 8,Ay 38 37]
def sG:LSO:=[Aa 39 7,Aa 40 2,Bw 41 40,Bn 42 39 41,Aa 7 42]
def sF:LSO:=[Aa 43 7,Aa 6 43]
def rx:aW:=⟨44,(.seq (.sreg xp [])
 (.seq (.sreg xo [])
 (.seq (.sreg xn [])
 (.seq (.seq (.sreg xm [])
 (.block 0 (.loop (.seq (.sreg xl [])
 (.seq (.cond (tm 14) .skip
 (.exit 0))
 (.seq (.block 1 (.seq (.sreg xk Ch)
 (.seq (.seq (.sreg xj Ci)
 (.cond (tm 27) (.seq (.sreg xi Cj)
 (.sreg xh []))
 .skip))
 (.sreg xg Cj))))
 (.sreg sI Cg)))))))
 (.seq (.seq (.sreg sH Cg)
 (.cond (tm 38) (.sreg sG Cj)
 .skip))
 (.seq (.sreg sF Cg)
 .ret)))))),[(.tmp 6)]⟩
attribute [push_cast] xp xo xn xm xl xk xj xi xh xg sI sH sG sF
theorem Lj:bb Tryz.prog (fun _ _=>1) 117=some rx.raw:=by kernel_rfl
def EO:LSO:=[A3 3 0,Am 6,Ab 7 0]
def EN:LSO:=[Aa 12 2,An 13 12,Ab 14 0]
def EM:LSO:=[Ak 15 14 13]
def EL:LSO:=[Aq 16 1 12 14,Ad 17 1 16,Aa 9 17]
def EK:LSO:=[Ac 19 1 3,Ad 20 1 19,Aa 21 9,Aw 22 51 20 21,Aa 18 22,As 23 18,Au 24 18,Aa 10 23,Aa 11 24]
def EJ:LSO:=[Aa 25 11,Ay 26 25]
def EI:LSO:=[Am 6,Ab 7 21]
def EH:LSO:=[Ac 27 1 3,Ad 28 1 27,Aa 29 1,Aa 30 10,AD 31 71 28 29 30]
def EG:LSO:=[Am 6,Ab 7 20]
def EF:LSO:=[Ac 32 1 3,Ad 33 1 32,Aa 34 1,Aa 35 9,AD 36 117 33 34 35,Aa 1 36]
def xu:LSO:=[Ah 37 14 1,Aa 14 37]
def xt:LSO:=[Ac 38 2 3,Ad 39 1 38,Aa 40 39,.grp none 40 true
 [Ae 41 40 1,Bu 42 40 41,og 43 40 true (.bin .gtr (tm 42) (iv 1))]
 44 (tm 43)]
def xr:LSO:=[Am 6,Ab 7 19]
def xq:LSO:=[Aa 45 1,Aa 6 45,Ab 7 0]
def Da:aW:=⟨46,(.seq (.sreg EO [])
 (.seq (.seq (.sreg EN [])
 (.block 0 (.loop (.seq (.sreg EM [])
 (.seq (.cond (tm 15) .skip
 (.exit 0))
 (.seq (.block 1 (.seq (.sreg EL Ch)
 (.seq (.sreg EK C3)
 (.seq (.seq (.sreg EJ Cg)
 (.cond (tm 26) (.seq (.sreg EI [])
 .ret)
 .skip))
 (.seq (.seq (.sreg EH Cj)
 (.cond (tm 31) (.seq (.sreg EG [])
 .ret)
 .skip))
 (.sreg EF Ck))))))
 (.sreg xu Cg)))))))
 (.seq (.seq (.sreg xt Ci)
 (.cond (tm 44) (.seq (.sreg xr [])
 .ret)
 .skip))
 (.seq (.sreg xq Cm)
 .ret)))),[(.tmp 6),(.tmp 7)]⟩
attribute [push_cast] EO EN EM EL EK EJ EI EH EG EF xu xt xr xq
theorem M0:bb Tryz.prog (fun _ _=>1) 74=some Da.raw:=by kernel_rfl
def EZ:LSO:=[Am 6]
def EY:LSO:=[Am 7]
def EX:LSO:=[Aa 11 2,An 12 11,Al 13 12 0,Aa 8 13]
def EW:LSO:=[Aa 14 0,An 15 14,Ab 16 0]
def EV:LSO:=[Ak 17 16 15]
def EU:LSO:=[Aq 18 2 14 16,Ap 19 2 18,B6 10,Ai 2 10 19]
def ET:LSO:=[Aa 20 8,Ay 21 20,Aa 22 21,.grp none 22 true
 [Ae 23 22 1,AJ 24 22 67 23,A7 25 22 0 10,A4 26 22 1 25,AJ 27 22 67 26,og 28 22 true (.bin .leq (tm 24) (tm 27))]
 29 (tm 28)]
def ES:LSO:=[Aa 30 7,Aa 31 1,Aa 32 2,o1 33 (.build [(.str []),(.sl [] 0 (some 0))] [(0,(1,(tm 31))),(1,(1,(tm 32)))]),BO 34 33,Cd 35 30 34,Aa 7 35]
def ER:LSO:=[Ax 8]
def EP:LSO:=[Aa 36 1,Aj 37 67 36,Ac 38 0 10,Ad 39 1 38,Aj 40 67 39,o1 41 (.bin .neq (tm 37) (tm 40))]
def xz:LSO:=[Aa 42 7,Ap 43 2 10,BO 44 43,Cd 45 42 44,Aa 7 45]
def xy:LSO:=[Ah 46 16 1,Aa 16 46]
def xx:LSO:=[Aa 47 8,Ay 48 47]
def xw:LSO:=[Aa 49 7,Aa 50 1,Aa 51 2,o1 52 (.build [(.str []),(.sl [] 0 (some 0))] [(0,(1,(tm 50))),(1,(1,(tm 51)))]),BO 53 52,Cd 54 49 53,Aa 7 54]
def xv:LSO:=[Aa 55 7,Aa 6 55]
def Db:aW:=⟨56,(.seq (.sreg EZ [])
 (.seq (.sreg EY [])
 (.seq (.sreg EX Ci)
 (.seq (.seq (.sreg EW [])
 (.block 0 (.loop (.seq (.sreg EV [])
 (.seq (.cond (tm 17) .skip
 (.exit 0))
 (.seq (.block 1 (.seq (.sreg EU Ch)
 (.seq (.seq (.sdreg ET [.pure,.pure,.pure,.pure,(.read 0 0),.pure,(.read 0 0)] Ci)
 (.cond (tm 29) (.seq (.sreg ES Cl)
 (.sreg ER []))
 .skip))
 (.seq (.sdreg EP [.pure,(.read 0 0),.pure,(.read 0 0)] Ck)
 (.cond (tm 41) (.sreg xz Cj)
 .skip)))))
 (.sreg xy Cg)))))))
 (.seq (.seq (.sreg xx Cg)
 (.cond (tm 48) (.sreg xw Cl)
 .skip))
 (.seq (.sreg xv Cg)
 .ret)))))),[(.tmp 6)]⟩
attribute [push_cast] EZ EY EX EW EV EU ET ES ER EP xz xy xx xw xv
theorem M1:bb Tryz.prog (fun _ _=>1) 75=some Db.raw:=by kernel_rfl
def xJ:LSO:=[A3 2 0,Am 4,Ab 5 0]
def xI:LSO:=[Am 6]
def xH:LSO:=[Aa 12 1,An 13 12,Ab 14 0]
def xG:LSO:=[Ak 15 14 13]
def xF:LSO:=[Aq 16 2 12 14,Ap 17 2 16,B6 8,Ai 2 8 17]
def xE:LSO:=[Ac 18 0 2,Ad 19 1 18,Ac 20 0 8,Ad 21 1 20,Aw 22 50 19 21,Aa 9 22]
def xD:LSO:=[Aa 23 9,AB 24 23 0]
def xC:LSO:=[Am 4,Ab 5 17]
def xB:LSO:=[Ac 25 1 8,Ad 26 1 25,An 27 26,Al 28 27 0]
def xA:LSO:=[Am 4,Ab 5 19]
def sO:LSO:=[Ac 30 0 2,Ad 31 1 30,Aa 32 9,Aq 33 4 31 32,Ap 34 4 33,Aa 35 6,Ac 36 0 8,Ad 37 1 36,Aw 38 53 35 37,Ac 39 1 8,Ad 40 1 39,AD 41 74 34 38 40,Aa 29 41,
 As 42 29,Au 43 29,Aa 10 42,Aa 11 43]
def sN:LSO:=[Aa 44 11,AF 45 44 0]
def sM:LSO:=[Aa 46 11,Am 4,Aa 5 46]
def sL:LSO:=[Aa 47 6,Ac 48 0 2,Ad 49 1 48,Aa 50 9,Aq 51 4 49 50,Ac 52 0 51,Ad 53 1 52,Aa 54 10,AD 55 75 47 53 54,Aa 6 55]
def sK:LSO:=[Ah 56 14 1,Aa 14 56]
def sJ:LSO:=[Aa 57 6,Aa 4 57,Ab 5 0]
def ry:aW:=⟨58,(.seq (.sreg xJ [])
 (.seq (.sreg xI [])
 (.seq (.seq (.sreg xH [])
 (.block 0 (.loop (.seq (.sreg xG [])
 (.seq (.cond (tm 15) .skip
 (.exit 0))
 (.seq (.block 1 (.seq (.sreg xF Ch)
 (.seq (.sreg xE Ck)
 (.seq (.seq (.sreg xD Cg)
 (.cond (tm 24) (.seq (.sreg xC [])
 .ret)
 .skip))
 (.seq (.seq (.sreg xB Ci)
 (.cond (tm 28) (.seq (.sreg xA [])
 .ret)
 .skip))
 (.seq (.sdreg sO [.pure,(.read 0 0),.pure,(.read 0 0),(.read 0 0),.pure,.pure,(.read 0 0),(.read 0 0),.pure,(.read 0 0),(.read 0 0),.pure,.pure,.pure,.pure] [true,true,false,false,false,false,false,false,false,false,false,false,false,false,false,false,false])
 (.seq (.seq (.sreg sN Cg)
 (.cond (tm 45) (.seq (.sreg sM Cm)
 .ret)
 .skip))
 (.sreg sL Cx))))))))
 (.sreg sK Cg)))))))
 (.seq (.sreg sJ Cm)
 .ret)))),[(.tmp 4),(.tmp 5)]⟩
attribute [push_cast] xJ xI xH xG xF xE xD xC xB xA sO sN sM sL sK sJ
theorem Lk:bb Tryz.prog (fun _ _=>1) 32=some ry.raw:=by kernel_rfl
variable {L:List Blk} {K:AV→List Blk→Prop}
set_option maxHeartbeats 8000000
set_option maxRecDepth 100000
theorem Yz {ts:List Typ} {cap:Option Nat} {n:List UInt8} (hl:ts.length≤1100000) (hts:∀ t∈ts,bf t.1) (hn:bf n) (h1:fJ ts n=none→K (.int .i64 (-1)) L) (h2:∀ k:Nat,k<ts.length→fJ ts n=some (ts.getD k iy)→K (.int .i64 k) L) :
   ad Tryz.prog 50 [.sl (bc ts) ts.length cap,.str n] L K:=by
 replace h1:=hid h1
 replace h2:=hid h2
 refine ae GS (by simp [lp]) ?_
 simp only [lp,ar]
 refine wk ?_
 refine am (fun m T' L'=>∃ k:Nat,m=ts.length - k∧k≤ts.length∧T'=[(8,.int .i64 (k:Int)),(7,.int .i64 ts.length),(0,.sl (bc ts) ts.length cap),(1,.str n)]∧L=L' ∧
   ∀ j,j<k→¬ ah (ts.getD j iy).1=ah n) (CutS (b:=Nat.le_refl _)) ⟨0,rfl,Nat.zero_le _,rfl,rfl,by simp⟩ ?_
 rintro _ _ L' ⟨k,rfl,hk,rfl,e,hr⟩
 subst e
 replace hr:=hid hr
 by_cases hlt:k<ts.length
 · have g1:(k:Int)<(ts.length:Int):=by omega
   have g2:IntKind.i64.wrap ((k:Int)+1)=(k:Int)+1:=ac (by omega) (by omega)
   have e4:k * 4<(bc ts).length:=by rw [jw];omega
   have e3:(bc ts).getD (k * 4) .undef=.str (ts.getD k iy).1:=by
     have h3:=congrArg (fun l=>l[0]?) (kz hlt)
     simp only [List.getElem?_take_of_lt (show 0<4 by omega),List.getElem?_drop,Nat.add_zero] at h3
     rw [List.getD_eq_getElem?_getD,h3];rfl
   obtain ⟨ty,hty⟩:∃ ty,ts.getD k iy=ty:=⟨_,rfl⟩
   have hm:bf ty.1:=hts _ (by rw [← hty];simp [hlt])
   rw [hty] at e3
   replace hty:=hid hty
   by_cases hq:ah ty.1=ah n
   · have e:fJ ts n=some (ts.getD k iy):=rn (d:=iy) hlt (fun j hj=>decide_eq_false (hr.out j hj)) (by rw [hty.out];exact decide_eq_true hq)
     have h':=hid (h2.out k hlt e)
     have kk1:=@hid _ (fun L K=>bd hm (L:=L) (K:=K))
     have kk2:=@hid _ (fun L K=>bd hn (L:=L) (K:=K))
     refine wk ?_
     exact aa h'.out
   · have kk1:=@hid _ (fun L K=>bd hm (L:=L) (K:=K))
     have kk2:=@hid _ (fun L K=>bd hn (L:=L) (K:=K))
     refine wk ?_
     refine ak _ _ _ (by omega) (CutL (b:=by simp)) ⟨k+1,rfl,hlt,rfl,rfl,fun j hj=>?_⟩
     rcases Nat.lt_or_ge j k with h|h
     · exact hr.out j h
     · have:j=k:=by omega
       subst this;rw [hty.out];exact hq
 · have g1:¬ (k:Int)<(ts.length:Int):=by omega
   have h':=hid (h1.out (List.find?_eq_none.2 fun ty hty=>by
     obtain ⟨j,hj,e⟩:=List.mem_iff_getElem.1 hty
     have:=hr.out j (by omega)
     simpa [hj,e] using this))
   refine wk ?_
   exact aa h'.out
theorem GY {syn:Int} {v:List UInt8} {L:List Blk} {K:AV→List Blk→Prop} (h:K (.str (dj syn v)) L):ad Tryz.prog 72 [.int .i64 syn,.str v] L K:=by
 unfold dj at h
 refine ae Li (by simp [ru]) ?_
 simp only [ru,ar]
 refine wk ?_
 refine Kr ?_
 rcases hm:bU syn v with _|m
 all_goals rw [hm] at h
 · replace h:Hid (K (.str []) L):=hid h
   simp only [fD]
   refine sk ?_
   refine wk ?_
   exact aa h.out
 · replace h:Hid (K (.str m) L):=hid h
   simp only [fD]
   refine sk ?_
   refine wk ?_
   exact aa h.out
theorem X9 {syn:Int} {l:List (List UInt8)} {cap:Option Nat} {n:List UInt8} (hl:l.length≤1100000) (h:K (.bool (inM syn l n)) L) :
   ad Tryz.prog 71 [.int .i64 syn,.sl (l.map AV.str) l.length cap,.str n] L K:=by
 obtain ⟨R,hR⟩:∃ R,inM syn l n=R:=⟨_,rfl⟩
 rw [hR] at h
 replace h:=hid h
 refine ae NA (by simp [Hd]) ?_
 simp only [Hd,ar]
 refine wk ?_
 refine am (fun m T' L'=>∃ k:Nat,m=l.length - k∧k≤l.length∧Hid (inM syn (l.drop k) n=R)∧T'=[(11,.int .i64 (k:Int)),(10,.int .i64 l.length),(9,.sl (l.map AV.str) l.length cap),(0,.int .i64 syn),(2,.str n)]∧L=L') (CutS (b:=Nat.le_refl _)) ⟨0,rfl,Nat.zero_le _,hid (by simpa using hR),rfl,rfl⟩ ?_
 rintro _ _ L' ⟨k,rfl,hk,hI,rfl,e⟩
 subst e
 by_cases hlt:k<l.length
 · have g1:(k:Int)<(l.length:Int):=by omega
   have g2:IntKind.i64.wrap ((k:Int)+1)=(k:Int)+1:=ac (by omega) (by omega)
   obtain ⟨v,hv⟩:∃ v,l.getD k []=v:=⟨_,rfl⟩
   have g3:(l.map AV.str).getD k .undef=.str v:=by rw [← hv];simp [hlt]
   have hdr:l.drop k=v::l.drop (k+1):=by rw [List.drop_eq_getElem_cons hlt,← hv];simp [hlt]
   have hI2:=hI.out
   rw [hdr,inM,List.any_cons] at hI2
   clear hv hdr hI hR
   by_cases hq:dj syn v=n
   · rw [decide_eq_true hq,Bool.true_or] at hI2
     have h':=h.out
     rw [← hI2] at h'
     replace h':=hid h'
     clear hI2
     have kk1:=@hid _ @GY
     refine wk ?_
     exact aa h'.out
   · rw [decide_eq_false hq,Bool.false_or] at hI2
     replace hI2:=hid hI2
     have kk1:=@hid _ @GY
     refine wk ?_
     exact ak _ _ _ (by omega) (CutL (b:=by simp)) ⟨k+1,rfl,hlt,hI2,rfl,rfl⟩
 · have hke:k=l.length:=by omega
   subst hke
   have g1:¬ (l.length:Int)<(l.length:Int):=by omega
   have h':=h.out
   rw [← hI.out,List.drop_length] at h'
   replace h':=hid h'
   clear hI hR
   refine wk ?_
   exact aa h'.out
theorem Xf {syn:Int} {l:List (List UInt8)} {cap:Option Nat} {v:List UInt8} (hl:l.length≤1100000) (h:K (mA (eM syn v false l)) L) :
   ad Tryz.prog 117 [.int .i64 syn,.sl (l.map AV.str) l.length cap,.str v] L K:=by
 obtain ⟨R,hR⟩:∃ R,eM syn v false l=R:=⟨_,rfl⟩
 rw [hR] at h
 replace h:=hid h
 refine ae Lj (by simp [rx]) ?_
 simp only [rx,ar]
 refine wk ?_
 refine ch (l:=[]) (n:=0) 7 1 rfl (Nat.zero_mul 1).symm ?_
 refine am (fun m T' L'=>∃ (k:Nat) (d:Bool) (u:List (List UInt8)) (C:List AV) (n:Nat),m=l.length - k∧k≤l.length∧n≤k+1∧(d=false→n≤k)∧Hid (C=u.map AV.str∧n=u.length)∧Hid (u++eM syn v d (l.drop k)=R)∧T'=[(13,.int .i64 (k:Int)),(12,.int .i64 l.length),(11,.sl (l.map AV.str) l.length cap),(8,.bool d),(7,.gsl C n L.length 1),(0,.int .i64 syn),(2,.str v)]∧L'=L++[.spare n 1]) (CutS (b:=by simp)) ⟨0,false,[],[],0,rfl,Nat.zero_le _,by simp,by simp,hid ⟨rfl,rfl⟩,hid (by simpa using hR),rfl,rfl⟩ ?_
 rintro _ _ _ ⟨k,d,u,C,n,rfl,hk,hul,hul2,hC,hI,rfl,rfl⟩
 by_cases hlt:k<l.length
 · have g1:(k:Int)<(l.length:Int):=by omega
   have g2:IntKind.i64.wrap ((k:Int)+1)=(k:Int)+1:=ac (by omega) (by omega)
   obtain ⟨x,hx⟩:∃ x,l.getD k []=x:=⟨_,rfl⟩
   have g3:(l.map AV.str).getD k .undef=.str x:=by rw [← hx];simp [hlt]
   have hdr:l.drop k=x::l.drop (k+1):=by rw [List.drop_eq_getElem_cons hlt,← hx];simp [hlt]
   have hI2:=hI.out
   rw [hdr,eM] at hI2
   clear hx hdr hI hR
   have fin:∀ (y:List UInt8),(C++[.str y]=(u++[y]).map AV.str∧n+1=(u++[y]).length):=fun y=>by
     obtain ⟨rfl,rfl⟩:=hC.out
     simp
   replace fin:=hid fin
   replace hI2:=hid hI2
   cases d with
   | true =>
     have hI3:=hI2.out
     rw [if_neg (by simp)] at hI3
     simp only [List.nil_append,Bool.true_or] at hI3
     replace hI3:=hid hI3
     clear hI2
     have kk1:=@hid _ @GY
     refine wk ?_
     refine ak _ _ _ (by omega) (CutL (b:=by simp)) ⟨k+1,true,u++[x],C++[.str x],n+1,rfl,hlt,by omega,by simp,hid (fin.out x),hid (by simpa using hI3.out),rfl,rfl⟩
   | false =>
     have hul3:=hul2 rfl
     repeat' first
       | refine a8 ?_
       | (first|refine aP (by kernel_rfl) ?_|refine aB (by kernel_rfl) ?_|refine aC ?_|refine bj ?_|refine aX (fun _=>?_)|refine ay ?_|refine aS ?_|refine GY ?_|refine aK (GY ⟨rfl,rfl⟩) (GY ⟨rfl,rfl⟩) ?_|refine aq (GY ⟨rfl,rfl⟩) ?_)
         refine sm ?_
       | (first|refine aL (by kernel_rfl) ?_|refine aQ ?_|refine aR ?_|refine ba (ax ?_))
         refine sl ?_
       | exact aY
       | first|apply aZ|apply aM|apply a6|apply aN|apply a7|apply aO
       | refine aF ?_
       | first|refine aD rfl ?_|refine aE rfl ?_|refine ap rfl ?_ ?_|refine aH rfl (fun _=>?_) (fun _=>?_)|refine aG rfl (fun _=>?_) (fun _=>?_)
       | ((first|refine ao (fun _=>?_) (fun _=>?_)|refine aw (fun _=>?_) (fun _=>?_))<;>try refine sm ?_)
       | refine And.intro trivial ?_
       | refine And.intro (by omega) ?_
       | refine aI rfl (fun _=>?_) (fun _=>?_)
       | refine And.intro ?_ ?_
     · rename_i hq
       rw [bytesLess_eq,decide_eq_true_eq] at hq
       have hI3:=hI2.out
       rw [if_pos ⟨rfl,hq⟩,decide_eq_true hq,Bool.or_true] at hI3
       refine ak _ _ _ (by omega) (CutL (b:=by simp)) ⟨k+1,true,u++[v]++[x],C++[.str v]++[.str x],n+1+1,rfl,hlt,by omega,by simp,hid ?_,hid (by simpa using hI3),rfl,rfl⟩
       obtain ⟨rfl,rfl⟩:=hC.out
       simp
     · rename_i hq
       rw [bytesLess_eq,decide_eq_false_iff_not] at hq
       have hI3:=hI2.out
       rw [if_neg (fun e=>hq e.2),decide_eq_false hq] at hI3
       refine ak _ _ _ (by omega) (CutL (b:=by simp)) ⟨k+1,false,u++[x],C++[.str x],n+1,rfl,hlt,by omega,by omega,hid (fin.out x),hid (by simpa using hI3),rfl,rfl⟩
 · have hke:k=l.length:=by omega
   subst hke
   have g1:¬ (l.length:Int)<(l.length:Int):=by omega
   have hI2:=hI.out
   rw [List.drop_length,eM] at hI2
   have e0:AV.frzL (R.map AV.str)=R.map AV.str:=eN R
   have hfin:∀ X:List Blk,Fin L (.sl (R.map AV.str) R.length none) (L++X) K:=fun X=>ab (by simp only [AV.refs,kD]) h.out
   replace hfin:=hid hfin
   cases d with
   | true =>
     rw [if_pos rfl,List.append_nil] at hI2
     subst hI2
     refine wk ?_
     refine bE ?_
     simp only [AV.frz]
     rw [hC.out.1,e0,hC.out.2]
     exact hfin.out _
   | false =>
     rw [if_neg (by simp)] at hI2
     subst hI2
     have hul3:=hul2 rfl
     refine wk ?_
     refine bE ?_
     simp only [AV.frz]
     rw [show C++[AV.str v]=(u++[v]).map AV.str by rw [hC.out.1];simp,e0,show n+1=(u++[v]).length by rw [hC.out.2];simp]
     exact hfin.out _
theorem Mp (syn:Int) (v:List UInt8):∀ (l:List (List UInt8)) (d:Bool),(eM syn v d l).length≤l.length+1
 | [],d=>by rw [eM];split<;>simp
 | x::t,d=>by
   rw [eM]
   by_cases h:d=false∧dj syn v<dj syn x
   · rw [if_pos h,decide_eq_true h.2,Bool.or_true,G1];simp
   · have:=Mp syn v t (d || decide (dj syn v<dj syn x))
     rw [if_neg h];simp;omega
theorem Xb {ty:Typ} {l vs:List (List UInt8)} {cap capV:Option Nat} (hl:l.length+vs.length≤1100000) {R:List (List UInt8)×Int} (hR:dx ty.2.1 ty.2.2.1 l vs=R) (h:K (.tup [mA R.1,.int .i64 R.2]) L) :
   ad Tryz.prog 74 [.agg (tyC ty),.sl (l.map AV.str) l.length cap,.sl (vs.map AV.str) vs.length capV] L K:=by
 replace h:=hid h
 replace hR:=hid hR
 simp only [tyC]
 refine ae M0 (by simp [Da]) ?_
 simp only [Da,ar]
 refine wk ?_
 refine am (fun m T' L'=>∃ (i:Nat) (u:List (List UInt8)) (cu:Option Nat),m=vs.length - i∧i≤vs.length∧u.length≤l.length+i∧Hid (dx ty.2.1 ty.2.2.1 u (vs.drop i)=R)∧T'=[(14,.int .i64 (i:Int)),(13,.int .i64 vs.length),(12,.sl (vs.map AV.str) vs.length capV),(1,.sl (u.map AV.str) u.length cu),(3,.ptr L.length 0)]∧L'=L++[Blk.cells (tyC ty)]) (CutS (b:=by simp)) ⟨0,l,cap,rfl,Nat.zero_le _,Nat.le_refl _,hid (by simpa using hR.out),rfl,rfl⟩ ?_
 rintro _ _ _ ⟨i,u,cu,rfl,hi,hul,hI,rfl,rfl⟩
 simp only [tyC]
 by_cases hlt:i<vs.length
 · have g1:(i:Int)<(vs.length:Int):=by omega
   have g2:IntKind.i64.wrap ((i:Int)+1)=(i:Int)+1:=ac (by omega) (by omega)
   obtain ⟨v,hv⟩:∃ v,vs.getD i []=v:=⟨_,rfl⟩
   have g3:(vs.map AV.str).getD i .undef=.str v:=by rw [← hv];simp [hlt]
   have hdr:vs.drop i=v::vs.drop (i+1):=by rw [List.drop_eq_getElem_cons hlt,← hv];simp [hlt]
   have hI2:=hI.out
   rw [hdr] at hI2
   have hu1:u.length≤1100000:=by omega
   clear hv hdr hI hR
   refine wk ?_
   refine Kr ?_
   rcases hn:bU ty.2.1 v with _|n
   · rw [Tc hn] at hI2
     have h':=h.out
     rw [← hI2] at h'
     replace h':=hid h'
     simp only [fD]
     clear hI2 hn
     refine sk ?_
     refine wk ?_
     exact bE (ab rfl h'.out)
   rw [Ta hn] at hI2
   simp only [fD]
   rcases hb:inM ty.2.1 u n with _|_
   rotate_left
   · rw [if_pos hb] at hI2
     have h':=h.out
     rw [← hI2] at h'
     replace h':=hid h'
     clear hI2 hn
     refine sk ?_
     have kk1:=@hid _ (fun L K=>X9 (syn:=ty.2.1) (n:=n) (cap:=cu) hu1 (L:=L) (K:=K))
     refine wk ?_
     exact bE (ab rfl h'.out)
   rw [if_neg (by rw [hb];simp)] at hI2
   obtain ⟨u',hu'⟩:∃ u',eM ty.2.1 v false u=u':=⟨_,rfl⟩
   have hl':=Mp ty.2.1 v u false
   rw [hu'] at hI2 hl'
   replace hI2:=hid hI2
   clear hn
   refine sk ?_
   have kk1:=@hid _ (fun L K=>X9 (syn:=ty.2.1) (n:=n) (cap:=cu) hu1 (L:=L) (K:=K))
   have kk2:=@hid _ (fun L K=>Xf (syn:=ty.2.1) (v:=v) (cap:=cu) hu1 (L:=L) (K:=K))
   refine wk ?_
   exact ak _ _ _ (by omega) (CutL (b:=by simp)) ⟨i+1,u',none,rfl,hlt,by omega,hI2,rfl,rfl⟩
 · have hke:i=vs.length:=by omega
   subst hke
   have g1:¬ (vs.length:Int)<(vs.length:Int):=by omega
   have hI2:=hI.out
   rw [List.drop_length,dx] at hI2
   by_cases hs:ty.2.2.1=true∧1<u.length
   · rw [if_pos hs] at hI2
     have h':=h.out
     rw [← hI2] at h'
     replace h':=hid h'
     obtain ⟨hs1,hs2⟩:=hs
     have g3:(1:Int)<(u.length:Int):=by omega
     clear hI hI2 hR hs2
     refine wk ?_
     exact bE (ab rfl h'.out)
   · rw [if_neg hs] at hI2
     have g3:(ty.2.2.1 && decide ((1:Int)<(u.length:Int)))=false:=by
       rcases hsg:ty.2.2.1 with _|_
       · rfl
       · simp only [Bool.true_and,decide_eq_false_iff_not]
         intro e
         exact hs ⟨hsg,by omega⟩
     have h':=h.out
     rw [← hI2] at h'
     replace h':=hid h'
     clear hI hI2 hR hs
     refine wk ?_
     refine bE (ab ?_ ?_)
     · simp only [AV.frz,AV.frzL,eN,AV.refs,AV.refsL,kD];rfl
     · simp only [AV.frz,AV.frzL,eN];exact h'.out
theorem Sj {l:List Atr} {cap:Option Nat} {n:List UInt8} (hl:l.length≤1100000) (hz:∀ a∈l,bf a.1∧a.2.length≤1100000) (hn:bf n) (h:K (mA (dU l n)) L) :
   ad Tryz.prog 53 [.sl (bn l) l.length cap,.str n] L K:=by
 obtain ⟨R,hR⟩:∃ R,dU l n=R:=⟨_,rfl⟩
 rw [hR] at h
 replace h:=hid h
 replace hR:=hid hR
 refine ae JC (by simp [ln]) ?_
 simp only [ln,ar]
 refine wk ?_
 refine am (fun m T' L'=>∃ (k:Nat) (X:List Blk),m=l.length - k∧k≤l.length∧Hid (dU (l.drop k) n=R)∧T'=[(9,.int .i64 (k:Int)),(8,.int .i64 l.length),(7,.sl (bn l) l.length cap),(1,.str n)]∧L'=L++X) (CutS (b:=by simp)) ⟨0,[],rfl,Nat.zero_le _,hid (by simpa using hR.out),rfl,by simp⟩ ?_
 rintro _ _ _ ⟨k,X,rfl,hk,hI,rfl,rfl⟩
 by_cases hlt:k<l.length
 · have g1:(k:Int)<(l.length:Int):=by omega
   have g2:IntKind.i64.wrap ((k:Int)+1)=(k:Int)+1:=ac (by omega) (by omega)
   have e3:=mw hlt
   have e4:k * 2+2≤(bn l).length:=by rw [jR];omega
   obtain ⟨⟨nm,vs⟩,ha⟩:∃ a,l.getD k ([],[])=a:=⟨_,rfl⟩
   have hdr:l.drop k=(nm,vs)::l.drop (k+1):=by rw [List.drop_eq_getElem_cons hlt,← ha];simp [hlt]
   obtain ⟨hnm,hvs⟩:=hz (nm,vs) (by rw [← ha];simp [hlt])
   simp only at hnm hvs
   rw [ha] at e3
   simp only [atA] at e3
   have hI2:=hI.out
   rw [hdr,dU] at hI2
   simp only at hI2
   clear hI hdr ha hz hR
   by_cases hq:ah nm=ah n
   · rw [if_pos hq] at hI2
     subst hI2
     have e0:AV.frzL (vs.map AV.str)=vs.map AV.str:=eN vs
     have kk1:=@hid _ (fun L K=>bd hnm (L:=L) (K:=K))
     have kk2:=@hid _ (fun L K=>bd hn (L:=L) (K:=K))
     refine wk ?_
     refine bE ?_
     simp only [AV.frz,e0]
     exact ab (by simp only [AV.refs,kD]) h.out
   · rw [if_neg hq] at hI2
     replace hI2:=hid hI2
     have kk1:=@hid _ (fun L K=>bd hnm (L:=L) (K:=K))
     have kk2:=@hid _ (fun L K=>bd hn (L:=L) (K:=K))
     refine wk ?_
     exact ak _ _ _ (by omega) (CutL (b:=by simp)) ⟨k+1,_,rfl,hlt,hI2,rfl,rfl⟩
 · have hke:k=l.length:=by omega
   subst hke
   have g1:¬ (l.length:Int)<(l.length:Int):=by omega
   have hI2:=hI.out
   rw [List.drop_length,dU] at hI2
   subst hI2
   refine wk ?_
   exact bE (ab rfl h.out)
theorem W5 {l:List Atr} {cap capV:Option Nat} {n:List UInt8} {vs:List (List UInt8)} (hl:l.length≤1100000) (hz:∀ a∈l,bf a.1∧a.2.length≤1100000) (hn:bf n) (h:K (.sl (bn (kM n vs vs.isEmpty l)) (kM n vs vs.isEmpty l).length none) L) :
   ad Tryz.prog 75 [.sl (bn l) l.length cap,.str n,.sl (vs.map AV.str) vs.length capV] L K:=by
 obtain ⟨R,hR⟩:∃ R,kM n vs vs.isEmpty l=R:=⟨_,rfl⟩
 rw [hR] at h
 replace h:=hid h
 obtain ⟨d0,hd0⟩:∃ d,vs.isEmpty=d:=⟨_,rfl⟩
 have hd1:decide ((vs.length:Int)=0)=d0:=by rw [← hd0];cases vs<;>simp;omega
 rw [hd0] at hR
 replace hR:=hid hR
 have ev:AV.frzL (vs.map AV.str)=vs.map AV.str:=eN vs
 replace hd0:=hid hd0
 refine ae M1 (by simp [Db]) ?_
 simp only [Db,ar]
 refine wk ?_
 refine ch (l:=[]) (n:=0) 7 2 rfl (Nat.zero_mul 2).symm ?_
 refine am (fun m T' L'=>∃ (k:Nat) (d:Bool) (u:List Atr) (C:List AV) (z:Nat) (X:List Blk),m=l.length - k∧k≤l.length∧z≤k+1∧(d=false→z≤k)∧Hid (C=bn u∧z=u.length)∧Hid (u++kM n vs d (l.drop k)=R)∧T'=[(16,.int .i64 (k:Int)),(15,.int .i64 l.length),(14,.sl (bn l) l.length cap),(8,.bool d),(7,.gsl C z L.length 2),(1,.str n),(2,.sl (vs.map AV.str) vs.length capV)]∧L'=L++(.spare z 2::X)) (CutS (b:=by simp)) ⟨0,d0,[],[],0,[],rfl,Nat.zero_le _,by simp,by simp,hid ⟨rfl,rfl⟩,hid (by simpa using hR.out),rfl,rfl⟩ ?_
 rintro _ _ _ ⟨k,d,u,C,z,X,rfl,hk,hul,hul2,hC,hI,rfl,rfl⟩
 by_cases hlt:k<l.length
 · have g1:(k:Int)<(l.length:Int):=by omega
   have g2:IntKind.i64.wrap ((k:Int)+1)=(k:Int)+1:=ac (by omega) (by omega)
   have e3:=mw hlt
   have e4:k * 2+2≤(bn l).length:=by rw [jR];omega
   obtain ⟨⟨nm,ws⟩,ha⟩:∃ a,l.getD k ([],[])=a:=⟨_,rfl⟩
   have hdr:l.drop k=(nm,ws)::l.drop (k+1):=by rw [List.drop_eq_getElem_cons hlt,← ha];simp [hlt]
   obtain ⟨hnm,hws⟩:=hz (nm,ws) (by rw [← ha];simp [hlt])
   simp only at hnm hws
   rw [ha] at e3
   simp only [atA] at e3
   have ew:AV.frzL (ws.map AV.str)=ws.map AV.str:=eN ws
   have hI2:=hI.out
   rw [hdr,kM] at hI2
   simp only at hI2
   have fin:∀ (C':List AV) (u':List Atr) (z':Nat) (a:Atr),C'=bn u'∧z'=u'.length→C'++[.str a.1,.sl (a.2.map AV.str) a.2.length none]=bn (u'++[a])∧z'+1=(u'++[a]).length:=fun C' u' z' a e=>by
     obtain ⟨rfl,rfl⟩:=e
     simp [Qg,bn]
   replace fin:=hid fin
   replace hd1:=hid hd1
   clear hI hdr ha hz hR
   by_cases hx:ah nm<ah n
   · have hq:ah n≠ah nm:=fun e=>by rw [e] at hx;exact List.lt_irrefl _ hx
     have hb:Op.bytesLess (ah n) (ah nm)=false:=by
       rw [bytesLess_eq,decide_eq_false_iff_not]
       exact fun e=>List.lt_irrefl _ (List.lt_trans hx e)
     cases d with
     | true =>
       have hI3:=hI2
       rw [if_neg (fun e=>by cases e.1),if_pos hq] at hI3
       rw [show (true || !decide (ah nm<ah n))=true by simp [hx]] at hI3
       replace hI3:=hid hI3
       clear hI2
       have kk1:=@hid _ (fun L K=>bd hn (L:=L) (K:=K))
       have kk2:=@hid _ (fun L K=>bd hnm (L:=L) (K:=K))
       refine wk ?_
       exact ak _ _ _ (by omega) (CutL (b:=by simp)) ⟨k+1,true,u++[(nm,ws)],C++[.str nm,.sl (ws.map AV.str) ws.length none],z+1,_,rfl,hlt,by omega,by simp,hid (fin.out _ _ _ (nm,ws) hC.out),hid (by simpa using hI3.out),rfl,rfl⟩
     | false =>
       have hul3:=hul2 rfl
       have hI3:=hI2
       rw [if_neg (fun e=>e.2 hx),if_pos hq] at hI3
       rw [show (false || !decide (ah nm<ah n))=false by simp [hx]] at hI3
       replace hI3:=hid hI3
       clear hI2
       have kk1:=@hid _ (fun L K=>bd hn (L:=L) (K:=K))
       have kk2:=@hid _ (fun L K=>bd hnm (L:=L) (K:=K))
       refine wk ?_
       exact ak _ _ _ (by omega) (CutL (b:=by simp)) ⟨k+1,false,u++[(nm,ws)],C++[.str nm,.sl (ws.map AV.str) ws.length none],z+1,_,rfl,hlt,by omega,by simp;omega,hid (fin.out _ _ _ (nm,ws) hC.out),hid (by simpa using hI3.out),rfl,rfl⟩
   · by_cases hq:ah n=ah nm
     · have hb:Op.bytesLess (ah n) (ah nm)=false:=by
         rw [bytesLess_eq,decide_eq_false_iff_not,hq]
         exact List.lt_irrefl _
       cases d with
       | true =>
         have hI3:=hI2
         rw [if_neg (fun e=>by cases e.1),if_neg (fun e=>e hq)] at hI3
         rw [show (true || !decide (ah nm<ah n))=true by simp [hx]] at hI3
         replace hI3:=hid hI3
         clear hI2
         have kk1:=@hid _ (fun L K=>bd hn (L:=L) (K:=K))
         have kk2:=@hid _ (fun L K=>bd hnm (L:=L) (K:=K))
         refine wk ?_
         exact ak _ _ _ (by omega) (CutL (b:=by simp)) ⟨k+1,true,u,C,z,_,rfl,hlt,by omega,by simp,hid hC.out,hid (by simpa using hI3.out),rfl,rfl⟩
       | false =>
         have hul3:=hul2 rfl
         have hI3:=hI2
         rw [if_pos ⟨rfl,hx⟩,if_neg (fun e=>e hq)] at hI3
         rw [show (false || !decide (ah nm<ah n))=true by simp [hx]] at hI3
         replace hI3:=hid hI3
         clear hI2
         have kk1:=@hid _ (fun L K=>bd hn (L:=L) (K:=K))
         have kk2:=@hid _ (fun L K=>bd hnm (L:=L) (K:=K))
         refine wk ?_
         exact ak _ _ _ (by omega) (CutL (b:=by simp)) ⟨k+1,true,u++[(n,vs)],C++[.str n,.sl (vs.map AV.str) vs.length none],z+1,_,rfl,hlt,by omega,by simp,hid (fin.out _ _ _ (n,vs) hC.out),hid (by simpa using hI3.out),rfl,rfl⟩
     · have hb:Op.bytesLess (ah n) (ah nm)=true:=by
         rw [bytesLess_eq,decide_eq_true_eq]
         exact (List.le_iff_lt_or_eq.1 (List.not_lt.1 hx)).resolve_right hq
       cases d with
       | true =>
         have hI3:=hI2
         rw [if_neg (fun e=>by cases e.1),if_pos hq] at hI3
         rw [show (true || !decide (ah nm<ah n))=true by simp [hx]] at hI3
         replace hI3:=hid hI3
         clear hI2
         have kk1:=@hid _ (fun L K=>bd hn (L:=L) (K:=K))
         have kk2:=@hid _ (fun L K=>bd hnm (L:=L) (K:=K))
         refine wk ?_
         exact ak _ _ _ (by omega) (CutL (b:=by simp)) ⟨k+1,true,u++[(nm,ws)],C++[.str nm,.sl (ws.map AV.str) ws.length none],z+1,_,rfl,hlt,by omega,by simp,hid (fin.out _ _ _ (nm,ws) hC.out),hid (by simpa using hI3.out),rfl,rfl⟩
       | false =>
         have hul3:=hul2 rfl
         have hI3:=hI2
         rw [if_pos ⟨rfl,hx⟩,if_pos hq] at hI3
         rw [show (false || !decide (ah nm<ah n))=true by simp [hx]] at hI3
         replace hI3:=hid hI3
         clear hI2
         have kk1:=@hid _ (fun L K=>bd hn (L:=L) (K:=K))
         have kk2:=@hid _ (fun L K=>bd hnm (L:=L) (K:=K))
         refine wk ?_
         exact ak _ _ _ (by omega) (CutL (b:=by simp)) ⟨k+1,true,u++[(n,vs)]++[(nm,ws)],C++[.str n,.sl (vs.map AV.str) vs.length none]++[.str nm,.sl (ws.map AV.str) ws.length none],z+1+1,_,rfl,hlt,by omega,by simp,hid (fin.out _ _ _ (nm,ws) (fin.out _ _ _ (n,vs) hC.out)),hid (by simpa using hI3.out),rfl,rfl⟩
 · have hke:k=l.length:=by omega
   subst hke
   have g1:¬ (l.length:Int)<(l.length:Int):=by omega
   have hI2:=hI.out
   rw [List.drop_length,kM] at hI2
   have e0:=Dl R
   have hfin:∀ X:List Blk,Fin L (.sl (bn R) R.length none) (L++X) K:=fun X=>ab (by simp only [AV.refs,rb]) h.out
   replace hfin:=hid hfin
   replace hd1:=hid hd1
   clear hI hR
   cases d with
   | true =>
     rw [if_pos rfl,List.append_nil] at hI2
     subst hI2
     refine wk ?_
     refine bE ?_
     simp only [AV.frz]
     rw [hC.out.1,e0,hC.out.2]
     exact hfin.out _
   | false =>
     rw [if_neg (by simp)] at hI2
     subst hI2
     have hul3:=hul2 rfl
     refine wk ?_
     refine bE ?_
     simp only [AV.frz]
     rw [show C++[AV.str n,.sl (vs.map AV.str) vs.length none]=bn (u++[(n,vs)]) by rw [hC.out.1,Qg];simp [bn],e0,show z+1=(u++[(n,vs)]).length by rw [hC.out.2];simp]
     exact hfin.out _
theorem VU {ts:List Typ} {capT:Option Nat} {c2:List AV} {n2:Nat} {cap2:Option Nat} {list:List Atr} {cap:Option Nat} (hts:O4 ts) (hl:list.length≤100) (hv:∀ a∈list,bf a.1∧a.2.length≤9000) {R:List Atr×Int} (hR:Jl ts [] list=R) (h:K (.tup [.sl (bn R.1) R.1.length none,.int .i64 R.2]) L) :
   ad Tryz.prog 32 [.agg [.sl (bc ts) ts.length capT,.sl c2 n2 cap2],.sl (bn list) list.length cap] L K:=by
 replace h:=hid h
 replace hR:=hid hR
 refine ae Lk (by simp [ry]) ?_
 simp only [ry,ar]
 refine wk ?_
 obtain ⟨sC,hsC⟩:∃ s,AV.sl c2 n2 cap2=s:=⟨_,rfl⟩
 rw [hsC]
 refine am (fun m T' L'=>∃ (i:Nat) (out:List Atr) (co:Option Nat) (X:List Blk),m=list.length - i∧i≤list.length∧out.length≤i∧Hid (Jl ts out (list.drop i)=R)∧Hid (∀ a∈out,bf a.1∧a.2.length≤9000 * i)∧T'=[(14,.int .i64 (i:Int)),(13,.int .i64 list.length),(12,.sl (bn list) list.length cap),(6,.sl (bn out) out.length co),(2,.ptr L.length 0)]∧L'=L++(.cells [.sl (bc ts) ts.length capT,sC]::X)) (CutS (b:=by simp)) ⟨0,[],some 0,[],rfl,Nat.zero_le _,Nat.le_refl _,hid (by simpa using hR.out),hid (by simp),rfl,by simp⟩ ?_
 rintro _ _ _ ⟨i,out,co,X,rfl,hi,hol,hI,ho,rfl,rfl⟩
 by_cases hlt:i<list.length
 · have g1:(i:Int)<(list.length:Int):=by omega
   have g2:IntKind.i64.wrap ((i:Int)+1)=(i:Int)+1:=ac (by omega) (by omega)
   have e3:=mw hlt
   have e4:i * 2+2≤(bn list).length:=by rw [jR];omega
   obtain ⟨⟨nm,vs⟩,ha⟩:∃ a,list.getD i ([],[])=a:=⟨_,rfl⟩
   have hdr:list.drop i=(nm,vs)::list.drop (i+1):=by rw [List.drop_eq_getElem_cons hlt,← ha];simp [hlt]
   obtain ⟨hnm,hvs⟩:=hv (nm,vs) (by rw [← ha];simp [hlt])
   simp only at hnm hvs
   rw [ha] at e3
   simp only [atA] at e3
   have hI2:=hI.out
   rw [hdr,Jl] at hI2
   simp only at hI2
   replace hI2:=hid hI2
   clear hI hdr ha hv hR
   refine wk ?_
   refine Yz hts.1 hts.2.1 hnm (fun hty=>?_) (fun t ht hty=>?_)
   · have hI3:=hI2.out
     rw [hty] at hI3
     simp only at hI3
     have h':=h.out
     rw [← hI3] at h'
     replace h':=hid h'
     clear hI2 hI3 hty
     refine sk ?_
     refine wk ?_
     exact bE (ab rfl h'.out)
   · have hI3:=hI2.out
     have e5:=kz ht
     have e6:t * 4+4≤(bc ts).length:=by rw [jw];omega
     have e8:(bc ts).getD (t * 4) .undef=.str (ts.getD t iy).1:=by
       have h3:=congrArg (fun l=>l[0]?) (kz ht)
       simp only [List.getElem?_take_of_lt (show 0<4 by omega),List.getElem?_drop,Nat.add_zero] at h3
       rw [List.getD_eq_getElem?_getD,h3];rfl
     have g3:¬ (t:Int)<0:=by omega
     have g4:(t:Int)<(ts.length:Int):=by omega
     have g6:t * 4<(bc ts).length:=by omega
     have htn:=Dw hty
     obtain ⟨ty,hte⟩:∃ ty,ts.getD t iy=ty:=⟨_,rfl⟩
     rw [hte] at hty e5 e8 htn
     rw [hty] at hI3
     simp only at hI3
     simp only [tyC] at e5
     by_cases hvn:vs=[]
     · rw [if_pos hvn] at hI3
       have h':=h.out
       rw [← hI3] at h'
       replace h':=hid h'
       subst hvn
       clear hI2 hI3 hty htn hte
       refine sk ?_
       refine wk ?_
       exact bE (ab rfl h'.out)
     rw [if_neg hvn] at hI3
     have g5:¬ (vs.length:Int)=0:=by
       rcases vs with _|⟨x,t⟩
       · exact absurd rfl hvn
       · simp;omega
     obtain ⟨V,hV⟩:∃ V,dU out nm=V:=⟨_,rfl⟩
     have hVl:V.length≤9000 * i:=by rw [← hV];exact Qu fun a ha=>(ho.out a ha).2
     rw [hV] at hI3
     obtain ⟨A,hA⟩:∃ A,dx ty.2.1 ty.2.2.1 V vs=A:=⟨_,rfl⟩
     rw [hA] at hI3
     have kk1:Hid (Ctr Tryz.prog 53 [.sl (bn out) out.length co,.str nm] (.sl (V.map AV.str) V.length none)):=hid fun q=>Sj (by omega) (fun a ha=>⟨(ho.out a ha).1,by have:=(ho.out a ha).2;omega⟩) hnm (by rw [hV];exact q)
     have kk2:Hid (Ctr Tryz.prog 74 [.agg [.str ty.1,.int .i64 ty.2.1,.bool ty.2.2.1,.bool ty.2.2.2],.sl (V.map AV.str) V.length none,.sl (vs.map AV.str) vs.length none] (.tup [.sl (A.1.map AV.str) A.1.length none,.int .i64 A.2])):=hid fun q=>Xb (ty:=ty) (by omega) hA q
     have kk3:Hid (Ctr Tryz.prog 75 [.sl (bn out) out.length co,.str ty.1,.sl (A.1.map AV.str) A.1.length none] (.sl (bn (kM ty.1 A.1 A.1.isEmpty out)) (kM ty.1 A.1 A.1.isEmpty out).length none)):=hid fun q=>W5 (by omega) (fun a ha=>⟨(ho.out a ha).1,by have:=(ho.out a ha).2;omega⟩) (hts.2.1 ty htn.1) q
     obtain ⟨A1,A2⟩:=A
     simp only at kk2 kk3 hI3
     obtain ⟨out',hout'⟩:∃ o,kM ty.1 A1 A1.isEmpty out=o:=⟨_,rfl⟩
     rw [hout'] at kk3 hI3
     clear hI2 hvn hty
     by_cases hc0:A2=0
     · subst hc0
       rw [if_neg (by simp)] at hI3
       have hAl:=No (by rw [hA]:(dx ty.2.1 ty.2.2.1 V vs).2=0)
       rw [hA] at hAl
       simp only at hAl
       have hol':out'.length≤i+1:=by
         have:=@Ot ty.1 A1 A1.isEmpty out
         rw [hout'] at this
         split at this<;>omega
       have ho':∀ a∈out',bf a.1∧a.2.length≤9000 * (i+1):=fun a ha=>by
         rw [← hout'] at ha
         rcases LW ha with e|e
         · rw [e];exact ⟨hts.2.1 ty htn.1,by simp only;omega⟩
         · have:=ho.out a e
           exact ⟨this.1,by omega⟩
       replace hI3:=hid hI3
       replace ho':=hid ho'
       clear hA hV hout' hAl htn hte
       refine sk ?_
       refine wk ?_
       exact ak _ _ _ (by omega) (CutL (b:=by simp)) ⟨i+1,out',none,_,rfl,hlt,hol',hI3,ho',rfl,rfl⟩
     · rw [if_pos hc0] at hI3
       have h':=h.out
       rw [← hI3] at h'
       replace h':=hid h'
       clear hA hV hout' htn hI3 hte
       refine sk ?_
       refine wk ?_
       exact bE (ab rfl h'.out)
 · have hke:i=list.length:=by omega
   subst hke
   have g1:¬ (list.length:Int)<(list.length:Int):=by omega
   have hI2:=hI.out
   rw [List.drop_length,Jl] at hI2
   have h':=h.out
   rw [← hI2] at h'
   replace h':=hid h'
   clear hI hI2 hR hv
   have e0:=Dl out
   refine wk ?_
   refine bE ?_
   simp only [AV.frz,AV.frzL,e0]
   exact ab (by simp only [AV.refs,AV.refsL,rb];rfl) h'.out
end Go.Proofs.YtkkgmgmgcgiffaaGreatDoor.Av
