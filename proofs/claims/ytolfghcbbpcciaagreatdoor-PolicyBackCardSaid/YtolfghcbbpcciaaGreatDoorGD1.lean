/- Joined texts of the walk, made small by a program. -/
import Derived.Test.YtolfghcbbpcciaaGreatDoorGP4
import Derived.Test.YtolfghcbbpcciaaGreatDoorRows
import Derived.KernelRfl
import Derived.Test.YtolfghcbbpcciaaGreatDoorGO1
import Derived.Test.YtolfghcbbpcciaaGreatDoorGShelfP
import Derived.Laws.RangeAny
import Derived.Laws.RangeString
import Derived.Test.YtolfghcbbpcciaaGreatDoorGP5
set_option linter.unusedSimpArgs false
set_option linter.unusedVariables false
set_option maxRecDepth 100000
namespace Go.Proofs.YtolfghcbbpcciaaGreatDoor.Av
open Go
def JG:LSO:=[Ah 2]
def JF:LSO:=[Aa 5 0,BJ 6 5,Aa 7 6,.grp none 7 false
 [Af 8 7 0,Ba 9 7 8,A3 10 7 9 32]
 11 (tm 10),Aa 12 11,.grp none 12 false
 [Af 13 12 0,Bw 14 12 13 0,og 15 12 false (.conv .i32 (tm 14)),AL 16 12 151 15,Bc 17 12 16]
 18 (tm 17)]
def JE:LSO:=[Ah 2]
def JD:LSO:=[Aa 19 0,o1 20 (.rangeS (tm 19))]
def JC:LSO:=[o1 21 (.nextS (tm 20)),Ar 22 21]
def JB:LSO:=[AX 23 21,Aa 4 23]
def JA:LSO:=[Aa 24 4,Al 25 151 24,Ax 26 25,Aa 27 26,.grp none 27 true
 [Ae 28 27 4,og 29 27 true (.bin .lss (tm 28) (.av (.int .i32 48))),Ae 30 27 29,.grp (some (27,true)) 30 false
 [Af 31 30 4,og 32 30 false (.bin .gtr (tm 31) (.av (.int .i32 57)))]
 33 (tm 32)]
 34 (tm 33),Aa 35 34,.grp none 35 true
 [Ae 36 35 4,og 37 35 true (.bin .neq (tm 36) (.av (.int .i32 45)))]
 38 (tm 37)]
def Jz:LSO:=[Ah 2]
def Jy:LSO:=[Aw 2]
def Jf:ba:=⟨39,(.seq (.sreg JG [])
 (.seq (.seq (.sreg JF BZ)
 (.cond (tm 18) (.seq (.sreg JE [])
 .ret)
 .skip))
 (.seq (.seq (.sreg JD BV)
 (.block 0 (.loop (.seq (.sreg JC [])
 (.seq (.cond (tm 22) .skip
 (.exit 0))
 (.block 1 (.seq (.sreg JB BV)
 (.seq (.sreg JA Cb)
 (.cond (tm 38) (.seq (.sreg Jz [])
 .ret)
 .skip)))))))))
 (.seq (.sreg Jy [])
 .ret)))),[(.tmp 2)]⟩
attribute [push_cast] JG JF JE JD JC JB JA Jz Jy
theorem NX:bb Tryz.prog (fun _ _=>1) 140=some Jf.raw:=by kernel_rfl
def E7:LSO:=[Ah 2]
def E6:LSO:=[Aa 3 0,o1 4 (.bin .geq (tm 3) (.av (.int .i32 97))),Aa 5 4,.grp none 5 true
 [Ae 6 5 0,og 7 5 true (.bin .leq (tm 6) (.av (.int .i32 122)))]
 8 (tm 7),Aa 9 8,.grp none 9 false
 [Af 10 9 0,og 11 9 false (.bin .geq (tm 10) (.av (.int .i32 65))),Af 12 9 11,.grp (some (9,false)) 12 true
 [Ae 13 12 0,og 14 12 true (.bin .leq (tm 13) (.av (.int .i32 90)))]
 15 (tm 14)]
 16 (tm 15),Aa 2 16]
def CR:ba:=⟨17,(.seq (.sreg E7 [])
 (.seq (.sreg E6 Cb)
 .ret)),[(.tmp 2)]⟩
attribute [push_cast] E7 E6
theorem L6:bb Tryz.prog (fun _ _=>1) 151=some CR.raw:=by kernel_rfl
def K1:LSO:=[A6 3 1,Ah 4]
def K0:LSO:=[Aa 5 0,o1 6 (.mkfn 153 [(tm 3)]),Ay 7 152 5 6,Aa 4 7]
def L7:ba:=⟨8,(.seq (.sreg K1 [])
 (.seq (.sreg K0 BX)
 .ret)),[(.tmp 4)]⟩
attribute [push_cast] K1 K0
theorem Pa:bb Tryz.prog (fun _ _=>1) 141=some L7.raw:=by kernel_rfl
def Hp:LSO:=[A6 2 0,Ah 3]
def Ho:LSO:=[Ad 4 0 2,Ac 5 1 4,Al 6 78 5,Ac 7 1 1,Al 8 78 7,A9 9 6 8,Aa 3 9]
def Gf:ba:=⟨10,(.seq (.sreg Hp [])
 (.seq (.sdreg Ho [.pure,(.read 0 0),(.read 0 0),(.read 0 0)] Cb)
 .ret)),[(.tmp 3)]⟩
attribute [push_cast] Hp Ho
theorem Mx:bb Tryz.prog (fun _ _=>1) 153=some Gf.raw:=by kernel_rfl
def Hf:LSO:=[Am 2,Am 3,Ah 4]
def He:LSO:=[Ai 5]
def Hd:LSO:=[Ah 6]
def Hc:LSO:=[Ab 7 0]
def Hb:LSO:=[Aa 11 7,Aa 12 0,Ap 13 12,Aj 14 11 13,Aa 15 14,.grp none 15 true
 [Ae 16 15 0,Ae 17 15 7,AF 18 15 16 17,og 19 15 true (.bin .neq (tm 18) (.av (.int .u8 44)))]
 20 (tm 19),Aa 21 20,.grp none 21 true
 [Ae 22 21 0,Ae 23 21 7,AF 24 21 22 23,og 25 21 true (.bin .neq (tm 24) (.av (.int .u8 43)))]
 26 (tm 25)]
def Ha:LSO:=[Aa 27 0,Aa 28 7,A0 29 27 28,Aa 8 29]
def G9:LSO:=[Aa 30 8,o1 31 (.bin .eql (tm 30) (.av (.int .u8 32))),Aa 6 31]
def G8:LSO:=[Aa 33 8,o1 34 (.bin .neq (tm 33) (.av (.int .u8 92))),Aa 32 34]
def G7:LSO:=[Aa 35 8,B1 36 35,Aa 37 36,.grp none 37 false
 [Af 38 37 8,og 39 37 false (.call 154 [(.av (.str [34,59,60,62])),(tm 38)]),B0 40 37 39 0]
 41 (tm 40),Aa 42 41,.grp none 42 false
 [Af 43 42 5,AY 44 42 43,AC 45 42 44 0,Af 46 42 45,.grp (some (42,false)) 46 true
 [Ae 47 46 8,Bf 48 46 47,Ae 49 46 48,.grp (some (46,true)) 49 false
 [Af 50 49 8,og 51 49 false (.bin .eql (tm 50) (.av (.int .u8 35)))]
 52 (tm 51)]
 53 (tm 52)]
 54 (tm 53)]
def G6:LSO:=[Am 2,Am 3,Ah 4]
def EY:LSO:=[Aa 56 7,Ag 57 56 1,Aa 58 0,Ap 59 58,Aj 60 57 59,Aa 61 60,.grp none 61 true
 [Ae 62 61 0,Ae 63 61 7,og 64 61 true (.bin .add (tm 63) (iv 1)),AF 65 61 62 64,og 66 61 true (.call 154 [(.av (.str [34,43,44,59,60,62,92,32,35,61])),(tm 65)]),
 og 67 61 true (.bin .geq (tm 66) (iv 0))]
 68 (tm 67),Aa 55 68]
def EX:LSO:=[Aa 69 7,Ag 70 69 1,Aa 7 70]
def EW:LSO:=[Aa 71 0,Aa 72 7,A0 73 71 72,Aa 8 73]
def EV:LSO:=[Aa 75 7,Ag 76 75 2,Aa 77 0,Ap 78 77,Aj 79 76 78,Aa 74 79]
def EU:LSO:=[Aa 81 0,Aa 82 7,Ag 83 82 1,Aa 84 7,Ag 85 84 3,BK 86 81 83 85,Al 87 155 86,Aa 80 87,Ar 88 80,As 89 80,Aa 9 88,Aa 10 89]
def ET:LSO:=[Aa 90 10,Ax 91 90]
def ES:LSO:=[Am 2,Am 3,Ah 4]
def ER:LSO:=[Aa 92 9,Bz 93 92 0,Aa 8 93]
def EP:LSO:=[Aa 94 7,Ag 95 94 2,Aa 7 95]
def EO:LSO:=[Am 2,Am 3,Ah 4]
def EN:LSO:=[Aa 96 5,Aa 97 8,AD 98 97,A8 99 96 98,Aa 5 99]
def EM:LSO:=[Aa 100 7,Ag 101 100 1,Aa 7 101]
def EL:LSO:=[Aa 102 5,AH 103 102,Aa 104 0,Aa 105 7,BH 106 104 105,Aa 107 6,Ax 108 107,Aa 2 103,Aa 3 106,Aa 4 108]
def Ge:ba:=⟨109,(.seq (.sreg Hf [])
 (.seq (.sreg He [])
 (.seq (.sreg Hd [])
 (.seq (.sreg Hc [])
 (.seq (.block 0 (.loop (.seq (.seq (.sreg Hb Ce)
 (.cond (tm 26) .skip
 (.exit 0)))
 (.block 1 (.seq (.sreg Ha BX)
 (.seq (.sreg G9 BW)
 (.seq (.block 2 (.seq (.sreg G8 BW)
 (.cond (tm 32) (.seq (.sreg G7 BZ)
 (.cond (tm 54) (.seq (.sreg G6 [])
 .ret)
 .skip))
 (.seq (.sreg EY Ce)
 (.cond (tm 55) (.seq (.sreg EX BW)
 (.sreg EW BX))
 (.seq (.sreg EV BZ)
 (.cond (tm 74) (.seq (.sreg EU [true,true,false,false,false,false,false,false,false,false,false,false])
 (.seq (.seq (.sreg ET BV)
 (.cond (tm 91) (.seq (.sreg ES [])
 .ret)
 .skip))
 (.seq (.sreg ER BW)
 (.sreg EP BW))))
 (.seq (.sreg EO [])
 .ret))))))))
 (.seq (.sreg EN BY)
 (.sreg EM BW)))))))))
 (.seq (.sdreg EL [.pure,(.read 0 0),.pure,.pure,(.read 0 0),.pure,.pure,.pure,.pure] [true,true,true,false,false,false,false,false,false,false])
 .ret)))))),[(.tmp 2),(.tmp 3),(.tmp 4)]⟩
attribute [push_cast] Hf He Hd Hc Hb Ha G9 G8 G7 G6 EY EX EW EV EU ET ES ER EP EO EN EM EL
theorem Mw:bb Tryz.prog (fun _ _=>1) 142=some Ge.raw:=by kernel_rfl
def HT:LSO:=[Ai 2,Ab 3 0]
def HS:LSO:=[Aa 10 0,Ap 11 10,Az 12 11 4096]
def HR:LSO:=[Ai 2,Ab 3 5]
def HQ:LSO:=[Aa 13 0,BJ 14 13]
def HP:LSO:=[Ai 2,Ab 3 0]
def HO:LSO:=[Ai 4]
def HN:LSO:=[Ai 5]
def HM:LSO:=[Aa 15 4,Ak 16 15,Aq 17 16 32,Aa 18 17,.grp none 18 false
 [Af 19 18 5,AY 20 18 19,AC 21 18 20 8]
 22 (tm 21)]
def HL:LSO:=[Ai 2,Ab 3 9]
def HK:LSO:=[Aa 24 0,o1 25 (.call 42 [(tm 24),(.av (.str [61]))]),Aa 23 25,Ar 26 23,As 27 23,AX 28 23,Aa 6 26,Aa 7 27,Aa 8 28]
def FF:LSO:=[Aa 29 8,Ax 30 29,Aa 31 30,.grp none 31 false
 [Af 32 31 6,AL 33 31 140 32,Bc 34 31 33]
 35 (tm 34)]
def FE:LSO:=[Ai 2,Ab 3 4]
def FD:LSO:=[Aa 36 5,Aa 37 6,Ay 38 141 36 37]
def FC:LSO:=[Ai 2,Ab 3 21]
def FB:LSO:=[Aa 40 7,Al 41 142 40,Aa 39 41,Ar 42 39,As 43 39,AX 44 39,Aa 9 42,Aa 7 43,Aa 8 44]
def FA:LSO:=[Aa 45 8,Ax 46 45]
def Fz:LSO:=[Ai 2,Ab 3 4]
def Fy:LSO:=[Aa 47 5,Aa 48 6,Aa 49 9,o1 50 (.build [(.str []),(.str [])] [(0,(1,(tm 48))),(1,(1,(tm 49)))]),BL 51 50,Bn 52 47 51,Aa 5 52]
def Fx:LSO:=[Aa 53 7,BJ 54 53]
def Fw:LSO:=[Aa 55 4,Aa 56 5,B3 57 56,B4 58 55 57,Aa 2 58,Ab 3 0]
def Fv:LSO:=[Aa 59 7,Bz 60 59 0,o1 61 (.bin .eql (tm 60) (.av (.int .u8 44)))]
def Fu:LSO:=[Aa 62 4,Aa 63 5,B3 64 63,B4 65 62 64,Aa 4 65,Ai 5]
def Ft:LSO:=[Aa 66 7,o1 67 (.slS (tm 66) (some (iv 1)) none),Aa 0 67]
def Gi:ba:=⟨68,(.seq (.sreg HT [])
 (.seq (.seq (.sreg HS BW)
 (.cond (tm 12) (.seq (.sreg HR [])
 .ret)
 .skip))
 (.seq (.seq (.sreg HQ BV)
 (.cond (tm 14) (.seq (.sreg HP [])
 .ret)
 .skip))
 (.seq (.sreg HO [])
 (.seq (.sreg HN [])
 (.block 0 (.loop (.block 1 (.seq (.seq (.sreg HM BY)
 (.cond (tm 22) (.seq (.sreg HL [])
 .ret)
 .skip))
 (.seq (.sreg HK Cq)
 (.seq (.seq (.sreg FF BX)
 (.cond (tm 35) (.seq (.sreg FE [])
 .ret)
 .skip))
 (.seq (.seq (.sreg FD BW)
 (.cond (tm 38) (.seq (.sreg FC [])
 .ret)
 .skip))
 (.seq (.sreg FB Cq)
 (.seq (.seq (.sreg FA BV)
 (.cond (tm 46) (.seq (.sreg Fz [])
 .ret)
 .skip))
 (.seq (.sreg Fy Cb)
 (.seq (.seq (.sreg Fx BV)
 (.cond (tm 54) (.seq (.sreg Fw Cr)
 .ret)
 .skip))
 (.seq (.seq (.sreg Fv BW)
 (.cond (tm 61) (.sreg Fu Cr)
 .skip))
 (.sreg Ft BW)))))))))))))))))),[(.tmp 2),(.tmp 3)]⟩
attribute [push_cast] HT HS HR HQ HP HO HN HM HL HK FF FE FD FC FB FA Fz Fy Fx Fw Fv Fu Ft
theorem MA:bb Tryz.prog (fun _ _=>1) 119=some Gi.raw:=by kernel_rfl
def zZ:LSO:=[Am 2]
def zY:LSO:=[Ai 3]
def zX:LSO:=[Aa 7 0,o1 8 (.s2b (tm 7)),Ak 9 8,Ab 10 0]
def zW:LSO:=[Aj 11 10 9]
def zV:LSO:=[Aa 12 10,Ao 13 1 8 10,Ac 14 1 13,Aa 4 12,Aa 5 14]
def zU:LSO:=[Aa 15 4,Aq 16 15 0,Aa 17 16,.grp none 17 true
 [Ae 18 17 5,Bf 19 17 18,Ae 20 17 19,.grp (some (17,true)) 20 false
 [Af 21 20 5,og 22 20 false (.bin .eql (tm 21) (.av (.int .u8 35)))]
 23 (tm 22)]
 24 (tm 23),Aa 25 24,.grp none 25 false
 [Af 26 25 4,Af 27 25 0,Ba 28 25 27,B5 29 25 28 1,og 30 25 false (.bin .eql (tm 26) (tm 29)),Af 31 25 30,.grp (some (25,false)) 31 true
 [Ae 32 31 5,Bf 33 31 32]
 34 (tm 33)]
 35 (tm 34),Aa 6 35]
def zT:LSO:=[Aa 37 5,B1 38 37,Aa 36 38]
def zS:LSO:=[Aa 39 3,o1 40 (.app 1 1 1 [(.int .u8 0)] (tm 39) (.av (.str [92,48,48]))),Aa 3 40]
def zR:LSO:=[Aa 42 6,Aa 43 42,.grp none 43 false
 [Af 44 43 5,og 45 43 false (.call 154 [(.av (.str [34,43,44,59,60,62,92])),(tm 44)]),B0 46 43 45 0]
 47 (tm 46),Aa 41 47]
def zQ:LSO:=[Aa 48 3,o1 49 (.bslice false 1 1 [(.int .u8 0)] [(0,(1,(.av (.int .u8 92))))]),A8 50 48 49,Aa 3 50]
def u6:LSO:=[Aa 51 3,Aa 52 5,AD 53 52,A8 54 51 53,Aa 3 54]
def u0:LSO:=[Ag 55 10 1,Aa 10 55]
def uZ:LSO:=[Aa 56 3,AH 57 56,Aa 2 57]
def qp:ba:=⟨58,(.seq (.sreg zZ [])
 (.seq (.sreg zY [])
 (.seq (.seq (.sreg zX Cg)
 (.block 0 (.loop (.seq (.sreg zW [])
 (.seq (.cond (tm 11) .skip
 (.exit 0))
 (.seq (.block 1 (.seq (.sreg zV Cc)
 (.seq (.sreg zU Cb)
 (.seq (.block 2 (.seq (.sreg zT BW)
 (.cond (tm 36) (.seq (.sreg zS BW)
 (.exit 1))
 (.seq (.sreg zR BX)
 (.cond (tm 41) (.sreg zQ BX)
 .skip)))))
 (.sreg u6 BY)))))
 (.sreg u0 BV)))))))
 (.seq (.sreg uZ BW)
 .ret)))),[(.tmp 2)]⟩
attribute [push_cast] zZ zY zX zW zV zU zT zS zR zQ u6 u0 uZ
theorem Kr:bb Tryz.prog (fun _ _=>1) 157=some qp.raw:=by kernel_rfl
def Hz:LSO:=[Ab 2 0]
def Hy:LSO:=[Aa 7 0,Ak 8 7,Ab 9 0]
def Hx:LSO:=[Aj 10 9 8]
def Hw:LSO:=[Aa 11 9,Ao 12 1 7 9,Ac 13 1 12,Aa 3 11,Aa 4 13]
def Hv:LSO:=[Aa 15 3,Aq 16 15 32,Aa 14 16]
def Hu:LSO:=[Ab 2 9]
def Ht:LSO:=[Aa 18 4,Ak 19 18,Aq 20 19 0,Aa 17 20]
def Hs:LSO:=[Ab 2 2]
def Hr:LSO:=[Aa 21 4,Ak 22 21,Ab 23 0]
def Hq:LSO:=[Aj 24 23 22]
def Fh:LSO:=[Aa 25 23,Ao 26 2 21 23,Au 27 2 26,AT 6,Aa 5 25,An 2 6 27]
def Fg:LSO:=[Aa 29 5,Aq 30 29 8,Aa 28 30]
def Ff:LSO:=[Ab 2 9]
def Fe:LSO:=[Ad 32 0 6,Ac 33 1 32,Al 34 140 33,Ax 35 34,Aa 31 35]
def Fd:LSO:=[Ab 2 20]
def Fc:LSO:=[Aa 37 4,Aa 38 5,BM 39 37 38,Ad 40 0 6,Ac 41 1 40,Ay 42 141 39 41,Aa 36 42]
def Fb:LSO:=[Ab 2 21]
def Fa:LSO:=[Ag 43 23 1,Aa 23 43]
def E9:LSO:=[Ag 44 9 1,Aa 9 44]
def E8:LSO:=[Ab 2 0]
def Gg:ba:=⟨45,(.seq (.sreg Hz [])
 (.seq (.seq (.sreg Hy [])
 (.block 0 (.loop (.seq (.sreg Hx [])
 (.seq (.cond (tm 10) .skip
 (.exit 0))
 (.seq (.block 1 (.seq (.sreg Hw Cc)
 (.seq (.block 2 (.seq (.sreg Hv BW)
 (.cond (tm 14) (.seq (.sreg Hu [])
 .ret)
 (.seq (.sreg Ht BX)
 (.cond (tm 17) (.seq (.sreg Hs [])
 .ret)
 .skip)))))
 (.seq (.sreg Hr [])
 (.block 3 (.loop (.seq (.sreg Hq [])
 (.seq (.cond (tm 24) .skip
 (.exit 3))
 (.seq (.block 4 (.seq (.sreg Fh Cc)
 (.block 5 (.seq (.sreg Fg BW)
 (.cond (tm 28) (.seq (.sreg Ff [])
 .ret)
 (.seq (.sreg Fe BY)
 (.cond (tm 31) (.seq (.sreg Fd [])
 .ret)
 (.seq (.sdreg Fc [.pure,.pure,(.read 0 0),.pure,(.read 0 0)] Cb)
 (.cond (tm 36) (.seq (.sreg Fb [])
 .ret)
 .skip)))))))))
 (.sreg Fa BV))))))))))
 (.sreg E9 BV)))))))
 (.seq (.sreg E8 [])
 .ret))),[(.tmp 2)]⟩
attribute [push_cast] Hz Hy Hx Hw Hv Hu Ht Hs Hr Hq Fh Fg Ff Fe Fd Fc Fb Fa E9 E8
theorem My:bb Tryz.prog (fun _ _=>1) 156=some Gg.raw:=by kernel_rfl
def HJ:LSO:=[Am 2,Ab 3 0]
def HI:LSO:=[Aa 11 0,Al 12 156 11,Aa 4 12]
def HH:LSO:=[Aa 13 4,A7 14 13 0]
def HG:LSO:=[Aa 15 4,Am 2,Aa 3 15]
def HF:LSO:=[Ab 5 0]
def HE:LSO:=[Aa 16 0,Ak 17 16,Ab 18 0]
def HD:LSO:=[Aj 19 18 17]
def HC:LSO:=[Ao 20 1 16 18,Ac 21 1 20,Aa 7 21]
def HB:LSO:=[Aa 22 7,Ak 23 22,Ab 24 0]
def HA:LSO:=[Aj 25 24 23]
def Fs:LSO:=[Ao 26 2 22 24,Au 27 2 26,AT 9,An 2 9 27]
def Fq:LSO:=[Ad 28 1 9,Ac 29 1 28,Ap 30 29,Az 31 30 4096]
def Fp:LSO:=[Am 2,Ab 3 5]
def Fo:LSO:=[Aa 32 5,Ag 33 32 1,Aa 5 33]
def Fn:LSO:=[Ag 34 24 1,Aa 24 34]
def Fm:LSO:=[Ag 35 18 1,Aa 18 35]
def Fl:LSO:=[Aa 36 0,o1 37 (.call 144 [(tm 36),(.av (.bool false))]),Aa 10 37]
def Fk:LSO:=[Aa 38 10,Ap 39 38,Az 40 39 4096]
def Fj:LSO:=[Am 2,Ab 3 5]
def Fi:LSO:=[Aa 41 10,Aa 2 41,Ab 3 0]
def Gh:ba:=⟨42,(.seq (.sreg HJ [])
 (.seq (.seq (.sreg HI BW)
 (.seq (.sreg HH BV)
 (.cond (tm 14) (.seq (.sreg HG Ca)
 .ret)
 .skip)))
 (.seq (.sreg HF [])
 (.seq (.seq (.sreg HE [])
 (.block 0 (.loop (.seq (.sreg HD [])
 (.seq (.cond (tm 19) .skip
 (.exit 0))
 (.seq (.block 1 (.seq (.sreg HC BW)
 (.seq (.sreg HB [])
 (.block 2 (.loop (.seq (.sreg HA [])
 (.seq (.cond (tm 25) .skip
 (.exit 2))
 (.seq (.block 3 (.seq (.sreg Fs BW)
 (.seq (.seq (.sreg Fq BX)
 (.cond (tm 31) (.seq (.sreg Fp [])
 .ret)
 .skip))
 (.sreg Fo BW))))
 (.sreg Fn BV)))))))))
 (.sreg Fm BV)))))))
 (.seq (.sreg Fl BW)
 (.seq (.seq (.sreg Fk BW)
 (.cond (tm 40) (.seq (.sreg Fj [])
 .ret)
 .skip))
 (.seq (.sreg Fi Ca)
 .ret))))))),[(.tmp 2),(.tmp 3)]⟩
attribute [push_cast] HJ HI HH HG HF HE HD HC HB HA Fs Fq Fp Fo Fn Fm Fl Fk Fj Fi
theorem Mz:bb Tryz.prog (fun _ _=>1) 143=some Gh.raw:=by kernel_rfl
def JL:LSO:=[Am 2,Ab 3 0]
def JK:LSO:=[Aa 7 0,Al 8 143 7,Aa 6 8,Ar 9 6,As 10 6,Aa 4 9,Aa 5 10]
def JJ:LSO:=[Aa 11 5,A7 12 11 0]
def JI:LSO:=[Aa 13 5,Am 2,Aa 3 13]
def JH:LSO:=[Aa 14 0,o1 15 (.call 144 [(tm 14),(.av (.bool true))]),Aa 2 15,Ab 3 0]
def Jg:ba:=⟨16,(.seq (.sreg JL [])
 (.seq (.seq (.sreg JK Cb)
 (.seq (.sreg JJ BV)
 (.cond (tm 12) (.seq (.sreg JI Ca)
 .ret)
 .skip)))
 (.seq (.sreg JH Cf)
 .ret))),[(.tmp 2),(.tmp 3)]⟩
attribute [push_cast] JL JK JJ JI JH
theorem NY:bb Tryz.prog (fun _ _=>1) 120=some Jg.raw:=by kernel_rfl
def K6:LSO:=[Am 2,Ab 3 0]
def K5:LSO:=[Aa 7 0,Al 8 119 7,Aa 6 8,Ar 9 6,As 10 6,Aa 4 9,Aa 5 10]
def K4:LSO:=[Aa 11 5,A7 12 11 0]
def K3:LSO:=[Aa 13 5,Am 2,Aa 3 13]
def K2:LSO:=[Aa 14 4,Al 15 120 14,Ar 16 15,As 17 15,Aa 2 16,Aa 3 17]
def L8:ba:=⟨18,(.seq (.sreg K6 [])
 (.seq (.sreg K5 Cd)
 (.seq (.seq (.sreg K4 BV)
 (.cond (tm 12) (.seq (.sreg K3 Ca)
 .ret)
 .skip))
 (.seq (.sreg K2 Cr)
 .ret)))),[(.tmp 2),(.tmp 3)]⟩
attribute [push_cast] K6 K5 K4 K3 K2
theorem Pb:bb Tryz.prog (fun _ _=>1) 87=some L8.raw:=by kernel_rfl
def ci:LSO:=[Ah 4]
def cg:LSO:=[Aa 5 0,Aa 6 1,Ay 7 160 5 6,AS 8 7 0,Aa 4 8]
def bK:ba:=⟨9,(.seq (.sreg ci [])
 (.seq (.sreg cg BY)
 .ret)),[(.tmp 4)]⟩
attribute [push_cast] ci cg
theorem eX:bb Tryz.prog (fun _ _=>1) 152=some bK.raw:=by kernel_rfl
def cF:LSO:=[Ab 4 0]
def cE:LSO:=[Aa 6 0,Ak 7 6,Ab 8 0]
def cD:LSO:=[Aj 9 8 7]
def cC:LSO:=[Aa 10 8,Aa 5 10]
def cB:LSO:=[Aa 11 1,Aa 12 0,Aa 13 5,Ao 14 2 12 13,Au 15 2 14,o1 16 (.callv (tm 11) [(tm 15)])]
def cA:LSO:=[Aa 17 5,Aa 4 17]
def cz:LSO:=[Ag 18 8 1,Aa 8 18]
def cy:LSO:=[Ab 4 (-1)]
def bW:ba:=⟨19,(.seq (.sreg cF [])
 (.seq (.seq (.sreg cE Ca)
 (.block 0 (.loop (.seq (.sreg cD [])
 (.seq (.cond (tm 9) .skip
 (.exit 0))
 (.seq (.block 1 (.seq (.sreg cC BV)
 (.seq (.sreg cB BZ)
 (.cond (tm 16) (.seq (.sreg cA BV)
 .ret)
 .skip))))
 (.sreg cz BV)))))))
 (.seq (.sreg cy [])
 .ret))),[(.tmp 4)]⟩
attribute [push_cast] cF cE cD cC cB cA cz cy
theorem fp:bb Tryz.prog (fun _ _=>1) 160=some bW.raw:=by kernel_rfl
def qF:LSO:=[Am 4,Am 5,Ah 6]
def qE:LSO:=[Aa 7 0,Aa 8 1,Ay 9 62 7 8,Ar 10 9,As 11 9,AX 12 9,Aa 4 10,Aa 5 11,Aa 6 12]
def cm:ba:=⟨13,(.seq (.sreg qF [])
 (.seq (.sreg qE Cq)
 .ret)),[(.tmp 4),(.tmp 5),(.tmp 6)]⟩
attribute [push_cast] qF qE
theorem fo:bb Tryz.prog (fun _ _=>1) 42=some cm.raw:=by kernel_rfl
def eN:LSO:=[Am 4,Am 5,Ah 6]
def eM:LSO:=[Aa 8 0,Aa 9 1,Ay 10 81 8 9,Aa 7 10]
def eL:LSO:=[Aa 11 7,AS 12 11 0]
def eK:LSO:=[Aa 13 0,Aa 14 7,o1 15 (.slS (tm 13) none (some (tm 14))),Aa 16 0,Aa 17 7,Aa 18 1,Ap 19 18,AE 20 17 19,BH 21 16 20,Aa 4 15,Aa 5 21,Aw 6]
def eJ:LSO:=[Aa 22 0,Aa 4 22,Am 5,Ah 6]
def a6:ba:=⟨23,(.seq (.sreg eN [])
 (.seq (.seq (.sreg eM BX)
 (.seq (.sreg eL BV)
 (.cond (tm 12) (.seq (.sdreg eK [.pure,.pure,(.read 0 0),.pure,.pure,.pure,(.read 0 0),.pure,(.read 0 0),.pure] Cx)
 .ret)
 .skip)))
 (.seq (.sreg eJ Cg)
 .ret))),[(.tmp 4),(.tmp 5),(.tmp 6)]⟩
attribute [push_cast] eN eM eL eK eJ
theorem bO:bb Tryz.prog (fun _ _=>1) 62=some a6.raw:=by kernel_rfl
set_option maxHeartbeats 8000000
set_option maxRecDepth 100000
theorem KL {n:Int} (h0 : -2147483648≤n) (h1:n<2147483648):IntKind.i32.wrap n=n:=by
 simp only [IntKind.wrap,IntKind.bits,IntKind.signed]
 simp
 omega
theorem LO {s:List UInt8} {p:Nat} (h:p<s.length) (ha:(s.getD p 0).toNat<128):J7 s p=((s.getD p 0).toNat,1):=by
 have e:s.getD p 0=s[p]:=by simp [h]
 rw [e] at ha ⊢
 exact decode_ascii ⟨⟨s⟩⟩ p h ha
theorem M8 {s:List UInt8} {p:Nat} (h:p<s.length) (ha:128≤(s.getD p 0).toNat):128≤(J7 s p).1:=by
 have e:s.getD p 0=s[p]:=by simp [h]
 rw [e] at ha
 exact (decode_high ⟨⟨s⟩⟩ p h ha).1
def kL (x:Int):Bool:=(decide (97≤x) && decide (x≤122)) || (decide (65≤x) && decide (x≤90))
theorem iH {x:Int} {L:List Blk} {K:AV→List Blk→Prop} (h:K (.bool (kL x)) L):ao Tryz.prog 151 [.int .i32 x] L K:=by
 refine ag L6 (by simp [CR]) ?_
 simp only [CR,aN]
 refine wk ?_
 all_goals (first|refine aa rfl (Kto h ?_)|refine ab (Kto h ?_)|refine aa (by simp only [AV.refs,AV.refsL, *];rfl) (Kto h ?_)|refine aX (aa rfl (Kto h ?_))|(trace_state;fail))
 all_goals (first|(simp [kL, *];done)|(simp [kL, *];omega)|(simp [kL, *];intros;omega)|(simp_all [Hid,kL];done)|(simp_all [Hid,kL];omega))
def IB (x:Int):Bool:=kL x || (decide (48≤x) && decide (x≤57)) || decide (x=45)
def je (s:List UInt8):Bool:=decide (1≤s.length) && decide (s.length≤32) && kL ((s.getD 0 0).toNat:Int) && s.all fun c=>IB (c.toNat:Int)
theorem MF {x:Int} (h:128≤x):IB x=false:=by
 simp only [IB,kL,Bool.or_eq_false_iff,Bool.and_eq_false_iff,decide_eq_false_iff_not]
 omega
theorem Pq {s:List UInt8} {L:List Blk} {K:AV→List Blk→Prop} (h:K (.bool (je s)) L):ao Tryz.prog 140 [.str s] L K:=by
 have no:je s=false→K (.bool false) L:=fun e=>by rw [← e];exact h
 replace no:=hid no
 replace h:=hid h
 refine ag NX (by simp [Jf]) ?_
 simp only [Jf,aN]
 by_cases h0:s=[]
 · subst h0
   refine wk ?_
   exact ab (no.out rfl)
 have hlen:0<s.length:=List.length_pos_iff.2 h0
 by_cases h1:(32:Int)<(s.length:Int)
 · refine wk ?_
   exact ab (no.out (by simp [je];omega))
 obtain ⟨c0,hc0⟩:∃ c,s.getD 0 0=c:=⟨_,rfl⟩
 have hr:=c0.toNat_lt
 have w0:IntKind.i32.wrap (c0.toNat:Int)=(c0.toNat:Int):=KL (by omega) (by omega)
 cases hl0:kL (c0.toNat:Int) with
 | false =>
   have kk1:=@hid _ @iH
   refine wk ?_
   refine ab (no.out ?_)
   simp only [je,hc0,hl0,Bool.and_false,Bool.false_and]
 | true =>
   have kk1:=@hid _ @iH
   refine wk ?_
   refine aI (fun n T' L'=>∃ p,n=s.length - p∧p≤s.length∧Hid (∀ c∈s.take p,IB (c.toNat:Int)=true)∧T'=[(20,.ptr L.length 0)]∧L'=L++[.siter s p]) (CutS (b:=by simp)) ⟨0,rfl,Nat.zero_le _,hid (by simp),rfl,rfl⟩ ?_
   rintro _ _ _ ⟨p,rfl,hp,hall,rfl,rfl⟩
   by_cases hlt:p<s.length
   · obtain ⟨c,hc⟩:∃ c,s.getD p 0=c:=⟨_,rfl⟩
     have hmem:c∈s:=by rw [← hc];simp [hlt]
     have htk:s.take (p+1)=s.take p++[c]:=by rw [List.take_succ_eq_append_getElem hlt,← hc];simp [hlt]
     replace htk:=hid htk
     have bad:IB (c.toNat:Int)=false→K (.bool false) L:=fun e=>no.out (by
       have:(s.all fun c=>IB (c.toNat:Int))=false:=List.all_eq_false.2 ⟨c,hmem,by rw [e];simp⟩
       simp only [je,this,Bool.and_false])
     replace bad:=hid bad
     by_cases ha:c.toNat<128
     · have hd:=LO hlt (by rw [hc];exact ha)
       rw [hc] at hd
       obtain ⟨x,hx⟩:∃ x:Nat,c.toNat=x:=⟨_,rfl⟩
       rw [hx] at hd bad
       have hx':=hid hx
       clear hx hc hmem ha hr w0
       cases hxl:kL (x:Int) with
       | true =>
         have kk1:=@hid _ @iH
         refine wk ?_
         refine az _ _ _ (by omega) (CutS (b:=by simp)) ⟨p+1,rfl,hlt,hid fun d hd'=>?_,rfl,rfl⟩
         rw [htk.out] at hd'
         rcases List.mem_append.1 hd' with h|h
         · exact hall.out d h
         · rw [List.mem_singleton.1 h,hx'.out,IB,hxl];rfl
       | false =>
         repeat' first
           | refine aT ?_
           | (first|refine aG (by kernel_rfl) ?_|refine ap (by kernel_rfl) ?_|refine aq ?_|refine aZ ?_|refine aO (fun _=>?_)|refine aj ?_|refine aK ?_|refine iH ?_|refine aL (iH ⟨rfl,rfl⟩) (iH ⟨rfl,rfl⟩) ?_|refine aB (iH ⟨rfl,rfl⟩) ?_)
             refine sm ?_
           | (first|refine aC (by kernel_rfl) ?_|refine aH ?_|refine aJ ?_|refine aU (ai ?_))
             refine sl ?_
           | exact aP
           | first|apply aQ|apply aD|apply aR|apply aE|apply aS|apply aF
           | refine aw ?_
           | first|refine ar rfl ?_|refine au rfl ?_|refine af rfl ?_ ?_|refine ay rfl (fun _=>?_) (fun _=>?_)|refine ax rfl (fun _=>?_) (fun _=>?_)
           | ((first|refine ae (fun _=>?_) (fun _=>?_)|refine ah (fun _=>?_) (fun _=>?_))<;>try refine sm ?_)
           | refine And.intro trivial ?_
           | refine And.intro (by omega) ?_
           | refine aA rfl (fun _=>?_) (fun _=>?_)
           | refine And.intro ?_ ?_
         · rename_i hb
           refine aa rfl (bad.out ?_)
           simp only [IB,hxl,Bool.false_or,Bool.or_eq_false_iff,Bool.and_eq_false_iff,decide_eq_false_iff_not]
           omega
         · rename_i hb
           refine az _ _ _ (by omega) (CutS (b:=by simp)) ⟨p+1,rfl,hlt,hid fun d hd'=>?_,rfl,rfl⟩
           rw [htk.out] at hd'
           rcases List.mem_append.1 hd' with h|h
           · exact hall.out d h
           · rw [List.mem_singleton.1 h,hx'.out]
             simp only [IB,hxl,Bool.false_or,Bool.or_eq_true,Bool.and_eq_true,decide_eq_true_eq]
             omega
     · have hh:=M8 hlt (by rw [hc];omega)
       obtain ⟨⟨x,wd⟩,hd⟩:∃ q,J7 s p=q:=⟨_,rfl⟩
       rw [hd] at hh
       simp only at hh
       have bad':=hid (bad.out (MF (show (128:Int)≤(c.toNat:Int) by omega)))
       have hxl:kL (x:Int)=false:=by
         have:=MF (show (128:Int)≤(x:Int) by omega)
         simp only [IB,Bool.or_eq_false_iff] at this
         exact this.1.1
       have f1:¬ (x:Int)<48:=by omega
       have f2:(57:Int)<(x:Int):=by omega
       have f3:¬ (x:Int)=45:=by omega
       clear hc hmem hr w0
       have kk1:=@hid _ @iH
       refine wk ?_
       exact aa rfl bad'.out
   · have hke:p=s.length:=by omega
     subst hke
     have h':=h.out
     have e:je s=true:=by
       have e1:(s.all fun c=>IB (c.toNat:Int))=true:=List.all_eq_true.2 fun c hcm=>hall.out c (by rw [List.take_length];exact hcm)
       simp only [je,e1,hc0,hl0,Bool.and_true]
       simp;omega
     rw [e] at h'
     replace h':=hid h'
     clear e
     refine wk ?_
     exact aa rfl h'.out
variable {L:List Blk} {K:AV→List Blk→Prop}
abbrev Ava:=List UInt8×List UInt8
def jN (a:Ava):List AV:=[.str a.1,.str a.2]
def a7 (r:List Ava):List AV:=r.flatMap jN
abbrev Pu (r:List Ava) (cap:Option Nat):AV:=.sl (a7 r) r.length cap
def iZ (r:List Ava) (typ:List UInt8):Bool:=r.any fun a=>decide (ak a.1=ak typ)
theorem Wl {a:Ava} {typ:List UInt8} {ip:Nat} (h1:(a.1.length:Int)≤100000) (h2:(typ.length:Int)≤100000) (hL:L[ip]?=some (.cells [.str typ])) (h:K (.bool (decide (ak a.1=ak typ))) L) :
   ao Tryz.prog 153 [.agg (jN a),.ptr ip 0] L K:=by
 obtain ⟨t,v⟩:=a
 replace h:=hid h
 have hip:ip<L.length:=(List.getElem?_eq_some_iff.1 hL).1
 have g1:(L++[Blk.cells [.str t,.str v]])[ip]?=some (.cells [.str typ]):=by rw [List.getElem?_append_left hip];exact hL
 simp only [jN]
 refine ag Mx (by simp [Gf]) ?_
 simp only [Gf,aN]
 have kk1:=@hid _ (fun L K=>CF h1 (L:=L) (K:=K))
 have kk2:=@hid _ (fun L K=>CF h2 (L:=L) (K:=K))
 refine wk ?_
 exact aa rfl h.out
theorem cX (r:List Ava):(a7 r).length=r.length * 2:=by
 induction r with
 | nil=>rfl
 | cons a r ih=>simp only [a7,List.flatMap_cons,List.length_append,jN,List.length_cons,List.length_nil] at ih ⊢;omega
theorem fi:∀ {r:List Ava} {k:Nat},k<r.length→((a7 r).drop (k * 2)).take 2=jN (r.getD k ([],[]))
 | a::r,0,_=>rfl
 | a::r,k+1,h=>by
   have ih:=@fi r k (by simpa using h)
   rw [show (k+1) * 2=k * 2+1+1 by omega]
   simpa [a7,jN] using ih
theorem Tx {r:List Ava} {typ:List UInt8} {cap:Option Nat} {ip:Nat} (hn:r.length≤100000) (h1:∀ a∈r,(a.1.length:Int)≤100000) (h2:(typ.length:Int)≤100000) (hL:L[ip]?=some (.cells [.str typ]))
   (hno:iZ r typ=false→K (.int .i64 (-1)) L) (hyes:∀ k:Nat,iZ r typ=true→K (.int .i64 k) L):ao Tryz.prog 160 [Pu r cap,.func 153 [.ptr ip 0]] L K:=by
 replace hno:=hid hno
 replace hyes:=hid hyes
 replace h1:=hid h1
 refine ag fp (by simp [bW]) ?_
 simp only [bW,aN]
 refine wk ?_
 refine aI (fun n T' L'=>∃ (k:Nat),n=r.length - k∧k≤r.length∧Hid (iZ (r.take k) typ=false)∧T'=[(8,.int .i64 (k:Int)),(7,.int .i64 r.length),(0,Pu r cap),(1,.func 153 [.ptr ip 0])]∧L=L') (CutS (b:=Nat.le_refl _)) ⟨0,rfl,Nat.zero_le _,hid rfl,rfl,rfl⟩ ?_
 rintro _ _ _ ⟨k,rfl,hk,hf,rfl,rfl⟩
 by_cases hlt:k<r.length
 · have g1:(k:Int)<(r.length:Int):=by omega
   have g2:IntKind.i64.wrap ((k:Int)+1)=(k:Int)+1:=ac (by omega) (by omega)
   have e1:=fi hlt
   have e2:k * 2+2≤(a7 r).length:=by rw [cX];omega
   obtain ⟨a,ha⟩:∃ a,r.getD k ([],[])=a:=⟨_,rfl⟩
   have ham:a∈r:=by rw [← ha];simp [hlt]
   have htk:r.take (k+1)=r.take k++[a]:=by rw [List.take_succ_eq_append_getElem hlt,← ha];simp [hlt]
   rw [ha] at e1
   have hs:iZ (r.take (k+1)) typ=decide (ak a.1=ak typ):=by
     have:=hf.out
     simp only [iZ] at this ⊢
     rw [htk,List.any_append,this];simp
   have hall:decide (ak a.1=ak typ)=true→iZ r typ=true:=fun e=>List.any_eq_true.2 ⟨a,ham,e⟩
   replace hall:=hid hall
   replace hs:=hid hs
   replace htk:=hid htk
   have ha1:=hid (h1.out a ham)
   clear ha ham
   refine wk ?_
   refine Wl ha1.out h2 hL ?_
   refine sk ?_
   cases hd:decide (ak a.1=ak typ) with
   | true =>
     have hy:=hid (hyes.out k (hall.out hd))
     replace hd:=hid hd
     refine wk ?_
     exact ab hy.out
   | false =>
     replace hd:=hid hd
     refine wk ?_
     exact az _ _ _ (by omega) (CutS (b:=Nat.le_refl _)) ⟨k+1,rfl,hlt,hid (by rw [hs.out,hd.out]),rfl,rfl⟩
 · have hke:k=r.length:=by omega
   subst hke
   have g1:¬ (r.length:Int)<(r.length:Int):=by omega
   have hn':=hf.out
   rw [List.take_length] at hn'
   have hy:=hid (hno.out hn')
   clear hn'
   refine wk ?_
   exact ab hy.out
theorem O8 {r:List Ava} {typ:List UInt8} {cap:Option Nat} {ip:Nat} (hn:r.length≤100000) (h1:∀ a∈r,(a.1.length:Int)≤100000) (h2:(typ.length:Int)≤100000) (hL:L[ip]?=some (.cells [.str typ])) (h:K (.bool (iZ r typ)) L) :
   ao Tryz.prog 152 [Pu r cap,.func 153 [.ptr ip 0]] L K:=by
 replace h:=hid h
 refine ag eX (by simp [bK]) ?_
 simp only [bK,aN]
 refine wk ?_
 refine Tx hn h1 h2 hL (fun e=>?_) (fun k e=>?_)
 · have h':=h.out
   rw [e] at h'
   replace h':=hid h'
   refine sk ?_
   refine wk ?_
   exact ab h'.out
 · have h':=h.out
   rw [e] at h'
   replace h':=hid h'
   have g:(0:Int)≤(k:Int):=by omega
   refine sk ?_
   refine wk ?_
   exact ab h'.out
theorem VP {r:List Ava} {typ:List UInt8} {cap:Option Nat} (hn:r.length≤100000) (h1:∀ a∈r,(a.1.length:Int)≤100000) (h2:(typ.length:Int)≤100000) (h:K (.bool (iZ r typ)) L) :
   ao Tryz.prog 141 [Pu r cap,.str typ] L K:=by
 replace h:=hid h
 refine ag Pa (by simp [L7]) ?_
 simp only [L7,aN]
 refine wk ?_
 refine O8 hn h1 h2 (by simp) ?_
 refine sk ?_
 refine wk ?_
 exact aa rfl h.out
theorem eQ {a:List UInt8} {c:UInt8} {L:List Blk} {K:AV→List Blk→Prop} (h:K (.int .i64 (Lib.indexByte a c)) L):ao Tryz.prog 154 [.str a,.int .u8 c.toNat] L K :=
 dd Tryz.func154 rfl (by kernel_rfl) (fun w0 S0 E w vs hR hv=>by
   simp only [VRL,VR] at hv
   obtain ⟨_,_,rfl,rfl,_,_,rfl,rfl,rfl⟩:=hv
   exact (Tryz.strings_IndexByte ⟨⟨a⟩⟩ c.toNat w).mono fun e w' ⟨he,hw⟩=>⟨_,he,by simp [VR],by subst hw;exact Dv.refl _⟩) h
theorem i8 (a:List UInt8) (c:UInt8):(0≤Lib.indexByte a c)↔c∈a:=by
 induction a with
 | nil=>simp [Lib.indexByte]
 | cons b l ih =>
   have hge:=Lib.indexByte_ge l c
   unfold Lib.indexByte
   by_cases hb:b=c
   · simp [hb]
   · have e1:(b == c)=false:=by simpa using hb
     rw [e1]
     simp only [Bool.false_eq_true,if_false]
     have e2:c∈b::l↔c∈l:=by simp [Ne.symm hb]
     rw [e2,← ih]
     split
     · rename_i h;simp at h;omega
     · rename_i h;simp at h;omega
theorem bf (c d:UInt8):(c.toNat:Int)=(d.toNat:Int)↔c=d:=by
 constructor
 · intro h
   exact UInt8.toNat_inj.1 (by omega)
 · rintro rfl;rfl
def wrB (i n:Nat) (c:UInt8):List UInt8 :=
 if c=0 then [92,48,48] else if (i=0∧(c=32∨c=35))∨(i+1=n∧c=32)∨c∈[34,43,44,59,60,62,92] then [92,c] else [c]
def wrL (n:Nat):Nat→List UInt8→List UInt8
 | _,[]=>[]
 | i,c::s=>wrB i n c++wrL n (i+1) s
def gu (s:List UInt8):List UInt8:=wrL s.length 0 s
theorem UF (i n:Nat) (c:UInt8):(wrB i n c).length≤3:=by
 unfold wrB;split
 · simp
 · split<;>simp
theorem eU {s:List UInt8} (hs:s.length≤100000) (h:K (.str (gu s)) L):ao Tryz.prog 157 [.str s] L K:=by
 replace h:=hid h
 have g0:IntKind.i64.wrap ((s.length:Int) - 1)=(s.length:Int) - 1:=ac (by omega) (by omega)
 refine ag Kr (by simp [qp]) ?_
 simp only [qp,aN]
 refine wk ?_
 refine cM (l:=[]) (n:=0) 3 1 rfl (Nat.zero_mul 1).symm ?_
 refine aI (fun n T' L'=>∃ (i m:Nat) (b:List UInt8),n=s.length - i∧i≤s.length∧m≤3 * i∧Hid (m=b.length∧b++wrL s.length i (s.drop i)=gu s)∧T'=[(10,.int .i64 (i:Int)),(9,.int .i64 s.length),(8,.sl (u8s s) s.length none),(3,.gsl (u8s b) m L.length 1),(0,.str s)]∧L'=L++[.spare m 1]) (CutS (b:=by simp)) ⟨0,0,[],rfl,Nat.zero_le _,by omega,hid ⟨rfl,rfl⟩,rfl,rfl⟩ ?_
 rintro _ _ _ ⟨i,m,b,rfl,hi,hm,hb,rfl,rfl⟩
 by_cases hlt:i<s.length
 · have g1:(i:Int)<(s.length:Int):=by omega
   have g2:IntKind.i64.wrap ((i:Int)+1)=(i:Int)+1:=ac (by omega) (by omega)
   obtain ⟨c,hc⟩:∃ c,s.getD i 0=c:=⟨_,rfl⟩
   have g3:(u8s s).getD i .undef=.int .u8 c.toNat:=by rw [← hc];simp [u8s,hlt]
   have hdr:s.drop i=c::s.drop (i+1):=by rw [List.drop_eq_getElem_cons hlt,← hc];simp [hlt]
   have hb2:=hb.out.2
   rw [hdr] at hb2
   simp only [wrL] at hb2
   have g4:=fU
   have g5:(u8s s).length=s.length:=by simp [u8s]
   clear hc hdr
   replace hb2:=hid hb2
   repeat' first
     | refine aT ?_
     | (first|refine aG (by kernel_rfl) ?_|refine ap (by kernel_rfl) ?_|refine aq ?_|refine aZ ?_|refine aO (fun _=>?_)|refine aj ?_|refine aK ?_|refine eQ ?_|refine aL (eQ ⟨rfl,rfl⟩) (eQ ⟨rfl,rfl⟩) ?_|refine aB (eQ ⟨rfl,rfl⟩) ?_)
       refine sm ?_
     | (first|refine aC (by kernel_rfl) ?_|refine aH ?_|refine aJ ?_|refine aU (ai ?_))
       refine sl ?_
     | exact aP
     | first|apply aQ|apply aD|apply aR|apply aE|apply aS|apply aF
     | refine aw ?_
     | first|refine ar rfl ?_|refine au rfl ?_|refine af rfl ?_ ?_|refine ay rfl (fun _=>?_) (fun _=>?_)|refine ax rfl (fun _=>?_) (fun _=>?_)
     | ((first|refine ae (fun _=>?_) (fun _=>?_)|refine ah (fun _=>?_) (fun _=>?_))<;>try refine sm ?_)
     | refine And.intro trivial ?_
     | refine And.intro (by omega) ?_
     | refine aA rfl (fun _=>?_) (fun _=>?_)
     | refine And.intro ?_ ?_
   · rfl
   · omega
   · rename_i h0
     have hc0:=(bf c 0).1 h0
     rw [show u8s b++AV.frzL (u8s [92,48,48])=u8s (b++[92,48,48]) by simp [u8s,AV.frzL,AV.frz]]
     refine az _ _ _ (by omega) (CutL (b:=by simp)) ⟨i+1,m+3,b++[92,48,48],rfl,hlt,by omega,hid ⟨by simp [hb.out.1],?_⟩,rfl,rfl⟩
     rw [← hb2.out,wrB,if_pos hc0,List.append_assoc]
   · rename_i h0 h1
     have hc0:¬ c=0:=fun e=>h0 ((bf c 0).2 e)
     have hq:(i=0∧(c=32∨c=35))∨(i+1=s.length∧c=32)∨c∈[34,43,44,59,60,62,92]:=by
       rcases h1 with (⟨e1,e2⟩|⟨e1,e2⟩)|e
       · exact .inl ⟨by omega,e2.imp (bf c 32).1 (bf c 35).1⟩
       · exact .inr (.inl ⟨by omega,(bf c 32).1 e2⟩)
       · exact .inr (.inr ((i8 _ _).1 e))
     rw [show u8s b++[AV.int IntKind.u8 92,AV.int IntKind.u8 (c.toNat:Int)]=u8s (b++[92,c]) by simp [u8s]]
     refine az _ _ _ (by omega) (CutL (b:=by simp)) ⟨i+1,m+1+1,b++[92,c],rfl,hlt,by omega,hid ⟨by simp [hb.out.1],?_⟩,rfl,rfl⟩
     rw [← hb2.out,wrB,if_neg hc0,if_pos hq,List.append_assoc]
   · rename_i h0 h1
     have hc0:¬ c=0:=fun e=>h0 ((bf c 0).2 e)
     have hq:¬ ((i=0∧(c=32∨c=35))∨(i+1=s.length∧c=32)∨c∈[34,43,44,59,60,62,92]):=fun hq=>h1 (by
       rcases hq with ⟨e1,e2⟩|⟨e1,e2⟩|e
       · exact .inl (.inl ⟨by omega,e2.imp (bf c 32).2 (bf c 35).2⟩)
       · exact .inl (.inr ⟨by omega,(bf c 32).2 e2⟩)
       · exact .inr ((i8 _ _).2 e))
     rw [show u8s b++[AV.int IntKind.u8 (c.toNat:Int)]=u8s (b++[c]) by simp [u8s]]
     refine az _ _ _ (by omega) (CutL (b:=by simp)) ⟨i+1,m+1,b++[c],rfl,hlt,by omega,hid ⟨by simp [hb.out.1],?_⟩,rfl,rfl⟩
     rw [← hb2.out,wrB,if_neg hc0,if_neg hq,List.append_assoc]
 · have hke:i=s.length:=by omega
   subst hke
   have g1:¬ (s.length:Int)<(s.length:Int):=by omega
   have e1:=fU b
   have e2:=fD b
   have e:=hb.out.2
   rw [List.drop_length,wrL,List.append_nil] at e
   have h':=h.out
   rw [← e] at h'
   replace h':=hid h'
   clear e
   refine wk ?_
   exact aa rfl h'.out
abbrev jg:List UInt8:=[34,43,44,59,60,62,92,32,35,61]
def fR:List UInt8→Bool→List UInt8→Option (List UInt8×List UInt8×Bool)
 | b,bl,[]=>some (b,[], !bl)
 | b,bl,c::s=>if c=44∨c=43 then some (b,c::s, !bl)
   else if c≠92 then (if c=0∨c∈([34,59,60,62]:List UInt8)∨(b=[]∧(c=32∨c=35)) then none else fR (b++[c]) (decide (c=32)) s)
   else match s with
     | []=>none
     | d::s1=>if d∈jg then fR (b++[d]) false s1 else match s1 with
       | []=>none
       | e::s2=>match H6 d e with
         | none=>none
         | some x=>fR (b++[x]) false s2
def Q4 (o:Option (List UInt8×List UInt8×Bool)):AV:=match o with
 | none=>.tup [.str [],.str [],.bool false]
 | some (v,r,f)=>.tup [.str v,.str r,.bool f]
theorem jc {b:List UInt8} {bl:Bool}:fR b bl []=some (b,[], !bl):=by rw [fR.eq_def]
theorem lq {b:List UInt8} {bl:Bool} {c:UInt8} {s:List UInt8} (h:c=44∨c=43):fR b bl (c::s)=some (b,c::s, !bl):=by rw [fR.eq_def];simp only [if_pos h]
theorem jb {b:List UInt8} {bl:Bool} {c:UInt8} {s:List UInt8} (h:¬ (c=44∨c=43)) (h2:c≠92):fR b bl (c::s)=if c=0∨c∈([34,59,60,62]:List UInt8)∨(b=[]∧(c=32∨c=35)) then none else fR (b++[c]) (decide (c=32)) s:=by
 rw [fR.eq_def];simp only [if_neg h,if_pos h2]
theorem C2 {b:List UInt8} {bl:Bool}:fR b bl [92]=none:=by rw [fR.eq_def];rfl
theorem C0 {b:List UInt8} {bl:Bool} {d:UInt8} {s:List UInt8} (h:d∈jg):fR b bl (92::d::s)=fR (b++[d]) false s:=by
 rw [fR.eq_def]
 simp only [show ¬ ((92:UInt8)=44∨(92:UInt8)=43) by decide,if_false,ne_eq,not_true_eq_false,if_pos h]
theorem CZ {b:List UInt8} {bl:Bool} {d:UInt8} (h:¬ d∈jg):fR b bl [92,d]=none:=by
 rw [fR.eq_def]
 simp only [show ¬ ((92:UInt8)=44∨(92:UInt8)=43) by decide,if_false,ne_eq,not_true_eq_false,if_neg h]
theorem Gp {b:List UInt8} {bl:Bool} {d e:UInt8} {s:List UInt8} (h:¬ d∈jg):fR b bl (92::d::e::s)=match H6 d e with|none=>none|some x=>fR (b++[x]) false s:=by
 rw [fR.eq_def]
 simp only [show ¬ ((92:UInt8)=44∨(92:UInt8)=43) by decide,if_false,ne_eq,not_true_eq_false,if_neg h]
theorem gQ {s:List UInt8} {i:Nat} (h:i<s.length):s.drop i=s.getD i 0::s.drop (i+1):=by
 rw [List.drop_eq_getElem_cons h];simp [h]
theorem UG {s:List UInt8} (hs:s.length≤100000) (h:K (Q4 (fR [] false s)) L):ao Tryz.prog 142 [.str s] L K:=by
 replace h:=hid h
 refine ag Mw (by simp [Ge]) ?_
 simp only [Ge,aN]
 refine wk ?_
 refine cM (l:=[]) (n:=0) 5 1 rfl (Nat.zero_mul 1).symm ?_
 refine aI (fun n T' L'=>∃ (i m:Nat) (b:List UInt8) (bl:Bool),n=s.length - i∧i≤s.length∧m≤i∧Hid (m=b.length∧fR b bl (s.drop i)=fR [] false s)∧T'=[(7,.int .i64 (i:Int)),(6,.bool bl),(5,.gsl (u8s b) m L.length 1),(0,.str s)]∧L'=L++[.spare m 1]) (CutS (b:=by simp)) ⟨0,0,[],false,rfl,Nat.zero_le _,by omega,hid ⟨rfl,rfl⟩,rfl,rfl⟩ ?_
 rintro _ _ _ ⟨i,m,b,bl,rfl,hi,hm,hb,rfl,rfl⟩
 have e1:=fU b
 have e2:=fD b
 by_cases hlt:i<s.length
 · have g1:(i:Int)<(s.length:Int):=by omega
   have g2:IntKind.i64.wrap ((i:Int)+1)=(i:Int)+1:=ac (by omega) (by omega)
   obtain ⟨c,hc⟩:∃ c,s.getD i 0=c:=⟨_,rfl⟩
   have hdr:=gQ hlt
   rw [hc] at hdr
   have hb2:=hb.out.2
   rw [hdr] at hb2
   have hds:(s.drop i).take (s.length - i)=s.drop i:=List.take_of_length_le (by simp)
   have hl1:(i:Int)≤(s.length:Int):=by omega
   by_cases hcc:c=44∨c=43
   · rw [lq hcc] at hb2
     have h':=h.out
     rw [← hb2] at h'
     simp only [Q4] at h'
     rw [← hdr] at h'
     replace h':=hid h'
     have k1:((c.toNat:Int)=44)∨((c.toNat:Int)=43):=hcc.imp (bf c 44).2 (bf c 43).2
     clear hb2 hcc hdr
     rcases k1 with k1|k1
     · refine wk ?_
       exact aa rfl h'.out
     · refine wk ?_
       exact aa rfl h'.out
   · have k1:¬ (c.toNat:Int)=44:=fun e=>hcc (.inl ((bf c 44).1 e))
     have k2:¬ (c.toNat:Int)=43:=fun e=>hcc (.inr ((bf c 43).1 e))
     by_cases h92:c=92
     · subst h92
       have g3:IntKind.i64.wrap ((i:Int)+2)=(i:Int)+2:=ac (by omega) (by omega)
       have g4:IntKind.i64.wrap ((i:Int)+3)=(i:Int)+3:=ac (by omega) (by omega)
       have g5:IntKind.i64.wrap ((i:Int)+1+1)=(i:Int)+1+1:=ac (by omega) (by omega)
       have g6:IntKind.i64.wrap ((i:Int)+2+1)=(i:Int)+2+1:=ac (by omega) (by omega)
       have t1:((i:Int)+1).toNat=i+1:=by omega
       have t3:((i:Int)+3).toNat=i+3:=by omega
       by_cases h1:i+1<s.length
       · have f1:(i:Int)+1<(s.length:Int):=by omega
         obtain ⟨d,hd⟩:∃ d,s.getD (i+1) 0=d:=⟨_,rfl⟩
         have hdr1:=gQ h1
         rw [hd] at hdr1
         rw [hdr1] at hb2
         by_cases hsp:d∈jg
         · rw [C0 hsp] at hb2
           have f2:=(i8 jg d).2 hsp
           clear hdr hdr1
           replace hb2:=hid hb2
           have kk1:=@hid _ @eQ
           refine wk ?_
           rw [show u8s b++[AV.int IntKind.u8 (d.toNat:Int)]=u8s (b++[d]) by simp [u8s],show decide (((UInt8.toNat 92:Nat):Int)=32)=false from rfl]
           refine az _ _ _ (by omega) (CutL (b:=by simp)) ⟨i+1+1,m+1,b++[d],false,rfl,h1,by omega,hid ⟨by simp [hb.out.1],hb2.out⟩,rfl,rfl⟩
         · have f2:¬ 0≤Lib.indexByte jg d:=fun e=>hsp ((i8 jg d).1 e)
           by_cases h2:i+2<s.length
           · have f3:(i:Int)+2<(s.length:Int):=by omega
             have f4:(i:Int)+1≤(i:Int)+3:=by omega
             have f5:(i:Int)+3≤(s.length:Int):=by omega
             have f6:(0:Int)≤(i:Int)+1:=by omega
             obtain ⟨e,he⟩:∃ e,s.getD (i+2) 0=e:=⟨_,rfl⟩
             have hdr2:=gQ h2
             rw [he] at hdr2
             rw [hdr2,Gp hsp] at hb2
             have hcut:(s.drop (i+1)).take (i+3 - (i+1))=[d,e]:=by
               rw [hdr1,hdr2,show i+3 - (i+1)=2 by omega];rfl
             clear hdr hdr1 hdr2
             replace hb2:=hid hb2
             have kk1:=@hid _ @eQ
             refine wk ?_
             refine Ss ?_
             rcases hx:H6 d e with _|x
             · rw [show FY d e=.tup [.str [],.bool false] by simp only [FY,hx]]
               have h':=h.out
               rw [← hb2.out,hx] at h'
               simp only [Q4] at h'
               replace h':=hid h'
               clear hx
               refine sk ?_
               refine wk ?_
               exact aa rfl h'.out
             · rw [show FY d e=.tup [.str [x],.bool true] by simp only [FY,hx]]
               have hb3:=hb2.out
               rw [hx] at hb3
               simp only at hb3
               replace hb3:=hid hb3
               have q1:[x].getD 0 0=x:=rfl
               clear hx hb2
               refine sk ?_
               refine wk ?_
               rw [show u8s b++[AV.int IntKind.u8 (x.toNat:Int)]=u8s (b++[x]) by simp [u8s],show decide (((UInt8.toNat 92:Nat):Int)=32)=false from rfl]
               refine az _ _ _ (by omega) (CutL (b:=by simp)) ⟨i+2+1,m+1,b++[x],false,rfl,h2,by omega,hid ⟨by simp [hb.out.1],hb3.out⟩,rfl,rfl⟩
           · have f3:¬ (i:Int)+2<(s.length:Int):=by omega
             have hnil:s.drop (i+1+1)=[]:=List.drop_eq_nil_of_le (by omega)
             rw [hnil,CZ hsp] at hb2
             have h':=h.out
             rw [← hb2] at h'
             replace h':=hid h'
             clear hdr hdr1 hb2
             have kk1:=@hid _ @eQ
             refine wk ?_
             exact aa rfl h'.out
       · have f1:¬ (i:Int)+1<(s.length:Int):=by omega
         have f3:¬ (i:Int)+2<(s.length:Int):=by omega
         have hnil:s.drop (i+1)=[]:=List.drop_eq_nil_of_le (by omega)
         rw [hnil,C2] at hb2
         have h':=h.out
         rw [← hb2] at h'
         replace h':=hid h'
         clear hdr hb2
         have kk1:=@hid _ @eQ
         refine wk ?_
         exact aa rfl h'.out
     · rw [jb hcc h92] at hb2
       have k3:¬ (c.toNat:Int)=92:=fun e=>h92 ((bf c 92).1 e)
       clear hdr
       replace hb2:=hid hb2
       repeat' first
         | refine aT ?_
         | (first|refine aG (by kernel_rfl) ?_|refine ap (by kernel_rfl) ?_|refine aq ?_|refine aZ ?_|refine aO (fun _=>?_)|refine aj ?_|refine aK ?_|refine eQ ?_|refine aL (eQ ⟨rfl,rfl⟩) (eQ ⟨rfl,rfl⟩) ?_|refine aB (eQ ⟨rfl,rfl⟩) ?_)
           refine sm ?_
         | (first|refine aC (by kernel_rfl) ?_|refine aH ?_|refine aJ ?_|refine aU (ai ?_))
           refine sl ?_
         | exact aP
         | first|apply aQ|apply aD|apply aR|apply aE|apply aS|apply aF
         | refine aw ?_
         | first|refine ar rfl ?_|refine au rfl ?_|refine af rfl ?_ ?_|refine ay rfl (fun _=>?_) (fun _=>?_)|refine ax rfl (fun _=>?_) (fun _=>?_)
         | ((first|refine ae (fun _=>?_) (fun _=>?_)|refine ah (fun _=>?_) (fun _=>?_))<;>try refine sm ?_)
         | refine And.intro trivial ?_
         | refine And.intro (by omega) ?_
         | refine aA rfl (fun _=>?_) (fun _=>?_)
         | refine And.intro ?_ ?_
       · rename_i hx
         have hbad:c=0∨c∈([34,59,60,62]:List UInt8)∨(b=[]∧(c=32∨c=35)):=by
           rcases hx with (e|e)|⟨e,e'⟩
           · exact .inl ((bf c 0).1 e)
           · exact .inr (.inl ((i8 _ _).1 e))
           · refine .inr (.inr ⟨List.length_eq_zero_iff.1 ?_,e'.imp (bf c 32).1 (bf c 35).1⟩)
             have:=hb.out.1;omega
         have h':=h.out
         rw [← hb2.out,if_pos hbad] at h'
         exact aa rfl h'
       · rename_i hx
         have hbad:¬ (c=0∨c∈([34,59,60,62]:List UInt8)∨(b=[]∧(c=32∨c=35))):=fun e=>hx (by
           rcases e with e|e|⟨e,e'⟩
           · exact .inl (.inl ((bf c 0).2 e))
           · exact .inl (.inr ((i8 _ _).2 e))
           · refine .inr ⟨?_,e'.imp (bf c 32).2 (bf c 35).2⟩
             have:=hb.out.1;rw [e] at this;simp at this;omega)
         have hc32:decide ((c.toNat:Int)=32)=decide (c=32):=by
           have:=bf c 32
           simp only [decide_eq_decide];exact this
         rw [show u8s b++[AV.int IntKind.u8 (c.toNat:Int)]=u8s (b++[c]) by simp [u8s],hc32]
         refine az _ _ _ (by omega) (CutL (b:=by simp)) ⟨i+1,m+1,b++[c],decide (c=32),rfl,hlt,by omega,hid ⟨by simp [hb.out.1],?_⟩,rfl,rfl⟩
         rw [← hb2.out,if_neg hbad]
 · have hke:i=s.length:=by omega
   subst hke
   have g1:¬ (s.length:Int)<(s.length:Int):=by omega
   have h':=h.out
   rw [← hb.out.2,List.drop_length,jc] at h'
   simp only [Q4] at h'
   replace h':=hid h'
   have hds:(s.drop s.length).take (s.length - s.length)=[]:=by simp
   refine wk ?_
   exact aa rfl h'.out
def iK:List UInt8→Option (List UInt8×List UInt8)
 | []=>none
 | c::s=>if c=61 then some ([],s) else match iK s with
   | none=>none
   | some (a,b)=>some (c::a,b)
theorem LQ:∀ s:List UInt8,(Lib.indexByte s 61=-1∧iK s=none)∨∃ n:Nat,n<s.length∧Lib.indexByte s 61=(n:Int)∧iK s=some (s.take n,s.drop (n+1))
 | []=>.inl ⟨rfl,rfl⟩
 | c::s=>by
   by_cases hc:c=61
   · subst hc
     exact .inr ⟨0,by simp,by simp [Lib.indexByte],by simp [iK]⟩
   · have e1:(c == 61)=false:=by simpa using hc
     unfold Lib.indexByte
     rw [e1]
     simp only [Bool.false_eq_true,if_false,iK,if_neg hc]
     rcases LQ s with ⟨h1,h2⟩|⟨n,h0,h1,h2⟩
     · exact .inl ⟨by rw [h1];rfl,by rw [h2]⟩
     · refine .inr ⟨n+1,by simp;omega,?_,by rw [h2];simp⟩
       rw [h1]
       have:((n:Int) == -1)=false:=by simp
       rw [this];simp
def LP (s:List UInt8):AV:=match iK s with
 | some (a,b)=>.tup [.str a,.str b,.bool true]
 | none=>.tup [.str s,.str [],.bool false]
theorem H5 {a:List UInt8} {c:UInt8} {L:List Blk} {K:AV→List Blk→Prop} (h:K (.int .i64 (Lib.indexByte a c)) L):ao Tryz.prog 81 [.str a,.str [c]] L K :=
 dd Tryz.func81 rfl (by kernel_rfl) (fun w0 S0 E w vs hR hv=>by
   simp only [VRL,VR] at hv
   obtain ⟨_,_,rfl,rfl,_,_,rfl,rfl,rfl⟩:=hv
   exact (Tryz.stringslite_Index_one ⟨⟨a⟩⟩ c w).mono fun e w' ⟨he,hw⟩=>⟨_,he,by simp [VR],by subst hw;exact Dv.refl _⟩) h
theorem TX {s:List UInt8} (hs:s.length≤100000) (h:K (LP s) L):ao Tryz.prog 62 [.str s,.str [61]] L K:=by
 have hl:[(61:UInt8)].length=1:=rfl
 rcases LQ s with ⟨h1,h2⟩|⟨n,h0,h1,h2⟩
 · simp only [LP,h2] at h
   replace h:=hid h
   clear h2
   refine ag bO (by simp [a6]) ?_
   simp only [a6,aN]
   have kk1:=@hid _ @H5
   refine wk ?_
   exact ab h.out
 · simp only [LP,h2] at h
   replace h:=hid h
   have g1:(0:Int)≤(n:Int):=by omega
   have g2:IntKind.i64.wrap ((n:Int)+1)=(n:Int)+1:=ac (by omega) (by omega)
   have g3:(n:Int)≤(s.length:Int):=by omega
   have g4:(n:Int)+1≤(s.length:Int):=by omega
   have g5:(0:Int)≤(n:Int)+1:=by omega
   have g6:((n:Int)+1).toNat=n+1:=by omega
   have g7:(s.drop (n+1)).take (s.length - (n+1))=s.drop (n+1):=List.take_of_length_le (by simp)
   clear h2
   refine ag bO (by simp [a6]) ?_
   simp only [a6,aN]
   have kk1:=@hid _ @H5
   refine wk ?_
   exact ab h.out
theorem W4 {s:List UInt8} (hs:s.length≤100000) (h:K (LP s) L):ao Tryz.prog 42 [.str s,.str [61]] L K:=by
 rcases hc:iK s with _|⟨a,b⟩
 all_goals
   simp only [LP,hc] at h
   replace h:=hid h
 · refine ag fo (by simp [cm]) ?_
   simp only [cm,aN]
   refine wk ?_
   refine TX hs ?_
   simp only [LP,hc]
   refine sk ?_
   refine wk ?_
   exact ab h.out
 · refine ag fo (by simp [cm]) ?_
   simp only [cm,aN]
   refine wk ?_
   refine TX hs ?_
   simp only [LP,hc]
   refine sk ?_
   refine wk ?_
   exact ab h.out
abbrev Rdn:=List Ava
abbrev bP (r:Rdn):AV:=Pu r none
def pp:Nat→List Rdn→Rdn→List UInt8→List Rdn×Int
 | 0,_,_,_=>([],4)
 | f+1,out,now,s=>if out.length=32∨now.length=8 then ([],9) else match iK s with
   | none=>([],4)
   | some (typ,rest)=>if je typ=false then ([],4) else if iZ now typ=true then ([],21) else match fR [] false rest with
     | none=>([],4)
     | some (v,r2,ok)=>if ok=false then ([],4) else match r2 with
       | []=>(out++[now++[(typ,v)]],0)
       | c::s'=>if c=44 then pp f (out++[now++[(typ,v)]]) [] s' else pp f out (now++[(typ,v)]) s'
def Dn (s:List UInt8):List Rdn×Int:=if 4096<s.length then ([],5) else if s=[] then ([],0) else pp (s.length+1) [] [] s
def PD (p:List Rdn×Int):AV:=.tup [.sl (p.1.map bP) p.1.length none,.int .i64 p.2]
theorem O6:∀ {s a b:List UInt8},iK s=some (a,b)→b.length<s.length∧a.length≤s.length
 | [],a,b,h=>by simp [iK] at h
 | c::s,a,b,h=>by
   simp only [iK] at h
   split at h
   · simp only [Option.some.injEq,Prod.mk.injEq] at h
     obtain ⟨rfl,rfl⟩:=h
     simp
   · split at h
     · cases h
     · rename_i a' b' hc
       simp only [Option.some.injEq,Prod.mk.injEq] at h
       obtain ⟨rfl,rfl⟩:=h
       have:=O6 hc
       simp;omega
theorem Sq:∀ (n:Nat) {s b:List UInt8} {bl:Bool} {v r:List UInt8} {ok:Bool},s.length≤n→fR b bl s=some (v,r,ok)→r.length≤s.length:=by
 intro n
 induction n with
 | zero =>
   intro s b bl v r ok hn h
   obtain rfl:=List.length_eq_zero_iff.1 (Nat.le_zero.1 hn)
   rw [jc] at h;cases h;simp
 | succ n ih =>
   intro s b bl v r ok hn h
   cases s with
   | nil=>rw [jc] at h;cases h;simp
   | cons c s =>
     simp only [List.length_cons] at hn
     by_cases hc:c=44∨c=43
     · rw [lq hc] at h;cases h;simp
     by_cases h92:c=92
     · subst h92
       cases s with
       | nil=>rw [C2] at h;cases h
       | cons d s =>
         by_cases hd:d∈jg
         · rw [C0 hd] at h
           have:=ih (by simp at hn;omega) h
           simp;omega
         · cases s with
           | nil=>rw [CZ hd] at h;cases h
           | cons e s =>
             rw [Gp hd] at h
             split at h
             · cases h
             · have:=ih (by simp at hn;omega) h
               simp;omega
     · rw [jb hc h92] at h
       split at h
       · cases h
       · have:=ih (by omega) h
         simp;omega
section
variable {P:Program} {N:Nat} {own:Nat→Nat→Nat} {Q:Exit→Tm→List Blk→Prop} {T:Tm} {L:List Blk}
theorem N4 {lc:cc} (t sz B:Nat) {l:List AV} {n:Nat} {v:AV} (ht:aM T t=some v) (hB:B<L.length) (hv:(v=.sl [] 0 (some 0)∧l=[]∧n=0)∨∃ i,B<i∧v=.gsl l n i sz∧L[i]?=some (.spare n sz))
   (h:∀ i X,B<i→(L++X)[i]?=some (.spare n sz)→AW P N own lc Q ((t,.gsl l n i sz)::T) (L++X)):AW P N own lc Q T L:=by
 rcases hv with ⟨rfl,rfl,rfl⟩|⟨i,hBi,rfl,hi⟩
 · exact cM t sz ht (by simp) (h L.length [.spare 0 sz] hB (by simp))
 · have h':=h i [] hBi (by simpa using hi)
   rw [List.append_nil] at h'
   refine h'.weakT fun t' v' e=>?_
   simp only [aM] at e
   split at e
   · rename_i e1;subst e1;cases e;exact ht
   · exact e
end
variable {L:List Blk} {K:AV→List Blk→Prop}
set_option maxHeartbeats 8000000
set_option maxRecDepth 100000
def WC (B:Nat) (r:Rdn) (v:AV) (L:List Blk):Prop:=(v=.sl [] 0 (some 0)∧a7 r=[]∧r.length=0)∨∃ i,B<i∧v=.gsl (a7 r) r.length i 2∧L[i]?=some (.spare r.length 2)
theorem Ng (r:Rdn) (t v:List UInt8):a7 (r++[(t,v)])=a7 r++[.str t,.str v]:=by simp [a7,jN]
theorem fP (r:Rdn):AV.frzL (a7 r)=a7 r:=by
 induction r with
 | nil=>rfl
 | cons a r ih=>simpa [a7,jN,AV.frzL,AV.frz] using ih
theorem fk {L0 X:List Blk} {e:Int} {K:AV→List Blk→Prop} (h:K (PD ([],e)) L0):Fin L0 (.tup [.sl [] 0 (some 0),.int .i64 e]) (L0++X) K:=aX (aa rfl h)
theorem lz (d:List Rdn):AV.frzL (d.map bP)=d.map bP:=by
 rw [AV.frzL_eq,List.map_map]
 refine List.map_congr_left fun r _=>?_
 simp only [Function.comp,AV.frz,fP]
theorem R5 (q:Nat→Bool) (r:Rdn):AV.refsL q (a7 r)=true:=by
 induction r with
 | nil=>rfl
 | cons a r ih=>simpa [a7,jN,AV.refsL,AV.refs] using ih
theorem C4 (q:Nat→Bool):∀ d:List Rdn,AV.refsL q (d.map bP)=true
 | []=>rfl
 | r::d=>by simp only [List.map_cons,AV.refsL,AV.refs,R5,C4 q d,Bool.and_self]
theorem lr {s:List UInt8} (h:je s=true):s.length≤32:=by
 simp only [je,Bool.and_eq_true,decide_eq_true_eq] at h
 exact h.1.1.2
theorem Wk {r:Rdn} {typ:List UInt8} {i n:Nat} (hr:r.length=n) (hn:n≤8) (h1:∀ a∈r,a.1.length≤32) (h2:typ.length≤4096) (h:K (.bool (iZ r typ)) L) :
   ao Tryz.prog 141 [.gsl (a7 r) n i 2,.str typ] L K:=by
 subst hr
 exact Jl (by simpa only [AV.frzL,AV.frz,fP] using VP (cap:=none) (by omega) (fun a ha=>by have:=h1 a ha;omega) (by omega) h)
theorem Va {s:List UInt8} (h:K (PD (Dn s)) L):ao Tryz.prog 119 [.str s] L K:=by
 refine ag MA (by simp [Gi]) ?_
 simp only [Gi,aN]
 by_cases h1:4096<s.length
 · have f1:(4096:Int)<(s.length:Int):=by omega
   rw [Dn,if_pos h1] at h
   replace h:=hid h
   clear h1
   refine wk ?_
   exact aX (ab h.out)
 have f1:¬ (4096:Int)<(s.length:Int):=by omega
 rw [Dn,if_neg h1] at h
 by_cases h2:s=[]
 · rw [if_pos h2] at h
   replace h:=hid h
   refine wk ?_
   exact aX (ab h.out)
 rw [if_neg h2] at h
 replace h:=hid h
 have hs:=hid (show s.length≤4096 by omega)
 clear h1
 obtain ⟨R,hR⟩:∃ R,pp (s.length+1) [] [] s=R:=⟨_,rfl⟩
 rw [hR] at h
 refine wk ?_
 refine cM (l:=[]) (n:=0) 4 1 rfl (Nat.zero_mul 1).symm ?_
 refine aI (fun n T' L'=>∃ (f m:Nat) (out:List Rdn) (now:Rdn) (u:List UInt8) (v:AV) (X:List Blk),f=n∧u.length≤4096∧m=out.length∧m≤32∧now.length≤8∧Hid (u.length<f∧pp f out now u=R∧(∀ a∈now,a.1.length≤32)∧WC L.length now v L')∧L'[L.length]?=some (.spare m 1)∧T'=[(5,v),(4,.gsl (out.map bP) m L.length 1),(0,.str u)]∧L'=L++X) (CutS (b:=by simp)) ⟨s.length+1,0,[],[],s,_,[.spare 0 1],rfl,hs.out,rfl,by omega,by simp,hid ⟨by omega,hR,by simp,.inl ⟨rfl,rfl,rfl⟩⟩,by simp,rfl,rfl⟩ ?_
 clear h2
 clear hs
 rintro _ _ _ ⟨f,m,out,now,u,v,X,rfl,hu,hm,hm32,hn8,hI,ho,rfl,rfl⟩
 obtain ⟨hf,hp,ht,hv⟩:=hI.out
 clear hI
 clear hR
 obtain ⟨f,rfl⟩:∃ g,f=g+1:=⟨f - 1,by omega⟩
 have hB:L.length<(L++X).length:=(List.getElem?_eq_some_iff.1 ho).1
 refine N4 5 2 L.length rfl hB hv fun i Y hBi hi=>?_
 rw [List.append_assoc] at hi ⊢
 have ho2:(L++(X++Y))[L.length]?=some (.spare m 1):=by rw [← List.append_assoc,List.getElem?_append_left hB];exact ho
 generalize X++Y=Z at hi ho2 ⊢
 clear ho hB hv
 have s5:∀ A,(L++Z).set i A=L++Z.set (i - L.length) A:=fun A=>List.set_append_right _ _ (by omega)
 have s4:∀ (W:List Blk) A,(L++W).set L.length A=L++W.set 0 A:=fun W A=>by rw [List.set_append_right _ _ (Nat.le_refl _),Nat.sub_self]
 have hz:i - L.length≠0:=by omega
 have s54:∀ A,(L++Z.set (i - L.length) A)[L.length]?=some (.spare m 1):=fun A=>by rw [← s5,List.getElem?_set_ne (by omega)];exact ho2
 have s55:∀ A,(L++Z.set (i - L.length) A)[i]?=some A:=fun A=>by rw [← s5,List.getElem?_set,if_pos rfl,if_pos (List.getElem?_eq_some_iff.1 hi).1]
 have hul:=hu
 obtain ⟨c,hc⟩:∃ c:Nat,now.length=c:=⟨_,rfl⟩
 rw [pp] at hp
 rw [hc] at hp hi hn8 ⊢
 by_cases hlim:out.length=32∨c=8
 · rw [if_pos hlim] at hp
   have h':=h.out
   rw [← hp] at h'
   replace h':=hid h'
   have k:(m:Int)=32∨(m:Int)≠32∧(c:Int)=8:=by omega
   clear hp hlim
   clear hm
   rcases k with k|⟨k,k'⟩
   · refine wk ?_
     exact fk h'.out
   · refine wk ?_
     exact fk h'.out
 rw [if_neg hlim] at hp
 have k1:¬ (m:Int)=32:=by omega
 have k2:¬ (c:Int)=8:=by omega
 replace hm:=hid hm
 clear hlim
 replace hp:=hid hp
 replace ht:=hid ht
 refine wk ?_
 refine W4 (by omega) ?_
 rcases hcut:iK u with _|⟨typ,rest⟩
 · rw [show LP u=.tup [.str u,.str [],.bool false] by simp only [LP,hcut]]
   have h':=h.out
   rw [← hp.out,hcut] at h'
   simp only at h'
   replace h':=hid h'
   refine sk ?_
   refine wk ?_
   exact fk h'.out
 rw [show LP u=.tup [.str typ,.str rest,.bool true] by simp only [LP,hcut]]
 have hp2:=hp.out
 rw [hcut] at hp2
 simp only at hp2
 have hlen:=O6 hcut
 replace hp2:=hid hp2
 clear hcut hp
 refine sk ?_
 cases hty:je typ with
 | false =>
   have h':=h.out
   rw [← hp2.out,if_pos hty] at h'
   replace h':=hid h'
   have kk1:=@hid _ @Pq
   refine wk ?_
   exact fk h'.out
 | true =>
   have hp3:=hp2.out
   rw [if_neg (by rw [hty];simp)] at hp3
   replace hp3:=hid hp3
   clear hp2
   have kk1:=@hid _ @Pq
   refine wk ?_
   refine Wk hc hn8 ht.out (by omega) ?_
   cases hha:iZ now typ with
   | true =>
     have h':=h.out
     rw [← hp3.out,if_pos hha] at h'
     replace h':=hid h'
     refine sk ?_
     refine wk ?_
     exact fk h'.out
   | false =>
     have hp4:=hp3.out
     rw [if_neg (by rw [hha];simp)] at hp4
     replace hp4:=hid hp4
     clear hp3
     refine sk ?_
     refine wk ?_
     refine UG (by omega) ?_
     rcases hvl:fR [] false rest with _|⟨w,r2,okk⟩
     · have h':=h.out
       rw [← hp4.out,hvl] at h'
       simp only at h'
       replace h':=hid h'
       simp only [Q4]
       refine sk ?_
       refine wk ?_
       exact fk h'.out
     · have hp5:=hp4.out
       rw [hvl] at hp5
       simp only at hp5
       have hl2:=Sq _ (Nat.le_refl _) hvl
       replace hp5:=hid hp5
       clear hp4 hvl
       simp only [Q4]
       refine sk ?_
       cases okk with
       | false =>
         have h':=h.out
         rw [← hp5.out,if_pos rfl] at h'
         replace h':=hid h'
         refine wk ?_
         exact fk h'.out
       | true =>
         have hp6:=hp5.out
         rw [if_neg (by simp)] at hp6
         replace hp6:=hid hp6
         clear hp5
         have q1:(c+1) * 32≤140737488355328:=by omega
         have q2:c+1≤140737488355328:=by omega
         have q3:(m+1) * 24≤140737488355328:=by omega
         have q4:m+1≤140737488355328:=by omega
         have e1:a7 now++[AV.str typ,AV.str w]=a7 (now++[(typ,w)]):=(Ng _ _ _).symm
         have e2:out.map bP++[AV.sl (AV.frzL (a7 now++[AV.str typ,AV.str w])) (c+1) none]=(out++[now++[(typ,w)]]).map bP:=by
           rw [e1,fP,List.map_append]
           simp [hc]
         have e3:(out++[now++[(typ,w)]]).length=m+1:=by simp [hm.out]
         have e4:(now++[(typ,w)]).length=c+1:=by simp [hc]
         have e5:∀ a∈now++[(typ,w)],a.1.length≤32:=fun a ha=>by
           rcases List.mem_append.1 ha with h|h
           · exact ht.out a h
           · rw [List.mem_singleton.1 h];exact lr hty
         replace e1:=hid e1
         replace e2:=hid e2
         replace e3:=hid e3
         replace e4:=hid e4
         replace e5:=hid e5
         cases r2 with
         | nil =>
           have h':=h.out
           rw [← hp6.out] at h'
           simp only at h'
           replace h':=hid h'
           refine wk ?_
           rw [e2.out]
           refine aX (aa ?_ ?_)
           · simp only [AV.frz,AV.frzL,lz,AV.refs,AV.refsL,C4,Bool.and_self]
           · simp only [AV.frz,AV.frzL,lz]
             have:=h'.out
             simp only [PD,e3.out] at this
             exact this
         | cons x s' =>
           simp only at hp6
           have q5:¬ (x::s'=[]):=by simp
           have q7:((s'.length:Int)+1).toNat - 1=s'.length:=by omega
           have q8:s'.take (((s'.length:Int)+1).toNat - 1)=s':=by rw [q7,List.take_length]
           simp only [List.length_cons] at hl2
           clear q7
           replace q8:=hid q8
           by_cases hx:x=44
           · subst hx
             refine wk ?_
             rw [q8.out,e2.out]
             refine az _ _ _ ?_ (CutS (b:=?_)) ⟨f,m+1,out++[now++[(typ,w)]],[],s',.sl [] 0 (some 0),_,rfl,by omega,e3.out.symm,by omega,by simp,hid ⟨by omega,?_,by simp,.inl ⟨rfl,rfl,rfl⟩⟩,?_,rfl,rfl⟩
             · omega
             · have:=(List.getElem?_eq_some_iff.1 ho2).1
               simp at this ⊢;omega
             · rw [← hp6.out,if_pos rfl]
             · have:=(List.getElem?_eq_some_iff.1 ho2).1
               rw [← s4,List.getElem?_set,if_pos rfl,if_pos (by simp at this ⊢;omega)]
           · have q6:¬ (x.toNat:Int)=44:=fun e=>hx ((bf x 44).1 e)
             refine wk ?_
             rw [q8.out,e1.out]
             refine az _ _ _ ?_ (CutS (b:=?_)) ⟨f,m,out,now++[(typ,w)],s',.gsl (a7 (now++[(typ,w)])) (c+1) i 2,_,rfl,by omega,hm.out,hm32,by rw [e4.out];omega,hid ⟨by omega,?_,e5.out,.inr ⟨i,hBi,by rw [e4.out],by rw [e4.out];exact s55 _⟩⟩,s54 _,rfl,rfl⟩
             · omega
             · have:=(List.getElem?_eq_some_iff.1 ho2).1
               simp at this ⊢;omega
             · rw [← hp6.out,if_neg hx]
def fy:Rdn→Rdn→Int
 | _,[]=>0
 | done,a::t=>if done.length=8 then 9 else if je a.1=false then 20 else if iZ done a.1=true then 21 else fy (done++[a]) t
def vm:Nat→List Rdn→Int
 | _,[]=>0
 | i,r::t=>if i=32 then 9 else if r=[] then 2 else if fy [] r≠0 then fy [] r else vm (i+1) t
theorem FO {d:List Rdn} {k:Nat} (h:k<d.length):(d.map bP).getD k .undef=bP (d.getD k []):=by simp [h]
theorem Jh {r:Rdn} {k:Nat}:(a7 r).take (k * 2)=a7 (r.take k):=by
 induction r generalizing k with
 | nil=>simp [a7]
 | cons a r ih =>
   cases k with
   | zero=>simp [a7]
   | succ k =>
     have:=@ih k
     simp only [a7] at this
     rw [show (k+1) * 2=k * 2+1+1 by omega]
     simp [a7,jN,this]
theorem Wj {r:Rdn} {typ:List UInt8} {n:Nat} {cap:Option Nat} (hr:r.length=n) (hn:n≤8) (h1:∀ a∈r,a.1.length≤32) (h2:typ.length≤32) (h:K (.bool (iZ r typ)) L) :
   ao Tryz.prog 141 [.sl (a7 r) n cap,.str typ] L K:=by
 subst hr
 exact VP (by omega) (fun a ha=>by have:=h1 a ha;omega) (by omega) h
theorem Vs {d:List Rdn} {cap:Option Nat} (hn:d.length≤1100000) (hr:∀ r∈d,r.length≤1100000) (h:K (.int .i64 (vm 0 d)) L):ao Tryz.prog 156 [.sl (d.map bP) d.length cap] L K:=by
 replace h:=hid h
 have hat:=hid (fun k=>@FO d k)
 replace hr:=hid hr
 refine ag My (by simp [Gg]) ?_
 simp only [Gg,aN]
 refine wk ?_
 refine aI (fun n T' L'=>∃ (i:Nat) (X:List Blk),n=d.length - i∧i≤d.length∧i≤32∧Hid (vm i (d.drop i)=vm 0 d)∧T'=[(9,.int .i64 (i:Int)),(8,.int .i64 d.length),(7,.sl (d.map bP) d.length cap)]∧L'=L++X) (CutS (b:=by simp)) ⟨0,[],rfl,Nat.zero_le _,by omega,hid rfl,rfl,by simp⟩ ?_
 rintro _ _ _ ⟨i,X,rfl,hi,hi32,he,rfl,rfl⟩
 by_cases hlt:i<d.length
 · have g1:(i:Int)<(d.length:Int):=by omega
   have g2:IntKind.i64.wrap ((i:Int)+1)=(i:Int)+1:=ac (by omega) (by omega)
   have e2:=hat.out i hlt
   have hrl:=hr.out (d.getD i []) (by rw [List.getD_eq_getElem?_getD,List.getElem?_eq_getElem hlt];exact List.getElem_mem _)
   obtain ⟨r,hri⟩:∃ r,d.getD i []=r:=⟨_,rfl⟩
   have hdr:d.drop i=r::d.drop (i+1):=by rw [List.drop_eq_getElem_cons hlt,← hri];simp [hlt]
   rw [hri] at e2 hrl
   have he2:=he.out
   rw [hdr,vm] at he2
   clear hdr hri
   by_cases h32:i=32
   · rw [if_pos h32] at he2
     have h':=h.out
     rw [← he2] at h'
     replace h':=hid h'
     have k1:(i:Int)=32:=by omega
     have g1':(32:Int)<(d.length:Int):=by omega
     clear h32 he2
     refine wk ?_
     exact aa rfl h'.out
   rw [if_neg h32] at he2
   have k1:¬ (i:Int)=32:=by omega
   by_cases hr0:r=[]
   · rw [if_pos hr0] at he2
     subst hr0
     have h':=h.out
     rw [← he2] at h'
     replace h':=hid h'
     clear h32 he2
     refine wk ?_
     exact aa rfl h'.out
   rw [if_neg hr0] at he2
   have k2:¬ (r.length:Int)=0:=by have:=List.length_pos_iff.2 hr0;omega
   have herr:∀ e:Int,fy [] r=e→e≠0→K (.int .i64 e) L:=fun e a1 a2=>by
     rw [if_pos (by rw [a1];exact a2),a1] at he2
     rw [he2];exact h.out
   replace herr:=hid herr
   replace he2:=hid he2
   clear h32
   refine wk ?_
   refine aI (fun n T' L'=>∃ (k:Nat) (Y:List Blk),n=r.length - k∧k≤r.length∧k≤8∧Hid (fy (r.take k) (r.drop k)=fy [] r∧∀ a∈r.take k,a.1.length≤32)∧T'=[(23,.int .i64 (k:Int)),(22,.int .i64 r.length),(21,bP r),(4,bP r),(9,.int .i64 (i:Int)),(8,.int .i64 d.length),(7,.sl (d.map bP) d.length cap)]∧L'=L++(X++Y)) (CutS (b:=by simp)) ⟨0,[],rfl,Nat.zero_le _,by omega,hid ⟨rfl,by simp⟩,rfl,by simp⟩ ?_
   rintro _ _ _ ⟨k,Y,rfl,hk,hk8,hrow,rfl,rfl⟩
   by_cases hkl:k<r.length
   · have g3:(k:Int)<(r.length:Int):=by omega
     have g4:IntKind.i64.wrap ((k:Int)+1)=(k:Int)+1:=ac (by omega) (by omega)
     have e3:=fi hkl
     have e4:k * 2+2≤(a7 r).length:=by rw [cX];omega
     obtain ⟨⟨ty,va⟩,ha⟩:∃ a,r.getD k ([],[])=a:=⟨_,rfl⟩
     have hdk:r.drop k=(ty,va)::r.drop (k+1):=by rw [List.drop_eq_getElem_cons hkl,← ha];simp [hkl]
     have htk:r.take (k+1)=r.take k++[(ty,va)]:=by rw [List.take_succ_eq_append_getElem hkl,← ha];simp [hkl]
     rw [ha] at e3
     simp only [jN] at e3
     obtain ⟨hr1,hr2⟩:=hrow.out
     rw [hdk,fy] at hr1
     have hlk:(r.take k).length=k:=by simp;omega
     rw [hlk] at hr1
     clear hdk ha hrow
     have e5:(a7 r).take (k * 2)=a7 (r.take k):=Jh
     have g5:(k:Int)≤(r.length:Int):=by omega
     replace hr1:=hid hr1
     replace hr2:=hid hr2
     replace htk:=hid htk
     have e6:=hid hlk
     clear hlk
     repeat' first
       | refine aT ?_
       | (first|refine aG (by kernel_rfl) ?_|refine ap (by kernel_rfl) ?_|refine aq ?_|refine aZ ?_|refine aO (fun _=>?_)|refine aj ?_|refine aK ?_)
         refine sm ?_
       | (first|refine aC (by kernel_rfl) ?_|refine aH ?_|refine aJ ?_|refine aU (ai ?_))
         refine sl ?_
       | exact aP
       | first|apply aQ|apply aD|apply aR|apply aE|apply aS|apply aF
       | refine aw ?_
       | first|refine ar rfl ?_|refine au rfl ?_|refine af rfl ?_ ?_|refine ay rfl (fun _=>?_) (fun _=>?_)|refine ax rfl (fun _=>?_) (fun _=>?_)
       | ((first|refine ae (fun _=>?_) (fun _=>?_)|refine ah (fun _=>?_) (fun _=>?_))<;>try refine sm ?_)
       | refine And.intro trivial ?_
       | refine And.intro (by omega) ?_
       | refine aA rfl (fun _=>?_) (fun _=>?_)
       | refine And.intro ?_ ?_
     · rename_i h8
       have h':=herr.out 9 (by rw [← hr1.out,if_pos (by omega)]) (by decide)
       exact aa rfl h'
     · rename_i h8
       have hr3:=hr1.out
       rw [if_neg (by omega)] at hr3
       refine Pq ?_
       cases hty:je ty with
       | false =>
         have h':=hid (herr.out 20 (by rw [← hr3,if_pos hty]) (by decide))
         clear hr3
         refine sk ?_
         refine wk ?_
         exact aa rfl h'.out
       | true =>
         rw [if_neg (by rw [hty];simp)] at hr3
         replace hr3:=hid hr3
         have htl:=lr hty
         refine sk ?_
         repeat' first
           | refine aT ?_
           | (first|refine aG (by kernel_rfl) ?_|refine ap (by kernel_rfl) ?_|refine aq ?_|refine aZ ?_|refine aO (fun _=>?_)|refine aj ?_|refine aK ?_)
             refine sm ?_
           | (first|refine aC (by kernel_rfl) ?_|refine aH ?_|refine aJ ?_|refine aU (ai ?_))
             refine sl ?_
           | exact aP
           | first|apply aQ|apply aD|apply aR|apply aE|apply aS|apply aF
           | refine aw ?_
           | first|refine ar rfl ?_|refine au rfl ?_|refine af rfl ?_ ?_|refine ay rfl (fun _=>?_) (fun _=>?_)|refine ax rfl (fun _=>?_) (fun _=>?_)
           | ((first|refine ae (fun _=>?_) (fun _=>?_)|refine ah (fun _=>?_) (fun _=>?_))<;>try refine sm ?_)
           | refine And.intro trivial ?_
           | refine And.intro (by omega) ?_
           | refine aA rfl (fun _=>?_) (fun _=>?_)
           | refine And.intro ?_ ?_
         refine aB (Wj e6.out (by omega) hr2.out htl ⟨rfl,rfl⟩) ?_
         cases hha:iZ (r.take k) ty with
         | true =>
           have h':=hid (herr.out 21 (by rw [← hr3.out,if_pos hha]) (by decide))
           refine sk ?_
           refine wk ?_
           exact aa rfl h'.out
         | false =>
           have hr4:=hr3.out
           rw [if_neg (by rw [hha];simp),← htk.out] at hr4
           replace hr4:=hid hr4
           clear hr3
           refine sk ?_
           refine wk ?_
           refine az _ _ _ (by omega) (CutS (b:=by simp)) ⟨k+1,Y++[.cells [.str ty,.str va]],rfl,hkl,by omega,hid ⟨hr4.out,fun a ha=>?_⟩,rfl,by simp⟩
           rw [htk.out] at ha
           rcases List.mem_append.1 ha with h|h
           · exact hr2.out a h
           · rw [List.mem_singleton.1 h];exact htl
   · have hke:k=r.length:=by omega
     subst hke
     have g3:¬ (r.length:Int)<(r.length:Int):=by omega
     have hz:=hrow.out.1
     rw [List.drop_length,fy] at hz
     have he3:=he2.out
     rw [← hz] at he3
     simp only [ne_eq,not_true_eq_false,if_false] at he3
     replace he3:=hid he3
     clear hz
     refine wk ?_
     exact az _ _ _ (by omega) (CutS (b:=by simp)) ⟨i+1,X++Y,rfl,hlt,by omega,hid he3.out,rfl,rfl⟩
 · have hke:i=d.length:=by omega
   subst hke
   have g1:¬ (d.length:Int)<(d.length:Int):=by omega
   have h':=h.out
   rw [← he.out,List.drop_length,vm] at h'
   replace h':=hid h'
   refine wk ?_
   exact aa rfl h'.out
end Go.Proofs.YtolfghcbbpcciaaGreatDoor.Av
