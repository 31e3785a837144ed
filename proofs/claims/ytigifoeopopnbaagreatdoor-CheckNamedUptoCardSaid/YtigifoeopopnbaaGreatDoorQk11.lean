/- Joined texts of the walk, made small by a program. -/
import Derived.Test.YtigifoeopopnbaaGreatDoorQk4
import Derived.Test.YtigifoeopopnbaaGreatDoorRows
import Derived.KernelRfl
import Derived.Test.YtigifoeopopnbaaGreatDoorQk9
import Derived.Test.YtigifoeopopnbaaGreatDoorQk6
import Derived.Test.YtigifoeopopnbaaGreatDoorQk5
import Derived.Sort.Walk0
import Derived.Test.YtigifoeopopnbaaGreatDoorQk10
set_option linter.unusedSimpArgs false
set_option linter.unusedVariables false
set_option maxRecDepth 100000
namespace Go.Proofs.YtigifoeopopnbaaGreatDoor.Av
open Go
def nh:LSO:=[Az 1 0,Ag 2]
def ng:LSO:=[Ac 10 1 1,Ax 11 10,AH 12 11 15,Aa 13 12,.grp none 13 false
 [AP 14 13 1 1,BS 15 13 14 14,og 16 13 false (.bin .neq (tm 15) (.av (.int .u8 90)))]
 17 (tm 16)]
def nf:LSO:=[Ag 2]
def nb:LSO:=[Ac 18 1 1,o1 19 (.slS (tm 18) none (some (iv 14))),o1 20 (.s2b (tm 19)),Ah 21 20,Ab 22 0]
def na:LSO:=[Ai 23 22 21]
def m9:LSO:=[Aj 24 1 20 22,Ac 25 1 24,Aa 4 25]
def m8:LSO:=[Aa 26 4,o1 27 (.bin .lss (tm 26) (.av (.int .u8 48))),Aa 28 27,.grp none 28 false
 [Al 29 28 4,og 30 28 false (.bin .gtr (tm 29) (.av (.int .u8 57)))]
 31 (tm 30)]
def m7:LSO:=[Ag 2]
def mZ:LSO:=[Af 32 22 1,Aa 22 32]
def mY:LSO:=[o1 33 (.mkfn 105 [(tm 1)]),Aa 5 33]
def me:LSO:=[Aa 34 5,BC 35 34 0,o1 36 (.bin .mul (tm 35) (iv 100)),Aa 37 5,BC 38 37 2,AC 39 36 38,Aa 40 5,BC 41 40 4,Aa 42 5,BC 43 42 6,Aa 6 39,Aa 7 41,Aa 8 43]
def md:LSO:=[Aa 44 7,AA 45 44 1,Aa 46 45,.grp none 46 false
 [Al 47 46 7,AB 48 46 47 12]
 49 (tm 48),Aa 50 49,.grp none 50 false
 [Al 51 50 8,og 52 50 false (.bin .lss (tm 51) (iv 1))]
 53 (tm 52),Aa 54 53,.grp none 54 false
 [Al 55 54 5,BT 56 54 55 8,AB 57 54 56 23]
 58 (tm 57),Aa 59 58,.grp none 59 false
 [Al 60 59 5,BT 61 59 60 10,AB 62 59 61 59]
 63 (tm 62),Aa 64 63,.grp none 64 false
 [Al 65 64 5,BT 66 64 65 12,AB 67 64 66 59]
 68 (tm 67)]
def mb:LSO:=[Ag 2]
def ma:LSO:=[Aa 69 7,Bk 70 69 1,o1 71 (.iaddrA 12 1 (.av (.gptr 2 0)) (tm 70)),Ac 72 1 71,Aa 9 72]
def l9:LSO:=[Aa 73 7,Au 74 73 2,Aa 75 74,.grp none 75 true
 [Ae 76 75 6,BD 77 75 76 4,AL 78 75 77 0,Ae 79 75 78,.grp (some (75,true)) 79 true
 [Ae 80 79 6,BD 81 79 80 100,BE 82 79 81 0]
 83 (tm 82),Ae 84 75 83,.grp (some (75,true)) 84 false
 [Al 85 84 6,og 86 84 false (.bin .rem (tm 85) (iv 400)),AK 87 84 86 0]
 88 (tm 87)]
 89 (tm 88)]
def l8:LSO:=[Aa 90 9,Af 91 90 1,Aa 9 91]
def l7:LSO:=[Aa 92 8,Aa 93 9,o1 94 (.bin .leq (tm 92) (tm 93)),Aa 2 94]
def kR:aV:=⟨95,(.seq (.sreg nh [])
 (.seq (.seq (.sreg ng Cm)
 (.cond (tm 17) (.seq (.sreg nf [])
 .ret)
 .skip))
 (.seq (.seq (.sreg nb C7)
 (.block 0 (.loop (.seq (.sreg na [])
 (.seq (.cond (tm 23) .skip
 (.exit 0))
 (.seq (.block 1 (.seq (.sreg m9 Ck)
 (.seq (.sreg m8 Cl)
 (.cond (tm 31) (.seq (.sreg m7 [])
 .ret)
 .skip))))
 (.sreg mZ Cj)))))))
 (.seq (.sreg mY Cj)
 (.seq (.sreg me [true,true,true,false,false,false,false,false,false,false,false,false,false])
 (.seq (.seq (.sreg md CK)
 (.cond (tm 68) (.seq (.sreg mb [])
 .ret)
 .skip))
 (.seq (.sreg ma Cm)
 (.seq (.seq (.sreg l9 Cl)
 (.cond (tm 89) (.sreg l8 Ck)
 .skip))
 (.seq (.sreg l7 Cl)
 .ret))))))))),[(.tmp 2)]⟩
attribute [push_cast] nh ng nf nb na m9 m8 m7 mZ mY me md mb ma l9 l8 l7
theorem Lq:aX Tryz.prog (fun _ _=>1) 82=some kR.raw:=by kernel_rfl
def k9:LSO:=[Ab 3 0]
def k8:LSO:=[Ac 4 1 1,Aa 5 0,A9 6 4 5,BF 7 6,Bi 8 7,o1 9 (.bin .mul (tm 8) (iv 10)),Ac 10 1 1,Aa 11 0,Af 12 11 1,A9 13 10 12,BF 14 13,Bi 15 14,AC 16 9 15,
 Aa 3 16]
def iA:aV:=⟨17,(.seq (.sreg k9 [])
 (.seq (.sdreg k8 [(.read 0 0),.pure,(.read 0 0),.pure,.pure,.pure,(.read 0 0),.pure,.pure,(.read 0 0),.pure,.pure] CM)
 .ret)),[(.tmp 3)]⟩
attribute [push_cast] k9 k8
theorem HK:aX Tryz.prog (fun _ _=>1) 105=some iA.raw:=by kernel_rfl
def mX:LSO:=[Ab 2 0,Ag 3]
def mW:LSO:=[Aa 7 0,o1 8 (.call 101 [(tm 7),(iv 10),(iv 64)]),Aa 6 8,Ar 9 6,As 10 6,Aa 4 9,Aa 5 10]
def mV:LSO:=[Aa 11 4,Aa 12 5,o1 13 (.eqk false .iface (tm 12) (.av .nilif)),Aa 14 13,.grp none 14 true
 [Ae 15 14 4,og 16 14 true (.call 102 [(tm 15),(iv 10)]),Ae 17 14 0,B4 18 14 16 17]
 19 (tm 18),Aa 2 11,Aa 3 19]
def kQ:aV:=⟨20,(.seq (.sreg mX [])
 (.seq (.sreg mW C4)
 (.seq (.sreg mV C4)
 .ret))),[(.tmp 2),(.tmp 3)]⟩
attribute [push_cast] mX mW mV
theorem Lp:aX Tryz.prog (fun _ _=>1) 80=some kQ.raw:=by kernel_rfl
def nj:LSO:=[Ag 2]
def ni:LSO:=[Aa 3 0,o1 4 (.bin .geq (tm 3) (.av (.int .i32 128))),Aa 2 4]
def kS:aV:=⟨5,(.seq (.sreg nj [])
 (.seq (.sreg ni Ck)
 .ret)),[(.tmp 2)]⟩
attribute [push_cast] nj ni
theorem Lr:aX Tryz.prog (fun _ _=>1) 79=some kS.raw:=by kernel_rfl
def iU:LSO:=[Ab 4 0]
def iT:LSO:=[Aa 5 0,Aa 6 1,o1 7 (.call 100 [(tm 5),(tm 6),(.av (.bool true))]),Aa 4 7]
def gC:aV:=⟨8,(.seq (.sreg iU [])
 (.seq (.sreg iT Cl)
 .ret)),[(.tmp 4)]⟩
attribute [push_cast] iU iT
theorem uB:aX Tryz.prog (fun _ _=>1) 78=some gC.raw:=by kernel_rfl
def iS:LSO:=[Ab 6 0]
def iR:LSO:=[Aa 9 0,o1 10 (.rangeS (tm 9))]
def iQ:LSO:=[o1 11 (.nextS (tm 10)),Ar 12 11]
def iP:LSO:=[As 13 11,Ba 14 11,Aa 7 13,Aa 8 14]
def iO:LSO:=[Aa 15 1,Aa 16 8,BB 17 15 16,Aa 18 2,o1 19 (.eqk false .bool (tm 17) (tm 18))]
def iN:LSO:=[Aa 20 7,Aa 6 20]
def iM:LSO:=[Ab 6 (-1)]
def gB:aV:=⟨21,(.seq (.sreg iS [])
 (.seq (.seq (.sreg iR Cj)
 (.block 0 (.loop (.seq (.sreg iQ [])
 (.seq (.cond (tm 12) .skip
 (.exit 0))
 (.block 1 (.seq (.sreg iP Cw)
 (.seq (.sreg iO Cm)
 (.cond (tm 19) (.seq (.sreg iN Cj)
 .ret)
 .skip)))))))))
 (.seq (.sreg iM [])
 .ret))),[(.tmp 6)]⟩
attribute [push_cast] iS iR iQ iP iO iN iM
theorem uA:aX Tryz.prog (fun _ _=>1) 100=some gB.raw:=by kernel_rfl
def Js:LSO:=[Ag 2]
def Jr:LSO:=[Aa 7 0,Ax 8 7,A6 9 8 0]
def Jq:LSO:=[Aa 10 0,BG 11 10 0,Bi 12 11,Aa 3 12]
def Jp:LSO:=[Ab 4 1]
def Jo:LSO:=[Aa 13 3,AM 14 13 240]
def Jn:LSO:=[Ab 4 4]
def Jm:LSO:=[Aa 15 3,Bk 16 15 240,Aa 3 16]
def Jl:LSO:=[Aa 17 3,AM 18 17 224]
def Jk:LSO:=[Ab 4 3]
def Jj:LSO:=[Aa 19 3,Bk 20 19 224,Aa 3 20]
def Ft:LSO:=[Aa 21 3,AM 22 21 192]
def Fs:LSO:=[Ab 4 2]
def Fq:LSO:=[Aa 23 3,Bk 24 23 192,Aa 3 24]
def Fp:LSO:=[Aa 25 3,AM 26 25 128]
def Fo:LSO:=[Ag 2]
def Fn:LSO:=[Aa 27 0,Ax 28 27,Aa 29 4,Ai 30 28 29]
def Fm:LSO:=[Ag 2]
def Fl:LSO:=[Ab 5 1]
def Fk:LSO:=[Aa 31 5,Aa 32 4,Ai 33 31 32]
def Fj:LSO:=[Aa 36 0,Aa 37 5,A9 38 36 37,Bi 39 38,Aa 6 39]
def Fi:LSO:=[Aa 40 6,AA 41 40 128,Aa 42 41,.grp none 42 false
 [Al 43 42 6,BH 44 42 43 192]
 45 (tm 44)]
def Fh:LSO:=[Ag 2]
def Fg:LSO:=[Aa 46 3,o1 47 (.bin .mul (tm 46) (iv 64)),Aa 48 6,AC 49 47 48,Bk 50 49 128,Aa 3 50]
def Ff:LSO:=[Aa 34 5,Af 35 34 1,Aa 5 35]
def Fe:LSO:=[Aa 51 4,Au 52 51 2,Aa 53 52,.grp none 53 true
 [Ae 54 53 3,Bq 55 53 54 128]
 56 (tm 55),Aa 57 56,.grp none 57 false
 [Al 58 57 4,AK 59 57 58 3,Al 60 57 59,.grp (some (57,false)) 60 true
 [Ae 61 60 3,Bq 62 60 61 2048]
 63 (tm 62)]
 64 (tm 63),Aa 65 64,.grp none 65 false
 [Al 66 65 4,AK 67 65 66 4,Al 68 65 67,.grp (some (65,false)) 68 true
 [Ae 69 68 3,Bq 70 68 69 65536]
 71 (tm 70)]
 72 (tm 71),Aa 73 72,.grp none 73 false
 [Al 74 73 3,AB 75 73 74 1114111]
 76 (tm 75),Aa 77 76,.grp none 77 false
 [Al 78 77 3,BH 79 77 78 55296,Al 80 77 79,.grp (some (77,false)) 80 true
 [Ae 81 80 3,Bq 82 80 81 57344]
 83 (tm 82)]
 84 (tm 83)]
def Fd:LSO:=[Ag 2]
def Fc:LSO:=[Aa 85 0,Aa 86 4,BU 87 85 86,Aa 0 87]
def Fb:LSO:=[A0 2]
def HQ:aV:=⟨88,(.seq (.sreg Js [])
 (.seq (.block 0 (.loop (.seq (.seq (.sreg Jr Ck)
 (.cond (tm 9) .skip
 (.exit 0)))
 (.block 1 (.seq (.sreg Jq Cl)
 (.seq (.sreg Jp [])
 (.seq (.seq (.sreg Jo Cj)
 (.cond (tm 14) (.seq (.sreg Jn [])
 (.sreg Jm Ck))
 (.seq (.sreg Jl Cj)
 (.cond (tm 18) (.seq (.sreg Jk [])
 (.sreg Jj Ck))
 (.seq (.sreg Ft Cj)
 (.cond (tm 22) (.seq (.sreg Fs [])
 (.sreg Fq Ck))
 (.seq (.sreg Fp Cj)
 (.cond (tm 26) (.seq (.sreg Fo [])
 .ret)
 .skip))))))))
 (.seq (.seq (.sreg Fn Cl)
 (.cond (tm 30) (.seq (.sreg Fm [])
 .ret)
 .skip))
 (.seq (.seq (.sreg Fl [])
 (.block 2 (.loop (.seq (.seq (.sreg Fk Ck)
 (.cond (tm 33) .skip
 (.exit 2)))
 (.seq (.block 3 (.seq (.sreg Fj Cm)
 (.seq (.seq (.sreg Fi Cl)
 (.cond (tm 45) (.seq (.sreg Fh [])
 .ret)
 .skip))
 (.sreg Fg Co))))
 (.sreg Ff Ck))))))
 (.seq (.seq (.sreg Fe CK)
 (.cond (tm 84) (.seq (.sreg Fd [])
 .ret)
 .skip))
 (.sreg Fc Cl)))))))))))
 (.seq (.sreg Fb [])
 .ret))),[(.tmp 2)]⟩
attribute [push_cast] Js Jr Jq Jp Jo Jn Jm Jl Jk Jj Ft Fs Fq Fp Fo Fn Fm Fl Fk Fj Fi Fh Fg Ff Fe Fd Fc Fb
theorem Rt:aX Tryz.prog (fun _ _=>1) 61=some HQ.raw:=by kernel_rfl
def rR:LSO:=[Ag 2]
def rQ:LSO:=[Ab 3 0]
def rP:LSO:=[Aa 4 3,Aa 5 0,Ax 6 5,Ai 7 4 6]
def rO:LSO:=[Aa 10 0,Aa 11 3,A9 12 10 11,o1 13 (.bin .lss (tm 12) (.av (.int .u8 48))),Aa 14 13,.grp none 14 false
 [Al 15 14 0,Al 16 14 3,Br 17 14 15 16,og 18 14 false (.bin .gtr (tm 17) (.av (.int .u8 57)))]
 19 (tm 18)]
def rN:LSO:=[Ag 2]
def rM:LSO:=[Aa 8 3,Af 9 8 1,Aa 3 9]
def rL:LSO:=[Aa 20 0,Ax 21 20,A6 22 21 0,Aa 2 22]
def mO:aV:=⟨23,(.seq (.sreg rR [])
 (.seq (.seq (.sreg rQ [])
 (.block 0 (.loop (.seq (.seq (.sreg rP Cl)
 (.cond (tm 7) .skip
 (.exit 0)))
 (.seq (.block 1 (.seq (.sreg rO Co)
 (.cond (tm 19) (.seq (.sreg rN [])
 .ret)
 .skip)))
 (.sreg rM Ck))))))
 (.seq (.sreg rL Cl)
 .ret))),[(.tmp 2)]⟩
attribute [push_cast] rR rQ rP rO rN rM rL
theorem NW:aX Tryz.prog (fun _ _=>1) 89=some mO.raw:=by kernel_rfl
def rA:LSO:=[Ag 2]
def rz:LSO:=[Aa 4 0,o1 5 (.bin .eql (tm 4) (.av (.str [48])))]
def ry:LSO:=[A0 2]
def rx:LSO:=[o1 3 (.mv (.av (.str [57,50,50,51,51,55,50,48,51,54,56,53,52,55,55,53,56,48,55])))]
def ru:LSO:=[Aa 6 0,Ax 7 6,A6 8 7 0,Aa 9 8,.grp none 9 true
 [Ae 10 9 0,og 11 9 true (.idxS (tm 10) (iv 0)),og 12 9 true (.bin .eql (tm 11) (.av (.int .u8 45)))]
 13 (tm 12)]
def rt:LSO:=[Aa 14 0,o1 15 (.slS (tm 14) (some (iv 1)) none),Aa 0 15]
def rr:LSO:=[o1 3 (.mv (.av (.str [57,50,50,51,51,55,50,48,51,54,56,53,52,55,55,53,56,48,56])))]
def rq:LSO:=[Aa 16 0,Ao 17 89 16,Aa 18 17,.grp none 18 true
 [Ae 19 18 0,og 20 18 true (.idxS (tm 19) (iv 0)),og 21 18 true (.bin .neq (tm 20) (.av (.int .u8 48)))]
 22 (tm 21),Aa 23 22,.grp none 23 true
 [Ae 24 23 0,og 25 23 true (.len true (tm 24)),Bq 26 23 25 19,Ae 27 23 26,.grp (some (23,true)) 27 false
 [Al 28 27 0,Bt 29 27 28,AK 30 27 29 19,Al 31 27 30,.grp (some (27,false)) 31 true
 [Ae 32 31 0,Ae 33 31 3,BV 34 31 32 33]
 35 (tm 34)]
 36 (tm 35)]
 37 (tm 36),Aa 2 37]
def mM:aV:=⟨38,(.seq (.sreg rA [])
 (.seq (.seq (.sreg rz Cj)
 (.cond (tm 5) (.seq (.sreg ry [])
 .ret)
 .skip))
 (.seq (.sreg rx [])
 (.seq (.seq (.sreg ru Cm)
 (.cond (tm 13) (.seq (.sreg rt Ck)
 (.sreg rr []))
 .skip))
 (.seq (.sreg rq Cq)
 .ret))))),[(.tmp 2)]⟩
attribute [push_cast] rA rz ry rx ru rt rr rq
theorem NU:aX Tryz.prog (fun _ _=>1) 63=some mM.raw:=by kernel_rfl
def Jz:LSO:=[Ab 2 0]
def Jy:LSO:=[Ab 3 0]
def Jx:LSO:=[Ab 4 0]
def Jw:LSO:=[Aa 5 4,Aa 6 0,Ax 7 6,Ai 8 5 7]
def Jv:LSO:=[Aa 11 3,o1 12 (.bin .mul (iv 10) (tm 11)),Aa 13 0,Aa 14 4,A9 15 13 14,BF 16 15,Bi 17 16,AC 18 12 17,Aa 3 18]
def Ju:LSO:=[Aa 9 4,Af 10 9 1,Aa 4 10]
def Jt:LSO:=[Aa 19 3,Aa 2 19]
def HR:aV:=⟨20,(.seq (.sreg Jz [])
 (.seq (.sreg Jy [])
 (.seq (.seq (.sreg Jx [])
 (.block 0 (.loop (.seq (.seq (.sreg Jw Cl)
 (.cond (tm 8) .skip
 (.exit 0)))
 (.seq (.block 1 (.sreg Jv Cx))
 (.sreg Ju Ck))))))
 (.seq (.sreg Jt Cj)
 .ret)))),[(.tmp 2)]⟩
attribute [push_cast] Jz Jy Jx Jw Jv Ju Jt
theorem Ru:aX Tryz.prog (fun _ _=>1) 92=some HR.raw:=by kernel_rfl
def rK:LSO:=[Ag 2]
def rJ:LSO:=[Aa 7 0,Ax 8 7,AH 9 8 15,Aa 10 9,.grp none 10 false
 [Al 11 10 0,og 12 10 false (.slS (tm 11) none (some (iv 14))),AY 13 10 89 12,Bg 14 10 13]
 15 (tm 14),Aa 16 15,.grp none 16 false
 [Al 17 16 0,BS 18 16 17 14,og 19 16 false (.bin .neq (tm 18) (.av (.int .u8 90)))]
 20 (tm 19)]
def rI:LSO:=[Ag 2]
def rH:LSO:=[Aa 21 0,o1 22 (.slS (tm 21) none (some (iv 4))),Ao 23 92 22,Aa 24 0,o1 25 (.slS (tm 24) (some (iv 4)) (some (iv 6))),Ao 26 92 25,Aa 27 0,
 o1 28 (.slS (tm 27) (some (iv 6)) (some (iv 8))),Ao 29 92 28,Aa 3 23,Aa 4 26,Aa 5 29]
def rG:LSO:=[Aa 30 4,AA 31 30 1,Aa 32 31,.grp none 32 false
 [Al 33 32 4,AB 34 32 33 12]
 35 (tm 34),Aa 36 35,.grp none 36 false
 [Al 37 36 5,og 38 36 false (.bin .lss (tm 37) (iv 1))]
 39 (tm 38),Aa 40 39,.grp none 40 false
 [Al 41 40 0,BW 42 40 41 8 10,AY 43 40 92 42,AB 44 40 43 23]
 45 (tm 44),Aa 46 45,.grp none 46 false
 [Al 47 46 0,BW 48 46 47 10 12,AY 49 46 92 48,AB 50 46 49 59]
 51 (tm 50),Aa 52 51,.grp none 52 false
 [Al 53 52 0,BW 54 52 53 12 14,AY 55 52 92 54,AB 56 52 55 59]
 57 (tm 56)]
def rF:LSO:=[Ag 2]
def rE:LSO:=[Ab 6 31]
def rD:LSO:=[Aa 58 4,Au 59 58 4,Aa 60 59,.grp none 60 false
 [Al 61 60 4,AK 62 60 61 6]
 63 (tm 62),Aa 64 63,.grp none 64 false
 [Al 65 64 4,AK 66 64 65 9]
 67 (tm 66),Aa 68 67,.grp none 68 false
 [Al 69 68 4,AK 70 68 69 11]
 71 (tm 70)]
def rC:LSO:=[Ab 6 30]
def rB:LSO:=[Aa 72 4,Au 73 72 2]
def nZ:LSO:=[Ab 6 28]
def nY:LSO:=[Aa 74 3,o1 75 (.bin .rem (tm 74) (iv 400)),Au 76 75 0,Aa 77 76,.grp none 77 false
 [Al 78 77 3,og 79 77 false (.bin .rem (tm 78) (iv 4)),AK 80 77 79 0,Al 81 77 80,.grp (some (77,false)) 81 true
 [Ae 82 81 3,BD 83 81 82 100,BE 84 81 83 0]
 85 (tm 84)]
 86 (tm 85)]
def nX:LSO:=[Ab 6 29]
def nW:LSO:=[Aa 87 5,Aa 88 6,o1 89 (.bin .leq (tm 87) (tm 88)),Aa 2 89]
def mN:aV:=⟨90,(.seq (.sreg rK [])
 (.seq (.seq (.sreg rJ Cq)
 (.cond (tm 20) (.seq (.sreg rI [])
 .ret)
 .skip))
 (.seq (.sdreg rH [.pure,(.read 0 0),(.read 0 0),.pure,(.read 0 0),(.read 0 0),.pure,(.read 0 0)] CO)
 (.seq (.seq (.sreg rG CK)
 (.cond (tm 57) (.seq (.sreg rF [])
 .ret)
 .skip))
 (.seq (.sreg rE [])
 (.seq (.seq (.sreg rD Cr)
 (.cond (tm 71) (.sreg rC [])
 .skip))
 (.seq (.seq (.sreg rB Cj)
 (.cond (tm 73) (.seq (.sreg nZ [])
 (.seq (.sreg nY Cm)
 (.cond (tm 86) (.sreg nX [])
 .skip)))
 .skip))
 (.seq (.sreg nW Cl)
 .ret)))))))),[(.tmp 2)]⟩
attribute [push_cast] rK rJ rI rH rG rF rE rD rC rB nZ nY nX nW
theorem NV:aX Tryz.prog (fun _ _=>1) 65=some mN.raw:=by kernel_rfl
def FD:LSO:=[Aq 4,Ag 5]
def FC:LSO:=[Aa 9 1,Ax 10 9,A6 11 10 4096]
def FB:LSO:=[Aq 4,Ag 5]
def FA:LSO:=[Aa 12 0]
def Fz:LSO:=[Au 14 12 1,Aa 13 14]
def Fy:LSO:=[Aa 15 1,Ax 16 15,A6 17 16 0,Aa 18 17,.grp none 18 true
 [Ae 19 18 1,AN 20 18 61 19]
 21 (tm 20)]
def Fx:LSO:=[Aa 22 1,Ao 23 62 22,Aa 4 23,A0 5]
def Fw:LSO:=[Au 25 12 2,Aa 24 25]
def Fv:LSO:=[Aa 26 1,Ax 27 26,A6 28 27 0,Aa 29 28,.grp none 29 true
 [Ae 30 29 1,AN 31 29 61 30]
 32 (tm 31)]
def Fu:LSO:=[Aa 33 1,Aa 4 33,A0 5]
def xY:LSO:=[Au 35 12 3,Aa 34 35]
def xX:LSO:=[Ab 6 0]
def xW:LSO:=[Aa 36 6,Aa 37 1,Ax 38 37,Ai 39 36 38]
def xV:LSO:=[Aa 42 1,Aa 43 6,A9 44 42 43,o1 45 (.bin .geq (tm 44) (.av (.int .u8 128)))]
def xU:LSO:=[Aq 4,Ag 5]
def xT:LSO:=[Aa 40 6,Af 41 40 1,Aa 6 41]
def xS:LSO:=[Aa 46 1,Ao 47 62 46,Aa 4 47,A0 5]
def xR:LSO:=[Au 49 12 4,Aa 48 49]
def xQ:LSO:=[Aa 50 1,Ao 51 63 50]
def xP:LSO:=[Aa 52 1,Aa 4 52,A0 5]
def xO:LSO:=[Au 54 12 5,Aa 53 54]
def xN:LSO:=[Aa 55 1,o1 56 (.bin .eql (tm 55) (.av (.str [84,82,85,69]))),Aa 57 56,.grp none 57 false
 [Al 58 57 1,og 59 57 false (.bin .eql (tm 58) (.av (.str [70,65,76,83,69])))]
 60 (tm 59)]
def xM:LSO:=[Aa 61 1,Aa 4 61,A0 5]
def xL:LSO:=[Au 63 12 6,Aa 62 63]
def xK:LSO:=[Aa 65 1,Ao 66 64 65,Aa 64 66,Ar 67 64,As 68 64,Aa 7 67,Aa 8 68]
def xJ:LSO:=[Aa 69 8,Au 70 69 0]
def xI:LSO:=[Aa 71 7,Aa 4 71,A0 5]
def xH:LSO:=[Au 73 12 7,Aa 72 73]
def xG:LSO:=[Aa 74 1,Aa 4 74,A0 5]
def xF:LSO:=[Au 76 12 8,Aa 75 76]
def xE:LSO:=[Aa 77 1,Ao 78 65 77]
def xD:LSO:=[Aa 79 1,Aa 4 79,A0 5]
def xC:LSO:=[Aq 4,Ag 5]
def uJ:aV:=⟨80,(.seq (.sreg FD [])
 (.seq (.seq (.sreg FC Ck)
 (.cond (tm 11) (.seq (.sreg FB [])
 .ret)
 .skip))
 (.seq (.seq (.sreg FA [])
 (.block 0 (.seq (.sreg Fz Cj)
 (.cond (tm 13) (.seq (.sreg Fy Cm)
 (.cond (tm 21) (.seq (.sreg Fx Cw)
 .ret)
 .skip))
 (.seq (.sreg Fw Cj)
 (.cond (tm 24) (.seq (.sreg Fv Cm)
 (.cond (tm 32) (.seq (.sreg Fu Cp)
 .ret)
 .skip))
 (.seq (.sreg xY Cj)
 (.cond (tm 34) (.seq (.seq (.sreg xX [])
 (.block 1 (.loop (.seq (.seq (.sreg xW Cl)
 (.cond (tm 39) .skip
 (.exit 1)))
 (.seq (.block 2 (.seq (.sreg xV Cl)
 (.cond (tm 45) (.seq (.sreg xU [])
 .ret)
 .skip)))
 (.sreg xT Ck))))))
 (.seq (.sreg xS Cw)
 .ret))
 (.seq (.sreg xR Cj)
 (.cond (tm 48) (.seq (.sreg xQ Cj)
 (.cond (tm 51) (.seq (.sreg xP Cp)
 .ret)
 .skip))
 (.seq (.sreg xO Cj)
 (.cond (tm 53) (.seq (.sreg xN Cl)
 (.cond (tm 60) (.seq (.sreg xM Cp)
 .ret)
 .skip))
 (.seq (.sreg xL Cj)
 (.cond (tm 62) (.seq (.sreg xK C4)
 (.seq (.sreg xJ Cj)
 (.cond (tm 70) (.seq (.sreg xI Cp)
 .ret)
 .skip)))
 (.seq (.sreg xH Cj)
 (.cond (tm 72) (.seq (.sreg xG Cp)
 .ret)
 (.seq (.sreg xF Cj)
 (.cond (tm 75) (.seq (.sreg xE Cj)
 (.cond (tm 78) (.seq (.sreg xD Cp)
 .ret)
 .skip))
 .skip))))))))))))))))))
 (.seq (.sreg xC [])
 .ret)))),[(.tmp 4),(.tmp 5)]⟩
attribute [push_cast] FD FC FB FA Fz Fy Fx Fw Fv Fu xY xX xW xV xU xT xS xR xQ xP xO xN xM xL xK xJ xI xH xG xF xE xD xC
theorem PN:aX Tryz.prog (fun _ _=>1) 38=some uJ.raw:=by kernel_rfl
def vh:LSO:=[Aq 4,Ag 5]
def vg:LSO:=[Aa 10 1,Ax 11 10,A6 12 11 4096]
def vf:LSO:=[Aq 4,Ag 5]
def ve:LSO:=[Aa 13 1,Aa 6 13,Ag 7]
def vd:LSO:=[Aa 14 0]
def vc:LSO:=[Au 16 14 1,Aa 15 16]
def vb:LSO:=[Aa 17 1,Ao 18 76 17,Aa 19 1,BI 20 19,Aa 21 20,.grp none 21 true
 [Ae 22 21 1,AN 23 21 77 22]
 24 (tm 23),Aa 6 18,Aa 7 24]
def u9:LSO:=[Au 26 14 2,Aa 25 26]
def u7:LSO:=[Aa 27 1,BI 28 27,Aa 29 28,.grp none 29 true
 [Ae 30 29 1,AN 31 29 77 30]
 32 (tm 31),Aa 7 32]
def u6:LSO:=[Au 34 14 3,Aa 33 34]
def pD:LSO:=[Aa 35 1,Ao 36 76 35,Aa 37 1,o1 38 (.call 78 [(tm 37),(.av (.func 79 []))]),AA 39 38 0,Aa 6 36,Aa 7 39]
def pB:LSO:=[Au 41 14 4,Aa 40 41]
def pA:LSO:=[Aa 43 1,Ao 44 80 43,Aa 42 44,Ar 45 42,As 46 42,Aa 7 46]
def pz:LSO:=[Au 48 14 5,Aa 47 48]
def py:LSO:=[Aa 49 1,o1 50 (.bin .eql (tm 49) (.av (.str [84,82,85,69]))),Aa 51 50,.grp none 51 false
 [Al 52 51 1,og 53 51 false (.bin .eql (tm 52) (.av (.str [70,65,76,83,69])))]
 54 (tm 53),Aa 7 54]
def pw:LSO:=[Au 56 14 6,Aa 55 56]
def pu:LSO:=[Aa 58 1,Ao 59 81 58,Aa 57 59,Ar 60 57,As 61 57,Aa 8 60,Aa 9 61]
def pt:LSO:=[Aa 62 8,Aa 63 9,Au 64 63 0,Aa 6 62,Aa 7 64]
def pr:LSO:=[Au 66 14 7,Aa 65 66]
def pq:LSO:=[A0 7]
def pp:LSO:=[Au 68 14 8,Aa 67 68]
def po:LSO:=[Aa 69 1,Ao 70 82 69,Aa 7 70]
def pn:LSO:=[Aa 71 7,Aw 72 71]
def pm:LSO:=[Aq 4,Ag 5]
def pl:LSO:=[Aa 73 6,Aa 4 73,A0 5]
def oM:aV:=⟨74,(.seq (.sreg vh [])
 (.seq (.seq (.sreg vg Ck)
 (.cond (tm 12) (.seq (.sreg vf [])
 .ret)
 .skip))
 (.seq (.sreg ve Cp)
 (.seq (.seq (.sreg vd [])
 (.block 0 (.seq (.sreg vc Cj)
 (.cond (tm 15) (.sreg vb Cu)
 (.seq (.sreg u9 Cj)
 (.cond (tm 25) (.sreg u7 Cm)
 (.seq (.sreg u6 Cj)
 (.cond (tm 33) (.sreg pD C4)
 (.seq (.sreg pB Cj)
 (.cond (tm 40) (.sreg pA Co)
 (.seq (.sreg pz Cj)
 (.cond (tm 47) (.sreg py Cm)
 (.seq (.sreg pw Cj)
 (.cond (tm 55) (.seq (.sreg pu C4)
 (.sreg pt Ct))
 (.seq (.sreg pr Cj)
 (.cond (tm 65) (.sreg pq [])
 (.seq (.sreg pp Cj)
 (.cond (tm 67) (.sreg po Ck)
 .skip))))))))))))))))))
 (.seq (.seq (.sreg pn Cj)
 (.cond (tm 72) (.seq (.sreg pm [])
 .ret)
 .skip))
 (.seq (.sreg pl Cp)
 .ret)))))),[(.tmp 4),(.tmp 5)]⟩
attribute [push_cast] vh vg vf ve vd vc vb u9 u7 u6 pD pB pA pz py pw pu pt pr pq pp po pn pm pl
theorem Oo:aX Tryz.prog (fun _ _=>1) 52=some oM.raw:=by kernel_rfl
attribute [push_cast] iA kS gC gB HQ mO HR
variable {L:List Blk} {K:aef}
set_option maxHeartbeats 8000000
set_option maxRecDepth 100000
theorem WX {x:Int} {L:List Blk} {K:aef} (h:K (.bool (decide ((128:Int)<=x))) L):aee 79 [.int .i32 x] L K:=by
 replace h:=hid h;refine aed Lr ?_;exact ac h.out
def OP (s:List UInt8):Bool:=s.all fun c=>decide (c.toNat<128)
theorem acW {s:List UInt8} (hs:s.length<=1100000) (hno:OP s=true->K (.int .i64 (-1)) L) (hyes:∀ k:Nat,OP s=false->K (.int .i64 (k:Int)) L) :
  aee 100 [.str s,.func 79 [],.bool true] L K:=by
 replace hno:=hid hno;replace hyes:=hid hyes;refine aed uA ?_;refine ai (fun n T' L'=>∃ p,n=s.length - p/\p<=s.length/\Hid (OP (s.take p)=true)/\T'=[(10,.ptr L.length 0),(1,.func 79 []),(2,.bool true)]/\L'=L++[.siter s p]) (CutS (b:=by simp)) ⟨0,rfl,aej _,hid rfl,rfl,rfl⟩ ?_;rintro _ _ _ ⟨p,rfl,hp,hall,rfl,rfl⟩;by_cases hlt:p<s.length
 ·obtain ⟨c,hc⟩:=aea (s.getD p 0);have hr:=c.toNat_lt;have htk:s.take (p+1)=s.take p++[c]:=by rw [aeL hlt,<- hc];simp [hlt]
  have hnext:OP (s.take (p+1))=decide (c.toNat<128):=by
   have:=hall.out;unfold OP at this ⊢;rw [htk,agG,this];simp
  by_cases ha:c.toNat<128
  ·have hd:=Rh hlt (by rw [hc];exact ha);rw [hc] at hd;have w0:IntKind.i32.wrap (c.toNat:Int)=(c.toNat:Int):=Qk (by omega) (by omega);have f1:¬ (128:Int)<=(c.toNat:Int):=by omega
   replace hnext:=hid (hnext.trans (decide_eq_true ha));clear hc ha htk;have kk1:=@hid _ @WX;refine wk ?_;exact ag _ _ _ (by omega) (CutS (b:=by simp)) ⟨p+1,rfl,hlt,hnext,rfl,rfl⟩
  ·have hh:=SQ hlt (by rw [hc];omega);obtain ⟨⟨x,wd⟩,hd⟩:∃ q,PG s p=q:=⟨_,rfl⟩;rw [hd] at hh;simp only at hh;have f1:(128:Int)<=(x:Int):=by omega
   have hbad:OP s=false:=by
    rw [<- afP];intro e;have hm:c∈s:=by rw [<- hc];simp [hlt]
    have:=ael.1 e c hm;simp at this;omega
   have h':=hid (hyes.out p hbad);clear hc ha htk hnext hbad;have kk1:=@hid _ @WX;refine wk ?_;exact ab rfl h'.out
 ·have hke:p=s.length:=by omega
  subst hke;have h1:=hall.out;rw [aeE] at h1;have h':=hid (hno.out h1);clear h1;refine wk ?_;exact ab rfl h'.out
theorem ZR {s:List UInt8} (hs:s.length<=1100000) (hno:OP s=true->K (.int .i64 (-1)) L) (hyes:∀ k:Nat,OP s=false->K (.int .i64 (k:Int)) L) :
  aee 78 [.str s,.func 79 []] L K:=by
 replace hno:=hid hno;replace hyes:=hid hyes;refine aed uB ?_;refine acW hs (fun e=>?_) (fun k e=>?_)
 ·have h':=hid (hno.out e);refine sk ?_;refine wk ?_;exact ac h'.out
 ·have h':=hid (hyes.out k e);refine sk ?_;refine wk ?_;exact ac h'.out
def dig (v:List UInt8) (i:Nat):Nat:=(v.getD i 0).toNat - 48
def two (v:List UInt8) (i:Nat):Nat:=10 * dig v i+dig v (i+1)
def fM (c:UInt8):Bool:=decide (48<=c.toNat) && decide (c.toNat<=57)
def ZJ (y:Nat):Bool:=decide (y % 4=0) && !decide (y % 100=0) || decide (y % 400=0)
def TJ (m:Nat):Nat:=if m=2 then 28 else if m=4\/m=6\/m=9\/m=11 then 30 else 31
def SA (y m:Nat):Nat:=if m=2/\ZJ y=true then TJ m+1 else TJ m
def U8 (v:List UInt8):Bool:=decide ((1<=two v 4/\two v 4<=12)/\1<=two v 6/\two v 8<=23/\two v 10<=59/\two v 12<=59) && decide (two v 6<=SA (two v 0 * 100+two v 2) (two v 4))
def Hw (v:List UInt8):Bool:=decide (v.length=15) && decide (v.getD 14 0=90) && (v.take 14).all fM && U8 v
theorem adI {v:List UInt8} {i p:Nat} {z:Int} (hz:z=(i:Int)) (hi:i+1<v.length) (hv:v.length<=1000) (h1:fM (v.getD i 0)=true) (h2:fM (v.getD (i+1) 0)=true) (hL:L[p]?=some (.cells [.str v])) (h:K (.int .i64 (two v i:Nat)) L) :
  aee 105 [.int .i64 z,.ptr p 0] L K:=by
 subst hz;unfold two dig at h;obtain ⟨a,ha⟩:=aea (v.getD i 0);obtain ⟨b,hb⟩:=aea (v.getD (i+1) 0);rw [ha] at h1 h;rw [hb] at h2 h;simp only [fM,aek,decide_eq_true_eq] at h1 h2;obtain ⟨x,hx⟩:∃ x:Nat,a.toNat=48+x:=⟨a.toNat - 48,by omega⟩;obtain ⟨y,hy⟩:∃ y:Nat,b.toNat=48+y:=⟨b.toNat - 48,by omega⟩;have hx9:x<=9:=by omega
 have hy9:y<=9:=by omega
 rw [show 10 * (a.toNat - 48)+(b.toNat - 48)=10 * x+y by omega] at h;have hxa:(a.toNat:Int)=48+(x:Int):=by omega
 have hyb:(b.toNat:Int)=48+(y:Int):=by omega
 have g1:(i:Int)<(v.length:Int):=by omega
 have g2:=aec i (by omega);have g3:(i:Int)+1<(v.length:Int):=by omega
 have g4:((i:Int)+1).toNat=i+1:=by omega
 have g5:(0:Int)<=(i:Int)+1:=by omega
 have w1:IntKind.u8.wrap (48+(x:Int) - 48)=(x:Int):=by rw [cx (by omega) (by omega)];omega
 have w2:IntKind.u8.wrap (48+(y:Int) - 48)=(y:Int):=by rw [cx (by omega) (by omega)];omega
 have w3:IntKind.i64.wrap (x:Int)=(x:Int):=ad (by omega) (by omega);have w4:IntKind.i64.wrap (y:Int)=(y:Int):=ad (by omega) (by omega);have w5:IntKind.i64.wrap ((x:Int) * 10)=(x:Int) * 10:=ad (by omega) (by omega);have w6:IntKind.i64.wrap ((x:Int) * 10+(y:Int))=(x:Int) * 10+(y:Int):=ad (by omega) (by omega);have hfin:K (.int .i64 ((x:Int) * 10+(y:Int))) L:=by
  rwa [show ((10 * x+y:Nat):Int)=(x:Int) * 10+(y:Int) by omega] at h
 replace hfin:=hid hfin;clear h h1 h2 hx hy;refine aed HK ?_;exact ac hfin.out
theorem abP {m:Nat} (h1:1<=m) (h2:m<=12) {l:List AV} (hl:eR 2=some l):l.getD (m - 1) .undef=.int .i64 (TJ m:Nat)/\l.length=12:=by
 have e:eR 2=some [.int .i64 31,.int .i64 28,.int .i64 31,.int .i64 30,.int .i64 31,.int .i64 30,.int .i64 31,.int .i64 31,.int .i64 30,.int .i64 31,.int .i64 30,.int .i64 31]:=by rfl
 rw [e] at hl;cases hl;have:m=1\/m=2\/m=3\/m=4\/m=5\/m=6\/m=7\/m=8\/m=9\/m=10\/m=11\/m=12:=by omega
 rcases this with rfl|rfl|rfl|rfl|rfl|rfl|rfl|rfl|rfl|rfl|rfl|rfl<;>exact ⟨rfl,rfl⟩
theorem im {v:List UInt8} {i:Nat} (h1:fM (v.getD i 0)=true) (h2:fM (v.getD (i+1) 0)=true):two v i<=99:=by
 simp only [fM,aek,decide_eq_true_eq] at h1 h2;unfold two dig;omega
theorem UF {v:List UInt8} (hv:v.length<=1100000) (h:K (.bool (Hw v)) L):aee 82 [.str v] L K:=by
 have no:Hw v=false->K (.bool false) L:=fun e=>by rw [<- e];exact h
 replace no:=hid no;replace h:=hid h;refine af Lq (by simp [kR]) ?_;simp only [kR,aq];by_cases h15:v.length=15;rotate_left
 ·have f1:¬ (v.length:Int)=15:=by omega
  have h':=hid (no.out (by simp [Hw,h15]));clear h15;refine wk ?_;exact ab rfl h'.out
 have f1:(v.length:Int)=15:=by omega
 obtain ⟨z,hz⟩:=aea (v.getD 14 0);by_cases h90:z=90;rotate_left
 ·have f2:¬ (z.toNat:Int)=90:=fun e=>h90 ((bo z 90).1 e)
  have h':=hid (no.out (by simp [Hw,<- hz] at h90 ⊢;simp [h90]));clear h90;refine wk ?_;exact ab rfl h'.out
 have f2:(z.toNat:Int)=90:=by rw [h90];rfl
 obtain ⟨w,hw⟩:=aea (v.take 14);have hwl:w.length=14:=by rw [<- hw];simp [h15]
 have f3:(14:Int)<=(v.length:Int):=by omega
 have hul:(u8s w).length=14:=by simp [u8s,hwl]
 have hdall:=hid (show w.all fM=false->K (.bool false) L from fun e=>no.out (by simp [Hw,hw,e]));replace hw:=hid hw;have hw':v.take 14=w:=hw.out;have f4:(0:Int)<=14:=by omega
 refine wk ?_;refine ai (fun n T' L'=>∃ i:Nat,n=14 - i/\i<=14/\Hid ((w.take i).all fM=true)/\T'=[(22,.int .i64 (i:Int)),(21,.int .i64 14),(20,.sl (u8s w) 14 none),(1,.ptr L.length 0)]/\L'=L++[.cells [.str v]]) (CutS (b:=by simp)) ⟨0,rfl,aej _,hid rfl,rfl,rfl⟩ ?_;rintro _ _ _ ⟨i,rfl,hi,hall,rfl,rfl⟩;by_cases hlt:i<14
 ·have g1:(i:Int)<14:=by omega
  have g2:=aec i (by omega);obtain ⟨c,hc⟩:=aea (w.getD i 0);have g3:(u8s w).getD i .undef=.int .u8 c.toNat:=by rw [<- hc];simp [u8s,show i<w.length by omega]
  have hm:c∈w:=by rw [<- hc];simp [show i<w.length by omega]
  have htk:w.take (i+1)=w.take i++[c]:=by rw [aeL (by omega),<- hc];simp [show i<w.length by omega]
  have bad:=hid fun (e:fM c=false)=>hdall.out (agW.2 ⟨c,hm,by rw [e];simp⟩)
  have good:=hid fun (e:fM c=true)=>show (w.take (i+1)).all fM=true by rw [htk,agG,hall.out];simp [e]
  clear hc hm htk hw' h15 hwl
  repeat' first
   | refine aY ?_
   | (first|refine aO (by kernel_rfl) ?_|refine aA (by kernel_rfl) ?_|refine aB ?_|refine bw ?_|refine a6 (fun _=>?_)|refine ax ?_|refine aR ?_)
     refine sm ?_
   | (first|refine aK (by kernel_rfl) ?_|refine aP ?_|refine aQ ?_|refine bd (aw ?_))
     refine sl ?_
   | exact a7
   | first|apply a8|apply aL|apply ba|apply aM|apply bc|apply aN
   | refine aE ?_
   | first|refine aC rfl ?_|refine aD rfl ?_|refine ap rfl ?_ ?_|refine aG rfl (fun _=>?_) (fun _=>?_)|refine aF rfl (fun _=>?_) (fun _=>?_)
   | ((first|refine ao (fun _=>?_) (fun _=>?_)|refine au (fun _=>?_) (fun _=>?_))<;>try refine sm ?_)
   | refine And.intro trivial ?_
   | refine And.intro (by omega) ?_
   | refine aI rfl (fun _=>?_) (fun _=>?_)
   | refine And.intro ?_ ?_
  ·rename_i hx
   refine ab rfl (bad.out ?_);simp only [fM,agF,decide_eq_false_iff_not];omega
  ·rename_i hx
   refine ag _ _ _ (by omega) (CutL (b:=by simp)) ⟨i+1,rfl,by omega,hid (good.out ?_),rfl,rfl⟩;simp only [fM,aek,decide_eq_true_eq];omega
 have hke:i=14:=by omega
 subst hke;have g1:¬ ((14:Nat):Int)<14:=by omega
 have hda:=hall.out;rw [aeV (by omega)] at hda;have hdv:∀ i,i<14->fM (v.getD i 0)=true:=fun i hi=>by
  refine ael.1 hda _ ?_;rw [<- hw.out];have:v.getD i 0=(v.take 14)[i]'(by simp;omega):=by simp [show i<v.length by omega]
  rw [this];exact afi _
 have hdate:Hw v=U8 v:=by
  simp only [Hw,h15,hz,h90,hw.out,hda];simp
 have ct:∀ i:Nat,i+1<14->∀ (z:Int) (K:AV->List Blk->Prop),z=(i:Int)->K (.int .i64 (two v i:Nat)) (L++[.cells [.str v]])->aee 105 [.int .i64 z,.ptr L.length 0] (L++[.cells [.str v]]) K:=fun i hi z K hz h =>
  adI hz (by omega) (by omega) (hdv i (by omega)) (hdv (i+1) hi) (Qb _ _ _) h
 have b0:=im (hdv 0 (by omega)) (hdv 1 (by omega));have b2:=im (hdv 2 (by omega)) (hdv 3 (by omega));have b4:=im (hdv 4 (by omega)) (hdv 5 (by omega));have b6:=im (hdv 6 (by omega)) (hdv 7 (by omega));have b8:=im (hdv 8 (by omega)) (hdv 9 (by omega));have b10:=im (hdv 10 (by omega)) (hdv 11 (by omega));have b12:=im (hdv 12 (by omega)) (hdv 13 (by omega));have kk1:=@hid _ (fun {K:aef}=>ct 0 (by omega) 0 K rfl);have kk2:=@hid _ (fun {K:aef}=>ct 2 (by omega) 2 K rfl);have kk3:=@hid _ (fun {K:aef}=>ct 4 (by omega) 4 K rfl);have kk4:=@hid _ (fun {K:aef}=>ct 6 (by omega) 6 K rfl);have kk5:=@hid _ (fun {K:aef}=>ct 8 (by omega) 8 K rfl);have kk6:=@hid _ (fun {K:aef}=>ct 10 (by omega) 10 K rfl);have kk7:=@hid _ (fun {K:aef}=>ct 12 (by omega) 12 K rfl);have hfin:=h.out;rw [hdate] at hfin;unfold U8 at hfin;obtain ⟨Y,hY⟩:=aea (two v 0);obtain ⟨Y2,hY2⟩:=aea (two v 2);obtain ⟨M,hM⟩:=aea (two v 4);obtain ⟨D,hD⟩:=aea (two v 6);obtain ⟨H,hH⟩:=aea (two v 8);obtain ⟨I,hI⟩:=aea (two v 10);obtain ⟨S,hS⟩:=aea (two v 12);rw [hY] at b0 hfin kk1;rw [hY2] at b2 hfin kk2;rw [hM] at b4 hfin kk3;rw [hD] at b6 hfin kk4;rw [hH] at b8 hfin kk5;rw [hI] at b10 hfin kk6;rw [hS] at b12 hfin kk7;clear hY hY2 hM hD hH hI hS ct hdate hdv hda hall hw' hw hdall h15 hwl hul hi hlt f1 f2 f3 f4 hv h90 hz no h;have w1:IntKind.i64.wrap ((Y:Int) * 100)=(Y:Int) * 100:=ad (by omega) (by omega);have w2:IntKind.i64.wrap ((Y:Int) * 100+(Y2:Int))=(Y:Int) * 100+(Y2:Int):=ad (by omega) (by omega);have hbad:¬ ((1<=M/\M<=12)/\1<=D/\H<=23/\I<=59/\S<=59)->K (.bool false) L:=fun e=>by
  rw [decide_eq_false e] at hfin;simpa using hfin
 replace hbad:=hid hbad;replace hfin:=hid hfin;by_cases m1:(M:Int)<1
 ·refine wk ?_;exact ab rfl (hbad.out (by omega))
 by_cases m2:(12:Int)<(M:Int)
 ·refine wk ?_;exact ab rfl (hbad.out (by omega))
 by_cases m3:(D:Int)<1
 ·refine wk ?_;exact ab rfl (hbad.out (by omega))
 by_cases m4:(23:Int)<(H:Int)
 ·refine wk ?_;exact ab rfl (hbad.out (by omega))
 by_cases m5:(59:Int)<(I:Int)
 ·refine wk ?_;exact ab rfl (hbad.out (by omega))
 by_cases m6:(59:Int)<(S:Int)
 ·refine wk ?_;exact ab rfl (hbad.out (by omega))
 have hgood:=hid (show decide (D<=SA (Y * 100+Y2) M)=true\/decide (D<=SA (Y * 100+Y2) M)=false by cases decide (D<=SA (Y * 100+Y2) M)<;>simp);have hfin2:=hfin.out;rw [show decide ((1<=M/\M<=12)/\1<=D/\H<=23/\I<=59/\S<=59)=true by simp;omega,ae7] at hfin2;unfold SA ZJ at hfin2;obtain ⟨dn,hdn⟩:=aea (TJ M);have hdb:dn<=31:=by rw [<- hdn];unfold TJ;split<;>(try split)<;>omega
 obtain ⟨r4,hr4⟩:=aea ((Y * 100+Y2) % 4);obtain ⟨r100,hr100⟩:=aea ((Y * 100+Y2) % 100);obtain ⟨r400,hr400⟩:=aea ((Y * 100+Y2) % 400);rw [hr4,hr100,hr400,hdn] at hfin2;have t4:Int.tmod ((Y:Int) * 100+(Y2:Int)) 4=(r4:Int):=by rw [agd (by omega)];omega
 have t100:Int.tmod ((Y:Int) * 100+(Y2:Int)) 100=(r100:Int):=by rw [agd (by omega)];omega
 have t400:Int.tmod ((Y:Int) * 100+(Y2:Int)) 400=(r400:Int):=by rw [agd (by omega)];omega
 have x1:IntKind.i64.wrap ((M:Int) - 1)=(M:Int) - 1:=ad (by omega) (by omega);have x2:((M:Int) - 1).toNat=M - 1:=by omega
 have x3:(0:Int)<=(M:Int) - 1:=by omega
 have x4:(M:Int) - 1<12:=by omega
 obtain ⟨x5,x6⟩:=abP (m:=M) (by omega) (by omega) U3;rw [hdn] at x5;have x7:=aec dn (by omega);replace hfin2:=hid hfin2;clear hr4 hr100 hr400 hdn hgood
 repeat' first
  | refine aY ?_
  | (first|refine aO (by kernel_rfl) ?_|refine aA (by kernel_rfl) ?_|refine aB ?_|refine bw ?_|refine a6 (fun _=>?_)|refine ax ?_|refine aR ?_|refine kk1.out ?_|refine kk2.out ?_|refine kk3.out ?_|refine kk4.out ?_|refine kk5.out ?_|refine kk6.out ?_|refine kk7.out ?_|refine bj (kk1.out ⟨rfl,rfl⟩) (kk1.out ⟨rfl,rfl⟩) ?_|refine bj (kk2.out ⟨rfl,rfl⟩) (kk2.out ⟨rfl,rfl⟩) ?_|refine bj (kk3.out ⟨rfl,rfl⟩) (kk3.out ⟨rfl,rfl⟩) ?_|refine bj (kk4.out ⟨rfl,rfl⟩) (kk4.out ⟨rfl,rfl⟩) ?_|refine bj (kk5.out ⟨rfl,rfl⟩) (kk5.out ⟨rfl,rfl⟩) ?_|refine bj (kk6.out ⟨rfl,rfl⟩) (kk6.out ⟨rfl,rfl⟩) ?_|refine bj (kk7.out ⟨rfl,rfl⟩) (kk7.out ⟨rfl,rfl⟩) ?_|refine aS (kk1.out ⟨rfl,rfl⟩) ?_|refine aS (kk2.out ⟨rfl,rfl⟩) ?_|refine aS (kk3.out ⟨rfl,rfl⟩) ?_|refine aS (kk4.out ⟨rfl,rfl⟩) ?_|refine aS (kk5.out ⟨rfl,rfl⟩) ?_|refine aS (kk6.out ⟨rfl,rfl⟩) ?_|refine aS (kk7.out ⟨rfl,rfl⟩) ?_)
    refine sm ?_
  | (first|refine aK (by kernel_rfl) ?_|refine aP ?_|refine aQ ?_|refine bd (aw ?_))
    refine sl ?_
  | exact a7
  | first|apply a8|apply aL|apply ba|apply aM|apply bc|apply aN
  | refine aE ?_
  | first|refine aC rfl ?_|refine aD rfl ?_|refine ap rfl ?_ ?_|refine aG rfl (fun _=>?_) (fun _=>?_)|refine aF rfl (fun _=>?_) (fun _=>?_)
  | ((first|refine ao (fun _=>?_) (fun _=>?_)|refine au (fun _=>?_) (fun _=>?_))<;>try refine sm ?_)
  | refine And.intro trivial ?_
  | refine And.intro (by omega) ?_
  | refine aI rfl (fun _=>?_) (fun _=>?_)
  | refine And.intro ?_ ?_
 ·rename_i hx
  refine ab rfl ?_;have e:=hfin2.out;rw [if_pos ⟨by omega,by simp;omega⟩] at e
  rwa [show decide (D<=dn+1)=decide ((D:Int)<=(dn:Int)+1) by simp only [decide_eq_decide];omega] at e
 ·rename_i hx
  refine ab rfl ?_;have e:=hfin2.out;rw [if_neg (fun ⟨e1,e2⟩=>hx ⟨by omega,by simp at e2;omega⟩)] at e
  rwa [show decide (D<=dn)=decide ((D:Int)<=(dn:Int)) by simp only [decide_eq_decide];omega] at e
theorem Zo:eR 6=some (Lib.pow10Tab.map (AV.int .u64)):=by rfl
theorem XK:Tryz.prog.globalNamed "internal/strconv.uint64pow10" = some 6:=by kernel_rfl
theorem adQ {n:Int} (hn:I64 n) (h:K (.str (Lib.itoa n)) L):aee 102 [.int .i64 n,.int .i64 10] L K :=
 fO Tryz.func102 rfl (by kernel_rfl) (fun w0 S0 E w vs hR hv=>by
  simp only [VRL,VR] at hv;obtain ⟨_,_,rfl,rfl,_,_,rfl,rfl,rfl⟩:=hv;refine (Tryz.strconv_FormatInt_10 n hn.1 hn.2 w (hR.table XK Zo (by simp [Lib.pow10Tab]))).mono fun e w' ⟨he,k,os,hw⟩=>⟨_,he,by simp [VR],by subst hw;exact LJ.of_grow w k os⟩) h
theorem uv {w w':World} (h:RowKit.Below w.heap.size w w'):LJ w w':=⟨fun b hb=>h.block b hb,h.size,h.os,h.tape,h.output⟩
theorem U5 {w0:World} {S0:SB} {E:Env} {L:List Blk} {w:World} (hR:Rel w0 S0 E L w) {g:Nat} {t:TypeId} (hp:eR g=some [.iface t .undef]):∃ x,w.cell? ⟨g,0,none⟩=some (.iface t x):=by
 have hm:=uw hp;obtain ⟨v,h1,h2⟩:=(hR.glob.env hm).get (i:=0) (a:=.iface t .undef) rfl;simp only [VR] at h2;obtain ⟨x,rfl,_⟩:=h2;exact ⟨x,by simpa using hR.mem _ _ _ h1⟩
theorem Zq {l:List UInt8} {n:Int} (hl:(l.length:Int)<=1100000) (hp:Lib.parseIntB 64 l=.ok n) (h:K (.tup [.int .i64 n,.nilif]) L):aee 101 [.str l,.int .i64 10,.int .i64 64] L K :=
 fO Tryz.func101 rfl (by kernel_rfl) (fun w0 S0 E w vs hR hv=>by
  simp only [VRL,VR] at hv;obtain ⟨_,_,rfl,rfl,_,_,rfl,rfl,_,_,rfl,rfl,rfl⟩:=hv;refine (Tryz.strconv_ParseInt_10_at64_ok ⟨⟨l⟩⟩ (show l.length<=_ by omega) n hp w).mono fun e w' ⟨he,hw⟩=>⟨_,he,by simp [VR,VRL],?_⟩
  rcases hw with rfl|⟨t,rfl⟩
  ·exact LJ.refl _
  ·exact uv (Lib.bytesWorld_below _ _ _)) h
theorem Zr {l:List UInt8} (hl:(l.length:Int)<=1100000) (hp:∀ n,Lib.parseIntB 64 l ≠ .ok n) (h:K (.tup [.int .i64 (RV l),.iface 195 .undef]) L):aee 101 [.str l,.int .i64 10,.int .i64 64] L K :=
 fO Tryz.func101 rfl (by kernel_rfl) (fun w0 S0 E w vs hR hv=>by
  simp only [VRL,VR] at hv;obtain ⟨_,_,rfl,rfl,_,_,rfl,rfl,_,_,rfl,rfl,rfl⟩:=hv
  match hq:Lib.parseIntB 64 l with
  | .ok n=>exact absurd hq (hp n)
  | .syntax =>
    obtain ⟨x,hx⟩:=U5 hR (g:=4) rfl;refine (Tryz.strconv_ParseInt_10_at64_syntax ⟨⟨l⟩⟩ (show l.length<=_ by omega) hq _ w hx (.inr ⟨_,_,rfl⟩)).mono fun e w' ⟨N,he,_,_,hw⟩=>⟨_,he,?_,uv hw⟩
    have e0:RV l=0:=by simp [RV,hq]
    rw [e0];simp [VR,VRL];exact ⟨_,_,⟨rfl,rfl⟩,rfl,_,rfl,_,rfl⟩
  | .range =>
    obtain ⟨x,hx⟩:=U5 hR (g:=5) rfl;refine (Tryz.strconv_ParseInt_10_at64_range ⟨⟨l⟩⟩ (show l.length<=_ by omega) hq _ w hx (.inr ⟨_,_,rfl⟩)).mono fun e w' ⟨N,he,_,_,hw⟩=>⟨_,he,?_,uv hw⟩
    have e0:RV l=Lib.intSat 64 l:=by simp [RV,hq]
    rw [e0];simp [VR,VRL];exact ⟨_,_,⟨rfl,rfl⟩,rfl,_,rfl,_,rfl⟩) h
theorem UB {l:List UInt8} (hl:(l.length:Int)<=1100000) (h:K (.tup [.int .i64 (RV l),.bool (tT l)]) L):aee 80 [.str l] L K:=by
 replace h:=hid h;refine af Lp (by simp [kQ]) ?_;simp only [kQ,aq];by_cases hp:∃ n,Lib.parseIntB 64 l=.ok n
 ·obtain ⟨n,hp⟩:=hp;have hr:=hid (Pi hp);have e1:=hid (show RV l=n by simp [RV,hp]);have e2:=hid (show tT l=decide (Lib.itoa n=l) by simp [tT,hp]);replace hp:=hid hp;have kk1:=@hid _ (fun L K=>Zq hl hp.out (L:=L) (K:=K));have kk2:=@hid _ (fun L K=>adQ hr.out (L:=L) (K:=K));refine wk ?_;refine ac ?_;have h:=h.out;rw [e1.out,e2.out] at h;exact h
 ·have hp':=hid (show ∀ n,Lib.parseIntB 64 l ≠ .ok n from fun n e=>hp ⟨n,e⟩);have e2:=hid (show tT l=false by
   unfold tT;split
   ·rename_i n hn;exact absurd ⟨n,hn⟩ hp
   ·rfl)
  clear hp;have kk1:=@hid _ (fun L K=>Zr hl hp'.out (L:=L) (K:=K));refine wk ?_;refine ac ?_;have h:=h.out;rw [e2.out] at h;exact h
theorem Wl:eR 0=some ((List.range 256).map fun c=>AV.int .u8 (Lib.firstT c:Int)):=by kernel_rfl
theorem Vo:eR 1=some ((List.range 16).flatMap fun i=>[AV.int .u8 (Lib.accLo i:Int),AV.int .u8 (Lib.accHi i:Int)]):=by kernel_rfl
theorem Ol {w0:World} {S0:SB} {E:Env} {L:List Blk} {w:World} (hR:Rel w0 S0 E L w) {g i:Nat} {l:List AV} {k:IntKind} {z:Int} (hp:eR g=some l) (hi:l[i]?=some (.int k z)):w.cell? ⟨g,i,none⟩=some (.int k z):=by
 have hm:=uw hp;obtain ⟨v,h1,h2⟩:=(hR.glob.env hm).get (i:=i) (a:=.int k z) hi;simp only [VR] at h2;subst h2;simpa using hR.mem _ _ _ h1
theorem Xo {w0:World} {S0:SB} {E:Env} {L:List Blk} {w:World} (hR:Rel w0 S0 E L w):Lib.Utf8Tabs 0 1 w:=by
 refine ⟨fun c hc=>Ol hR Wl ?_,fun i hi=>⟨Ol hR Vo ?_,Ol hR Vo ?_⟩⟩
 ·simp [hc]
 ·have:∀ i:_root_.Fin 16,((List.range 16).flatMap fun i=>[AV.int .u8 (Lib.accLo i:Int),AV.int .u8 (Lib.accHi i:Int)])[2 * i.val]?=some (.int .u8 (Lib.accLo i.val:Int)):=fun i=>by
   match i with
   | ⟨0,_⟩|⟨1,_⟩|⟨2,_⟩|⟨3,_⟩|⟨4,_⟩|⟨5,_⟩|⟨6,_⟩|⟨7,_⟩|⟨8,_⟩|⟨9,_⟩|⟨10,_⟩|⟨11,_⟩|⟨12,_⟩|⟨13,_⟩|⟨14,_⟩|⟨15,_⟩=>rfl
   | ⟨n+16,h⟩=>omega
  exact this ⟨i,hi⟩
 ·have:∀ i:_root_.Fin 16,((List.range 16).flatMap fun i=>[AV.int .u8 (Lib.accLo i:Int),AV.int .u8 (Lib.accHi i:Int)])[2 * i.val+1]?=some (.int .u8 (Lib.accHi i.val:Int)):=fun i=>by
   match i with
   | ⟨0,_⟩|⟨1,_⟩|⟨2,_⟩|⟨3,_⟩|⟨4,_⟩|⟨5,_⟩|⟨6,_⟩|⟨7,_⟩|⟨8,_⟩|⟨9,_⟩|⟨10,_⟩|⟨11,_⟩|⟨12,_⟩|⟨13,_⟩|⟨14,_⟩|⟨15,_⟩=>rfl
   | ⟨n+16,h⟩=>omega
  exact this ⟨i,hi⟩
theorem H7 {l:List UInt8} (hl:l.length<=1100000) (h:K (.bool (Lib.validD l)) L):aee 77 [.str l] L K :=
 fO Tryz.func77 rfl (by kernel_rfl) (fun w0 S0 E w vs hR hv=>by
  simp only [VRL,VR] at hv;obtain ⟨_,_,rfl,rfl,rfl⟩:=hv;exact (Any.utf8_ValidString Tryz.lays196 ⟨⟨l⟩⟩ w (show l.length<=_ by omega) (Xo hR)).mono fun e w' ⟨he,hw⟩=>⟨_,he,by simp [VR],uv hw⟩) h
theorem uh {a b:List UInt8} {L:List Blk} {K:aef} (h:K (.int .i64 (Lib.compareBytes a b)) L):aee 70 [.str a,.str b] L K :=
 fO Tryz.func70 rfl (by kernel_rfl) (fun w0 S0 E w vs hR hv=>by
  simp only [VRL,VR] at hv;obtain ⟨_,_,rfl,rfl,_,_,rfl,rfl,rfl⟩:=hv;exact (Tryz.strings_Compare ⟨⟨a⟩⟩ ⟨⟨b⟩⟩ w).mono fun e w' ⟨he,hw⟩=>⟨_,he,by simp [VR],by subst hw;exact LJ.refl _⟩) h
abbrev aau:List UInt8:=[84,82,85,69]
abbrev WE:List UInt8:=[70,65,76,83,69]
def Zy (syn:Int) (v:List UInt8):Option (List UInt8) :=
 if syn=1 then (if v=[] then none else if Lib.validD v=true then some (fG v) else none)
 else if syn=2 then (if v=[] then none else if Lib.validD v=true then some v else none)
 else if syn=3 then (if OP v=true then some (fG v) else none)
 else if syn=4 then (if tT v=true then some v else none)
 else if syn=5 then (if v=aau\/v=WE then some v else none)
 else if syn=6 then (if (UN v).2=0 then some (UN v).1 else none)
 else if syn=7 then some v
 else if syn=8 then (if Hw v=true then some v else none)
 else none
def ci (syn:Int) (v:List UInt8):Option (List UInt8):=if 4096<v.length then none else Zy syn v
def gj:Option (List UInt8)->AV
 | some n=>.tup [.str n,.bool true]
 | none=>.tup [.str [],.bool false]
theorem jq {syn:Int} {v:List UInt8} (h:K (gj (ci syn v)) L):aee 52 [.int .i64 syn,.str v] L K:=by
 unfold ci at h;refine af Oo (by simp [oM]) ?_;simp only [oM,aq];by_cases hl:4096<v.length
 ·have f1:(4096:Int)<(v.length:Int):=by omega
  rw [if_pos hl] at h;replace h:=hid h;clear hl;refine wk ?_;exact ac h.out
 have f1:¬ (4096:Int)<(v.length:Int):=by omega
 rw [if_neg hl] at h;have vl1:v.length<=1100000:=by omega
 have vl2:(v.length:Int)<=100000:=by omega
 have vl3:(v.length:Int)<=1100000:=by omega
 unfold Zy at h;clear hl;by_cases s1:syn=1
 ·subst s1;rw [if_pos rfl] at h;by_cases hv:v=[]
  ·rw [if_pos hv] at h;replace h:=hid h;subst hv;have kk1:=@hid _ (fun L K=>ul vl2 (L:=L) (K:=K));have kk2:=@hid _ (fun L K=>H7 vl1 (L:=L) (K:=K));refine wk ?_;exact ac h.out
  ·rw [if_neg hv] at h;cases hd:Lib.validD v with
   | true =>
     rw [hd,if_pos rfl] at h;replace h:=hid h;have kk1:=@hid _ (fun L K=>ul vl2 (L:=L) (K:=K));have kk2:=@hid _ (fun L K=>H7 vl1 (L:=L) (K:=K));refine wk ?_;exact ac h.out
   | false =>
     rw [hd,if_neg (by simp)] at h;replace h:=hid h;have kk1:=@hid _ (fun L K=>ul vl2 (L:=L) (K:=K));have kk2:=@hid _ (fun L K=>H7 vl1 (L:=L) (K:=K));refine wk ?_;exact ac h.out
 rw [if_neg s1] at h;by_cases s2:syn=2
 ·subst s2;rw [if_pos rfl] at h;by_cases hv:v=[]
  ·rw [if_pos hv] at h;replace h:=hid h;have kk1:=@hid _ (fun L K=>H7 vl1 (L:=L) (K:=K));refine wk ?_;exact ac h.out
  ·rw [if_neg hv] at h;cases hd:Lib.validD v with
   | true =>
     rw [hd,if_pos rfl] at h;replace h:=hid h;have kk1:=@hid _ (fun L K=>H7 vl1 (L:=L) (K:=K));refine wk ?_;exact ac h.out
   | false =>
     rw [hd,if_neg (by simp)] at h;replace h:=hid h;have kk1:=@hid _ (fun L K=>H7 vl1 (L:=L) (K:=K));refine wk ?_;exact ac h.out
 rw [if_neg s2] at h;by_cases s3:syn=3
 ·subst s3;rw [if_pos rfl] at h;replace h:=hid h;have kk1:=@hid _ (fun L K=>ul vl2 (L:=L) (K:=K));refine wk ?_;refine ZR vl1 (fun e=>?_) (fun k e=>?_)
  ·have h':=h.out;rw [if_pos e] at h';replace h':=hid h';refine sk ?_;refine wk ?_;exact ac h'.out
  ·have h':=h.out;rw [if_neg (by rw [e];simp)] at h';replace h':=hid h';have k0:¬ (k:Int)<0:=by omega
   refine sk ?_;refine wk ?_;exact ac h'.out
 rw [if_neg s3] at h;by_cases s4:syn=4
 ·subst s4;rw [if_pos rfl] at h;cases hd:tT v with
  | true =>
    rw [hd,if_pos rfl] at h;replace h:=hid h;have kk1:=@hid _ (fun L K=>UB vl3 (L:=L) (K:=K));refine wk ?_;exact ac h.out
  | false =>
    rw [hd,if_neg (by simp)] at h;replace h:=hid h;have kk1:=@hid _ (fun L K=>UB vl3 (L:=L) (K:=K));refine wk ?_;exact ac h.out
 rw [if_neg s4] at h;by_cases s5:syn=5
 ·subst s5;rw [if_pos rfl] at h;by_cases t1:v=aau
  ·rw [if_pos (.inl t1)] at h;replace h:=hid h;have c1:(decide (v=[84,82,85,69]):Bool)=true:=decide_eq_true t1;subst t1;refine wk ?_;exact ac h.out
  ·by_cases t2:v=WE
   ·rw [if_pos (.inr t2)] at h;replace h:=hid h;subst t2;have t3:¬ ([70,65,76,83,69]:List UInt8)=[84,82,85,69]:=by decide
    clear t1;refine wk ?_;exact ac h.out
   ·rw [if_neg (fun e=>e.elim t1 t2)] at h;replace h:=hid h;refine wk ?_;exact ac h.out
 rw [if_neg s5] at h;by_cases s6:syn=6
 ·subst s6;rw [if_pos rfl] at h;obtain ⟨⟨k,e⟩,hk⟩:∃ p,UN v=p:=⟨_,rfl⟩;rw [hk] at h;simp only at h;by_cases he:e=0
  ·subst he;rw [if_pos rfl] at h;replace h:=hid h;refine wk ?_;refine acj ?_;rw [hk];simp only [pi];refine sk ?_;refine wk ?_;exact ac h.out
  ·rw [if_neg he] at h;replace h:=hid h;refine wk ?_;refine acj ?_;rw [hk];simp only [pi];refine sk ?_;refine wk ?_;exact ac h.out
 rw [if_neg s6] at h;by_cases s7:syn=7
 ·subst s7;rw [if_pos rfl] at h;replace h:=hid h;refine wk ?_;exact ac h.out
 rw [if_neg s7] at h;by_cases s8:syn=8
 ·subst s8;rw [if_pos rfl] at h;cases hd:Hw v with
  | true =>
    rw [hd,if_pos rfl] at h;replace h:=hid h;have kk1:=@hid _ (fun L K=>UF vl1 (L:=L) (K:=K));refine wk ?_;exact ac h.out
  | false =>
    rw [hd,if_neg (by simp)] at h;replace h:=hid h;have kk1:=@hid _ (fun L K=>UF vl1 (L:=L) (K:=K));refine wk ?_;exact ac h.out
 rw [if_neg s8] at h;replace h:=hid h;refine wk ?_;exact ac h.out
theorem TK:∀ a b:List UInt8,Lib.compareBytes a b=if a<b then -1 else if b<a then 1 else 0
 | [],[]=>by simp [Lib.compareBytes]
 | [],b::bs=>by simp [Lib.compareBytes]
 | a::xs,[]=>by simp [Lib.compareBytes]
 | a::xs,b::bs=>by
   rw [Lib.compareBytes,TK xs bs];simp only [List.cons_lt_cons_iff];by_cases h1:a<b
   ·rw [if_pos h1,if_pos (.inl h1)]
   ·rw [if_neg h1];by_cases h2:b<a
    ·rw [if_pos h2,if_neg,if_pos (.inl h2)];rintro (e|⟨e,_⟩)
     ·exact h1 e
     ·subst e;exact h1 h2
    ·rw [if_neg h2];have e:a=b:=by
      rcases agQ a.toNat b.toNat with h|h|h
      ·exact absurd h h1
      ·exact afZ.1 h
      ·exact absurd h h2
     subst e;simp
end Go.Proofs.YtigifoeopopnbaaGreatDoor.Av
