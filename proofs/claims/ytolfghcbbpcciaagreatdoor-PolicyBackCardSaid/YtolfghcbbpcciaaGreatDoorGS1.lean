/- Joined texts of the walk, made small by a program. -/
import Derived.Test.YtolfghcbbpcciaaGreatDoorGP4
import Derived.Test.YtolfghcbbpcciaaGreatDoorRows
import Derived.KernelRfl
import Derived.Test.YtolfghcbbpcciaaGreatDoorGD1
import Derived.Test.YtolfghcbbpcciaaGreatDoorGP5
import Derived.Test.YtolfghcbbpcciaaGreatDoorGShelfP
import Derived.Sort.Walk0
import Derived.Test.YtolfghcbbpcciaaGreatDoorGD2
set_option linter.unusedSimpArgs false
set_option linter.unusedVariables false
set_option maxRecDepth 100000
namespace Go.Proofs.YtolfghcbbpcciaaGreatDoor.Av
open Go
def j6:LSO:=[A6 1 0,Ah 2]
def j5:LSO:=[Ac 10 1 1,Ap 11 10,A7 12 11 15,Aa 13 12,.grp none 13 false
 [AB 14 13 1 1,Bw 15 13 14 14,og 16 13 false (.bin .neq (tm 15) (.av (.int .u8 90)))]
 17 (tm 16)]
def j4:LSO:=[Ah 2]
def jZ:LSO:=[Ac 18 1 1,o1 19 (.slS (tm 18) none (some (iv 14))),o1 20 (.s2b (tm 19)),Ak 21 20,Ab 22 0]
def jY:LSO:=[Aj 23 22 21]
def jX:LSO:=[Ao 24 1 20 22,Ac 25 1 24,Aa 4 25]
def jW:LSO:=[Aa 26 4,o1 27 (.bin .lss (tm 26) (.av (.int .u8 48))),Aa 28 27,.grp none 28 false
 [Af 29 28 4,og 30 28 false (.bin .gtr (tm 29) (.av (.int .u8 57)))]
 31 (tm 30)]
def jV:LSO:=[Ah 2]
def jU:LSO:=[Ag 32 22 1,Aa 22 32]
def jT:LSO:=[o1 33 (.mkfn 121 [(tm 1)]),Aa 5 33]
def jn:LSO:=[Aa 34 5,Bx 35 34 0,o1 36 (.bin .mul (tm 35) (iv 100)),Aa 37 5,Bx 38 37 2,AE 39 36 38,Aa 40 5,Bx 41 40 4,Aa 42 5,Bx 43 42 6,Aa 6 39,Aa 7 41,Aa 8 43]
def jm:LSO:=[Aa 44 7,AK 45 44 1,Aa 46 45,.grp none 46 false
 [Af 47 46 7,A3 48 46 47 12]
 49 (tm 48),Aa 50 49,.grp none 50 false
 [Af 51 50 8,BF 52 50 51 1]
 53 (tm 52),Aa 54 53,.grp none 54 false
 [Af 55 54 5,BG 56 54 55 8,A3 57 54 56 23]
 58 (tm 57),Aa 59 58,.grp none 59 false
 [Af 60 59 5,BG 61 59 60 10,A3 62 59 61 59]
 63 (tm 62),Aa 64 63,.grp none 64 false
 [Af 65 64 5,BG 66 64 65 12,A3 67 64 66 59]
 68 (tm 67)]
def jl:LSO:=[Ah 2]
def jk:LSO:=[Aa 69 7,AA 70 69 1,o1 71 (.iaddrA 12 1 (.av (.gptr 4 0)) (tm 70)),Ac 72 1 71,Aa 9 72]
def jj:LSO:=[Aa 73 7,Aq 74 73 2,Aa 75 74,.grp none 75 true
 [Ae 76 75 6,By 77 75 76 4,Bd 78 75 77 0,Ae 79 75 78,.grp (some (75,true)) 79 true
 [Ae 80 79 6,By 81 79 80 100,og 82 79 true (.bin .neq (tm 81) (iv 0))]
 83 (tm 82),Ae 84 75 83,.grp (some (75,true)) 84 false
 [Af 85 84 6,og 86 84 false (.bin .rem (tm 85) (iv 400)),AC 87 84 86 0]
 88 (tm 87)]
 89 (tm 88)]
def ji:LSO:=[Aa 90 9,Ag 91 90 1,Aa 9 91]
def jh:LSO:=[Aa 92 8,Aa 93 9,o1 94 (.bin .leq (tm 92) (tm 93)),Aa 2 94]
def iR:ba:=⟨95,(.seq (.sreg j6 [])
 (.seq (.seq (.sreg j5 BY)
 (.cond (tm 17) (.seq (.sreg j4 [])
 .ret)
 .skip))
 (.seq (.seq (.sreg jZ Cp)
 (.block 0 (.loop (.seq (.sreg jY [])
 (.seq (.cond (tm 23) .skip
 (.exit 0))
 (.seq (.block 1 (.seq (.sreg jX BW)
 (.seq (.sreg jW BX)
 (.cond (tm 31) (.seq (.sreg jV [])
 .ret)
 .skip))))
 (.sreg jU BV)))))))
 (.seq (.sreg jT BV)
 (.seq (.sreg jn [true,true,true,false,false,false,false,false,false,false,false,false,false])
 (.seq (.seq (.sreg jm Cu)
 (.cond (tm 68) (.seq (.sreg jl [])
 .ret)
 .skip))
 (.seq (.sreg jk BY)
 (.seq (.seq (.sreg jj BX)
 (.cond (tm 89) (.sreg ji BW)
 .skip))
 (.seq (.sreg jh BX)
 .ret))))))))),[(.tmp 2)]⟩
attribute [push_cast] j6 j5 j4 jZ jY jX jW jV jU jT jn jm jl jk jj ji jh
theorem F7:bb Tryz.prog (fun _ _=>1) 88=some iR.raw:=by kernel_rfl
def iY:LSO:=[Ab 3 0]
def iX:LSO:=[Ac 4 1 1,Aa 5 0,A0 6 4 5,Bl 7 6,AZ 8 7,o1 9 (.bin .mul (tm 8) (iv 10)),Ac 10 1 1,Aa 11 0,Ag 12 11 1,A0 13 10 12,Bl 14 13,AZ 15 14,AE 16 9 15,
 Aa 3 16]
def gn:ba:=⟨17,(.seq (.sreg iY [])
 (.seq (.sdreg iX [(.read 0 0),.pure,(.read 0 0),.pure,.pure,.pure,(.read 0 0),.pure,.pure,(.read 0 0),.pure,.pure] [true,false,false,false,false,false,false,false,false,false,false,false,false,false])
 .ret)),[(.tmp 3)]⟩
attribute [push_cast] iY iX
theorem CI:bb Tryz.prog (fun _ _=>1) 121=some gn.raw:=by kernel_rfl
def jS:LSO:=[Ab 2 0,Ah 3]
def jR:LSO:=[Aa 7 0,o1 8 (.call 64 [(tm 7),(iv 10),(iv 64)]),Aa 6 8,Ar 9 6,As 10 6,Aa 4 9,Aa 5 10]
def jQ:LSO:=[Aa 11 4,Aa 12 5,o1 13 (.eqk false .iface (tm 12) (.av .nilif)),Aa 14 13,.grp none 14 true
 [Ae 15 14 4,og 16 14 true (.call 30 [(tm 15),(iv 10)]),Ae 17 14 0,og 18 14 true (.bin .eql (tm 16) (tm 17))]
 19 (tm 18),Aa 2 11,Aa 3 19]
def iQ:ba:=⟨20,(.seq (.sreg jS [])
 (.seq (.sreg jR Cd)
 (.seq (.sreg jQ Cd)
 .ret))),[(.tmp 2),(.tmp 3)]⟩
attribute [push_cast] jS jR jQ
theorem F6:bb Tryz.prog (fun _ _=>1) 86=some iQ.raw:=by kernel_rfl
def j8:LSO:=[Ah 2]
def j7:LSO:=[Aa 3 0,o1 4 (.bin .geq (tm 3) (.av (.int .i32 128))),Aa 2 4]
def iS:ba:=⟨5,(.seq (.sreg j8 [])
 (.seq (.sreg j7 BW)
 .ret)),[(.tmp 2)]⟩
attribute [push_cast] j8 j7
theorem F8:bb Tryz.prog (fun _ _=>1) 85=some iS.raw:=by kernel_rfl
def gI:LSO:=[Ab 4 0]
def gH:LSO:=[Aa 5 0,Aa 6 1,o1 7 (.call 118 [(tm 5),(tm 6),(.av (.bool true))]),Aa 4 7]
def fA:ba:=⟨8,(.seq (.sreg gI [])
 (.seq (.sreg gH BX)
 .ret)),[(.tmp 4)]⟩
attribute [push_cast] gI gH
theorem p0:bb Tryz.prog (fun _ _=>1) 84=some fA.raw:=by kernel_rfl
def gG:LSO:=[Ab 6 0]
def gF:LSO:=[Aa 9 0,o1 10 (.rangeS (tm 9))]
def gE:LSO:=[o1 11 (.nextS (tm 10)),Ar 12 11]
def gD:LSO:=[As 13 11,AX 14 11,Aa 7 13,Aa 8 14]
def gC:LSO:=[Aa 15 1,Aa 16 8,o1 17 (.callv (tm 15) [(tm 16)]),Aa 18 2,o1 19 (.eqk false .bool (tm 17) (tm 18))]
def gB:LSO:=[Aa 20 7,Aa 6 20]
def gA:LSO:=[Ab 6 (-1)]
def fz:ba:=⟨21,(.seq (.sreg gG [])
 (.seq (.seq (.sreg gF BV)
 (.block 0 (.loop (.seq (.sreg gE [])
 (.seq (.cond (tm 12) .skip
 (.exit 0))
 (.block 1 (.seq (.sreg gD Cf)
 (.seq (.sreg gC BY)
 (.cond (tm 19) (.seq (.sreg gB BV)
 .ret)
 .skip)))))))))
 (.seq (.sreg gA [])
 .ret))),[(.tmp 6)]⟩
attribute [push_cast] gG gF gE gD gC gB gA
theorem pZ:bb Tryz.prog (fun _ _=>1) 118=some fz.raw:=by kernel_rfl
def Ea:LSO:=[Ah 2]
def D9:LSO:=[Aa 7 0,Ap 8 7,Az 9 8 0]
def D8:LSO:=[Aa 10 0,Bz 11 10 0,AZ 12 11,Aa 3 12]
def D7:LSO:=[Ab 4 1]
def D6:LSO:=[Aa 13 3,AS 14 13 240]
def D5:LSO:=[Ab 4 4]
def D4:LSO:=[Aa 15 3,AA 16 15 240,Aa 3 16]
def D3:LSO:=[Aa 17 3,AS 18 17 224]
def D2:LSO:=[Ab 4 3]
def D1:LSO:=[Aa 19 3,AA 20 19 224,Aa 3 20]
def xW:LSO:=[Aa 21 3,AS 22 21 192]
def xV:LSO:=[Ab 4 2]
def xU:LSO:=[Aa 23 3,AA 24 23 192,Aa 3 24]
def xT:LSO:=[Aa 25 3,AS 26 25 128]
def xS:LSO:=[Ah 2]
def xR:LSO:=[Aa 27 0,Ap 28 27,Aa 29 4,Aj 30 28 29]
def xQ:LSO:=[Ah 2]
def xP:LSO:=[Ab 5 1]
def xO:LSO:=[Aa 31 5,Aa 32 4,Aj 33 31 32]
def xN:LSO:=[Aa 36 0,Aa 37 5,A0 38 36 37,AZ 39 38,Aa 6 39]
def xM:LSO:=[Aa 40 6,AK 41 40 128,Aa 42 41,.grp none 42 false
 [Af 43 42 6,B0 44 42 43 192]
 45 (tm 44)]
def xL:LSO:=[Ah 2]
def xK:LSO:=[Aa 46 3,o1 47 (.bin .mul (tm 46) (iv 64)),Aa 48 6,AE 49 47 48,AA 50 49 128,Aa 3 50]
def xJ:LSO:=[Aa 34 5,Ag 35 34 1,Aa 5 35]
def xI:LSO:=[Aa 51 4,Aq 52 51 2,Aa 53 52,.grp none 53 true
 [Ae 54 53 3,Bm 55 53 54 128]
 56 (tm 55),Aa 57 56,.grp none 57 false
 [Af 58 57 4,AC 59 57 58 3,Af 60 57 59,.grp (some (57,false)) 60 true
 [Ae 61 60 3,Bm 62 60 61 2048]
 63 (tm 62)]
 64 (tm 63),Aa 65 64,.grp none 65 false
 [Af 66 65 4,AC 67 65 66 4,Af 68 65 67,.grp (some (65,false)) 68 true
 [Ae 69 68 3,Bm 70 68 69 65536]
 71 (tm 70)]
 72 (tm 71),Aa 73 72,.grp none 73 false
 [Af 74 73 3,A3 75 73 74 1114111]
 76 (tm 75),Aa 77 76,.grp none 77 false
 [Af 78 77 3,B0 79 77 78 55296,Af 80 77 79,.grp (some (77,false)) 80 true
 [Ae 81 80 3,Bm 82 80 81 57344]
 83 (tm 82)]
 84 (tm 83)]
def xH:LSO:=[Ah 2]
def xG:LSO:=[Aa 85 0,Aa 86 4,BH 87 85 86,Aa 0 87]
def xF:LSO:=[Aw 2]
def CM:ba:=⟨88,(.seq (.sreg Ea [])
 (.seq (.block 0 (.loop (.seq (.seq (.sreg D9 BW)
 (.cond (tm 9) .skip
 (.exit 0)))
 (.block 1 (.seq (.sreg D8 BX)
 (.seq (.sreg D7 [])
 (.seq (.seq (.sreg D6 BV)
 (.cond (tm 14) (.seq (.sreg D5 [])
 (.sreg D4 BW))
 (.seq (.sreg D3 BV)
 (.cond (tm 18) (.seq (.sreg D2 [])
 (.sreg D1 BW))
 (.seq (.sreg xW BV)
 (.cond (tm 22) (.seq (.sreg xV [])
 (.sreg xU BW))
 (.seq (.sreg xT BV)
 (.cond (tm 26) (.seq (.sreg xS [])
 .ret)
 .skip))))))))
 (.seq (.seq (.sreg xR BX)
 (.cond (tm 30) (.seq (.sreg xQ [])
 .ret)
 .skip))
 (.seq (.seq (.sreg xP [])
 (.block 2 (.loop (.seq (.seq (.sreg xO BW)
 (.cond (tm 33) .skip
 (.exit 2)))
 (.seq (.block 3 (.seq (.sreg xN BY)
 (.seq (.seq (.sreg xM BX)
 (.cond (tm 45) (.seq (.sreg xL [])
 .ret)
 .skip))
 (.sreg xK BZ))))
 (.sreg xJ BW))))))
 (.seq (.seq (.sreg xI Cu)
 (.cond (tm 84) (.seq (.sreg xH [])
 .ret)
 .skip))
 (.sreg xG BX)))))))))))
 (.seq (.sreg xF [])
 .ret))),[(.tmp 2)]⟩
attribute [push_cast] Ea D9 D8 D7 D6 D5 D4 D3 D2 D1 xW xV xU xT xS xR xQ xP xO xN xM xL xK xJ xI xH xG xF
theorem LW:bb Tryz.prog (fun _ _=>1) 55=some CM.raw:=by kernel_rfl
def m7:LSO:=[Ah 2]
def mZ:LSO:=[Ab 3 0]
def mY:LSO:=[Aa 4 3,Aa 5 0,Ap 6 5,Aj 7 4 6]
def mX:LSO:=[Aa 10 0,Aa 11 3,A0 12 10 11,o1 13 (.bin .lss (tm 12) (.av (.int .u8 48))),Aa 14 13,.grp none 14 false
 [Af 15 14 0,Af 16 14 3,Be 17 14 15 16,og 18 14 false (.bin .gtr (tm 17) (.av (.int .u8 57)))]
 19 (tm 18)]
def mW:LSO:=[Ah 2]
def mV:LSO:=[Aa 8 3,Ag 9 8 1,Aa 3 9]
def mU:LSO:=[Aa 20 0,Ap 21 20,Az 22 21 0,Aa 2 22]
def jE:ba:=⟨23,(.seq (.sreg m7 [])
 (.seq (.seq (.sreg mZ [])
 (.block 0 (.loop (.seq (.seq (.sreg mY BX)
 (.cond (tm 7) .skip
 (.exit 0)))
 (.seq (.block 1 (.seq (.sreg mX BZ)
 (.cond (tm 19) (.seq (.sreg mW [])
 .ret)
 .skip)))
 (.sreg mV BW))))))
 (.seq (.sreg mU BX)
 .ret))),[(.tmp 2)]⟩
attribute [push_cast] m7 mZ mY mX mW mV mU
theorem It:bb Tryz.prog (fun _ _=>1) 73=some jE.raw:=by kernel_rfl
def mJ:LSO:=[Ah 2]
def mI:LSO:=[Aa 4 0,o1 5 (.bin .eql (tm 4) (.av (.str [48])))]
def mH:LSO:=[Aw 2]
def mG:LSO:=[o1 3 (.mv (.av (.str [57,50,50,51,51,55,50,48,51,54,56,53,52,55,55,53,56,48,55])))]
def mF:LSO:=[Aa 6 0,Ap 7 6,Az 8 7 0,Aa 9 8,.grp none 9 true
 [Ae 10 9 0,og 11 9 true (.idxS (tm 10) (iv 0)),og 12 9 true (.bin .eql (tm 11) (.av (.int .u8 45)))]
 13 (tm 12)]
def mE:LSO:=[Aa 14 0,o1 15 (.slS (tm 14) (some (iv 1)) none),Aa 0 15]
def mD:LSO:=[o1 3 (.mv (.av (.str [57,50,50,51,51,55,50,48,51,54,56,53,52,55,55,53,56,48,56])))]
def mB:LSO:=[Aa 16 0,Al 17 73 16,Aa 18 17,.grp none 18 true
 [Ae 19 18 0,og 20 18 true (.idxS (tm 19) (iv 0)),og 21 18 true (.bin .neq (tm 20) (.av (.int .u8 48)))]
 22 (tm 21),Aa 23 22,.grp none 23 true
 [Ae 24 23 0,og 25 23 true (.len true (tm 24)),Bm 26 23 25 19,Ae 27 23 26,.grp (some (23,true)) 27 false
 [Af 28 27 0,Ba 29 27 28,AC 30 27 29 19,Af 31 27 30,.grp (some (27,false)) 31 true
 [Ae 32 31 0,Ae 33 31 3,BD 34 31 32 33]
 35 (tm 34)]
 36 (tm 35)]
 37 (tm 36),Aa 2 37]
def jC:ba:=⟨38,(.seq (.sreg mJ [])
 (.seq (.seq (.sreg mI BV)
 (.cond (tm 5) (.seq (.sreg mH [])
 .ret)
 .skip))
 (.seq (.sreg mG [])
 (.seq (.seq (.sreg mF BY)
 (.cond (tm 13) (.seq (.sreg mE BW)
 (.sreg mD []))
 .skip))
 (.seq (.sreg mB Cb)
 .ret))))),[(.tmp 2)]⟩
attribute [push_cast] mJ mI mH mG mF mE mD mB
theorem Ir:bb Tryz.prog (fun _ _=>1) 57=some jC.raw:=by kernel_rfl
def Eh:LSO:=[Ab 2 0]
def Eg:LSO:=[Ab 3 0]
def Ef:LSO:=[Ab 4 0]
def Ee:LSO:=[Aa 5 4,Aa 6 0,Ap 7 6,Aj 8 5 7]
def Ed:LSO:=[Aa 11 3,o1 12 (.bin .mul (iv 10) (tm 11)),Aa 13 0,Aa 14 4,A0 15 13 14,Bl 16 15,AZ 17 16,AE 18 12 17,Aa 3 18]
def Ec:LSO:=[Aa 9 4,Ag 10 9 1,Aa 4 10]
def Eb:LSO:=[Aa 19 3,Aa 2 19]
def CN:ba:=⟨20,(.seq (.sreg Eh [])
 (.seq (.sreg Eg [])
 (.seq (.seq (.sreg Ef [])
 (.block 0 (.loop (.seq (.seq (.sreg Ee BX)
 (.cond (tm 8) .skip
 (.exit 0)))
 (.seq (.block 1 (.sreg Ed Cl))
 (.sreg Ec BW))))))
 (.seq (.sreg Eb BV)
 .ret)))),[(.tmp 2)]⟩
attribute [push_cast] Eh Eg Ef Ee Ed Ec Eb
theorem LX:bb Tryz.prog (fun _ _=>1) 76=some CN.raw:=by kernel_rfl
def mT:LSO:=[Ah 2]
def mS:LSO:=[Aa 7 0,Ap 8 7,A7 9 8 15,Aa 10 9,.grp none 10 false
 [Af 11 10 0,og 12 10 false (.slS (tm 11) none (some (iv 14))),AL 13 10 73 12,Bc 14 10 13]
 15 (tm 14),Aa 16 15,.grp none 16 false
 [Af 17 16 0,Bw 18 16 17 14,og 19 16 false (.bin .neq (tm 18) (.av (.int .u8 90)))]
 20 (tm 19)]
def mR:LSO:=[Ah 2]
def mQ:LSO:=[Aa 21 0,o1 22 (.slS (tm 21) none (some (iv 4))),Al 23 76 22,Aa 24 0,o1 25 (.slS (tm 24) (some (iv 4)) (some (iv 6))),Al 26 76 25,Aa 27 0,
 o1 28 (.slS (tm 27) (some (iv 6)) (some (iv 8))),Al 29 76 28,Aa 3 23,Aa 4 26,Aa 5 29]
def mP:LSO:=[Aa 30 4,AK 31 30 1,Aa 32 31,.grp none 32 false
 [Af 33 32 4,A3 34 32 33 12]
 35 (tm 34),Aa 36 35,.grp none 36 false
 [Af 37 36 5,BF 38 36 37 1]
 39 (tm 38),Aa 40 39,.grp none 40 false
 [Af 41 40 0,BI 42 40 41 8 10,AL 43 40 76 42,A3 44 40 43 23]
 45 (tm 44),Aa 46 45,.grp none 46 false
 [Af 47 46 0,BI 48 46 47 10 12,AL 49 46 76 48,A3 50 46 49 59]
 51 (tm 50),Aa 52 51,.grp none 52 false
 [Af 53 52 0,BI 54 52 53 12 14,AL 55 52 76 54,A3 56 52 55 59]
 57 (tm 56)]
def mO:LSO:=[Ah 2]
def mN:LSO:=[Ab 6 31]
def mM:LSO:=[Aa 58 4,Aq 59 58 4,Aa 60 59,.grp none 60 false
 [Af 61 60 4,AC 62 60 61 6]
 63 (tm 62),Aa 64 63,.grp none 64 false
 [Af 65 64 4,AC 66 64 65 9]
 67 (tm 66),Aa 68 67,.grp none 68 false
 [Af 69 68 4,AC 70 68 69 11]
 71 (tm 70)]
def mL:LSO:=[Ab 6 30]
def mK:LSO:=[Aa 72 4,Aq 73 72 2]
def ke:LSO:=[Ab 6 28]
def kb:LSO:=[Aa 74 3,o1 75 (.bin .rem (tm 74) (iv 400)),Aq 76 75 0,Aa 77 76,.grp none 77 false
 [Af 78 77 3,og 79 77 false (.bin .rem (tm 78) (iv 4)),AC 80 77 79 0,Af 81 77 80,.grp (some (77,false)) 81 true
 [Ae 82 81 3,By 83 81 82 100,og 84 81 true (.bin .neq (tm 83) (iv 0))]
 85 (tm 84)]
 86 (tm 85)]
def ka:LSO:=[Ab 6 29]
def j9:LSO:=[Aa 87 5,Aa 88 6,o1 89 (.bin .leq (tm 87) (tm 88)),Aa 2 89]
def jD:ba:=⟨90,(.seq (.sreg mT [])
 (.seq (.seq (.sreg mS Cb)
 (.cond (tm 20) (.seq (.sreg mR [])
 .ret)
 .skip))
 (.seq (.sdreg mQ [.pure,(.read 0 0),(.read 0 0),.pure,(.read 0 0),(.read 0 0),.pure,(.read 0 0)] Cx)
 (.seq (.seq (.sreg mP Cu)
 (.cond (tm 57) (.seq (.sreg mO [])
 .ret)
 .skip))
 (.seq (.sreg mN [])
 (.seq (.seq (.sreg mM Ce)
 (.cond (tm 71) (.sreg mL [])
 .skip))
 (.seq (.seq (.sreg mK BV)
 (.cond (tm 73) (.seq (.sreg ke [])
 (.seq (.sreg kb BY)
 (.cond (tm 86) (.sreg ka [])
 .skip)))
 .skip))
 (.seq (.sreg j9 BX)
 .ret)))))))),[(.tmp 2)]⟩
attribute [push_cast] mT mS mR mQ mP mO mN mM mL mK ke kb ka j9
theorem Is:bb Tryz.prog (fun _ _=>1) 59=some jD.raw:=by kernel_rfl
def yd:LSO:=[Am 4,Ah 5]
def yc:LSO:=[Aa 9 1,Ap 10 9,Az 11 10 4096]
def yb:LSO:=[Am 4,Ah 5]
def ya:LSO:=[Aa 12 0]
def x9:LSO:=[Aq 14 12 1,Aa 13 14]
def x8:LSO:=[Aa 15 1,Ap 16 15,Az 17 16 0,Aa 18 17,.grp none 18 true
 [Ae 19 18 1,A5 20 18 55 19]
 21 (tm 20)]
def x0:LSO:=[Aa 22 1,Al 23 56 22,Aa 4 23,Aw 5]
def xZ:LSO:=[Aq 25 12 2,Aa 24 25]
def xY:LSO:=[Aa 26 1,Ap 27 26,Az 28 27 0,Aa 29 28,.grp none 29 true
 [Ae 30 29 1,A5 31 29 55 30]
 32 (tm 31)]
def xX:LSO:=[Aa 33 1,Aa 4 33,Aw 5]
def sq:LSO:=[Aq 35 12 3,Aa 34 35]
def sn:LSO:=[Ab 6 0]
def sj:LSO:=[Aa 36 6,Aa 37 1,Ap 38 37,Aj 39 36 38]
def si:LSO:=[Aa 42 1,Aa 43 6,A0 44 42 43,o1 45 (.bin .geq (tm 44) (.av (.int .u8 128)))]
def sh:LSO:=[Am 4,Ah 5]
def sg:LSO:=[Aa 40 6,Ag 41 40 1,Aa 6 41]
def sf:LSO:=[Aa 46 1,Al 47 56 46,Aa 4 47,Aw 5]
def se:LSO:=[Aq 49 12 4,Aa 48 49]
def sd:LSO:=[Aa 50 1,Al 51 57 50]
def sc:LSO:=[Aa 52 1,Aa 4 52,Aw 5]
def sb:LSO:=[Aq 54 12 5,Aa 53 54]
def sa:LSO:=[Aa 55 1,o1 56 (.bin .eql (tm 55) (.av (.str [84,82,85,69]))),Aa 57 56,.grp none 57 false
 [Af 58 57 1,og 59 57 false (.bin .eql (tm 58) (.av (.str [70,65,76,83,69])))]
 60 (tm 59)]
def rZ:LSO:=[Aa 61 1,Aa 4 61,Aw 5]
def rY:LSO:=[Aq 63 12 6,Aa 62 63]
def rX:LSO:=[Aa 65 1,Al 66 58 65,Aa 64 66,Ar 67 64,As 68 64,Aa 7 67,Aa 8 68]
def rW:LSO:=[Aa 69 8,Aq 70 69 0]
def rV:LSO:=[Aa 71 7,Aa 4 71,Aw 5]
def rU:LSO:=[Aq 73 12 7,Aa 72 73]
def rT:LSO:=[Aa 74 1,Aa 4 74,Aw 5]
def rS:LSO:=[Aq 76 12 8,Aa 75 76]
def rR:LSO:=[Aa 77 1,Al 78 59 77]
def rQ:LSO:=[Aa 79 1,Aa 4 79,Aw 5]
def rP:LSO:=[Am 4,Ah 5]
def qd:ba:=⟨80,(.seq (.sreg yd [])
 (.seq (.seq (.sreg yc BW)
 (.cond (tm 11) (.seq (.sreg yb [])
 .ret)
 .skip))
 (.seq (.seq (.sreg ya [])
 (.block 0 (.seq (.sreg x9 BV)
 (.cond (tm 13) (.seq (.sreg x8 BY)
 (.cond (tm 21) (.seq (.sreg x0 Cf)
 .ret)
 .skip))
 (.seq (.sreg xZ BV)
 (.cond (tm 24) (.seq (.sreg xY BY)
 (.cond (tm 32) (.seq (.sreg xX Ca)
 .ret)
 .skip))
 (.seq (.sreg sq BV)
 (.cond (tm 34) (.seq (.seq (.sreg sn [])
 (.block 1 (.loop (.seq (.seq (.sreg sj BX)
 (.cond (tm 39) .skip
 (.exit 1)))
 (.seq (.block 2 (.seq (.sreg si BX)
 (.cond (tm 45) (.seq (.sreg sh [])
 .ret)
 .skip)))
 (.sreg sg BW))))))
 (.seq (.sreg sf Cf)
 .ret))
 (.seq (.sreg se BV)
 (.cond (tm 48) (.seq (.sreg sd BV)
 (.cond (tm 51) (.seq (.sreg sc Ca)
 .ret)
 .skip))
 (.seq (.sreg sb BV)
 (.cond (tm 53) (.seq (.sreg sa BX)
 (.cond (tm 60) (.seq (.sreg rZ Ca)
 .ret)
 .skip))
 (.seq (.sreg rY BV)
 (.cond (tm 62) (.seq (.sreg rX Cd)
 (.seq (.sreg rW BV)
 (.cond (tm 70) (.seq (.sreg rV Ca)
 .ret)
 .skip)))
 (.seq (.sreg rU BV)
 (.cond (tm 72) (.seq (.sreg rT Ca)
 .ret)
 (.seq (.sreg rS BV)
 (.cond (tm 75) (.seq (.sreg rR BV)
 (.cond (tm 78) (.seq (.sreg rQ Ca)
 .ret)
 .skip))
 .skip))))))))))))))))))
 (.seq (.sreg rP [])
 .ret)))),[(.tmp 4),(.tmp 5)]⟩
attribute [push_cast] yd yc yb ya x9 x8 x0 xZ xY xX sq sn sj si sh sg sf se sd sc sb sa rZ rY rX rW rV rU rT rS rR rQ rP
theorem Kh:bb Tryz.prog (fun _ _=>1) 38=some qd.raw:=by kernel_rfl
def qD:LSO:=[Am 4,Ah 5]
def qC:LSO:=[Aa 10 1,Ap 11 10,Az 12 11 4096]
def qB:LSO:=[Am 4,Ah 5]
def qA:LSO:=[Aa 13 1,Aa 6 13,Ah 7]
def qz:LSO:=[Aa 14 0]
def qy:LSO:=[Aq 16 14 1,Aa 15 16]
def qx:LSO:=[Aa 17 1,Al 18 82 17,Aa 19 1,o1 20 (.bin .neq (tm 19) (.av (.str []))),Aa 21 20,.grp none 21 true
 [Ae 22 21 1,A5 23 21 83 22]
 24 (tm 23),Aa 6 18,Aa 7 24]
def qw:LSO:=[Aq 26 14 2,Aa 25 26]
def qv:LSO:=[Aa 27 1,o1 28 (.bin .neq (tm 27) (.av (.str []))),Aa 29 28,.grp none 29 true
 [Ae 30 29 1,A5 31 29 83 30]
 32 (tm 31),Aa 7 32]
def qu:LSO:=[Aq 34 14 3,Aa 33 34]
def lT:LSO:=[Aa 35 1,Al 36 82 35,Aa 37 1,o1 38 (.call 84 [(tm 37),(.av (.func 85 []))]),AK 39 38 0,Aa 6 36,Aa 7 39]
def lS:LSO:=[Aq 41 14 4,Aa 40 41]
def lR:LSO:=[Aa 43 1,Al 44 86 43,Aa 42 44,Ar 45 42,As 46 42,Aa 7 46]
def lQ:LSO:=[Aq 48 14 5,Aa 47 48]
def lP:LSO:=[Aa 49 1,o1 50 (.bin .eql (tm 49) (.av (.str [84,82,85,69]))),Aa 51 50,.grp none 51 false
 [Af 52 51 1,og 53 51 false (.bin .eql (tm 52) (.av (.str [70,65,76,83,69])))]
 54 (tm 53),Aa 7 54]
def lO:LSO:=[Aq 56 14 6,Aa 55 56]
def lN:LSO:=[Aa 58 1,Al 59 87 58,Aa 57 59,Ar 60 57,As 61 57,Aa 8 60,Aa 9 61]
def lM:LSO:=[Aa 62 8,Aa 63 9,Aq 64 63 0,Aa 6 62,Aa 7 64]
def lL:LSO:=[Aq 66 14 7,Aa 65 66]
def lK:LSO:=[Aw 7]
def lJ:LSO:=[Aq 68 14 8,Aa 67 68]
def lI:LSO:=[Aa 69 1,Al 70 88 69,Aa 7 70]
def lH:LSO:=[Aa 71 7,Ax 72 71]
def lE:LSO:=[Am 4,Ah 5]
def lD:LSO:=[Aa 73 6,Aa 4 73,Aw 5]
def kT:ba:=⟨74,(.seq (.sreg qD [])
 (.seq (.seq (.sreg qC BW)
 (.cond (tm 12) (.seq (.sreg qB [])
 .ret)
 .skip))
 (.seq (.sreg qA Ca)
 (.seq (.seq (.sreg qz [])
 (.block 0 (.seq (.sreg qy BV)
 (.cond (tm 15) (.sreg qx Cm)
 (.seq (.sreg qw BV)
 (.cond (tm 25) (.sreg qv BY)
 (.seq (.sreg qu BV)
 (.cond (tm 33) (.sreg lT Cd)
 (.seq (.sreg lS BV)
 (.cond (tm 40) (.sreg lR BZ)
 (.seq (.sreg lQ BV)
 (.cond (tm 47) (.sreg lP BY)
 (.seq (.sreg lO BV)
 (.cond (tm 55) (.seq (.sreg lN Cd)
 (.sreg lM Cc))
 (.seq (.sreg lL BV)
 (.cond (tm 65) (.sreg lK [])
 (.seq (.sreg lJ BV)
 (.cond (tm 67) (.sreg lI BW)
 .skip))))))))))))))))))
 (.seq (.seq (.sreg lH BV)
 (.cond (tm 72) (.seq (.sreg lE [])
 .ret)
 .skip))
 (.seq (.sreg lD Ca)
 .ret)))))),[(.tmp 4),(.tmp 5)]⟩
attribute [push_cast] qD qC qB qA qz qy qx qw qv qu lT lS lR lQ lP lO lN lM lL lK lJ lI lH lE lD
theorem I0:bb Tryz.prog (fun _ _=>1) 63=some kT.raw:=by kernel_rfl
variable {L:List Blk} {K:AV→List Blk→Prop}
set_option maxHeartbeats 8000000
set_option maxRecDepth 100000
theorem QG {x:Int} {L:List Blk} {K:AV→List Blk→Prop} (h:K (.bool (decide ((128:Int)≤x))) L):ao Tryz.prog 85 [.int .i32 x] L K:=by
 replace h:=hid h
 refine ag F8 (by simp [iS]) ?_
 simp only [iS,aN]
 refine wk ?_
 exact ab h.out
def Gj (s:List UInt8):Bool:=s.all fun c=>decide (c.toNat<128)
theorem Wi {s:List UInt8} (hs:s.length≤1100000) (hno:Gj s=true→K (.int .i64 (-1)) L) (hyes:∀ k:Nat,Gj s=false→K (.int .i64 (k:Int)) L) :
   ao Tryz.prog 118 [.str s,.func 85 [],.bool true] L K:=by
 replace hno:=hid hno
 replace hyes:=hid hyes
 refine ag pZ (by simp [fz]) ?_
 simp only [fz,aN]
 refine wk ?_
 refine aI (fun n T' L'=>∃ p,n=s.length - p∧p≤s.length∧Hid (Gj (s.take p)=true)∧T'=[(10,.ptr L.length 0),(1,.func 85 []),(2,.bool true)]∧L'=L++[.siter s p]) (CutS (b:=by simp)) ⟨0,rfl,Nat.zero_le _,hid rfl,rfl,rfl⟩ ?_
 rintro _ _ _ ⟨p,rfl,hp,hall,rfl,rfl⟩
 by_cases hlt:p<s.length
 · obtain ⟨c,hc⟩:∃ c,s.getD p 0=c:=⟨_,rfl⟩
   have hr:=c.toNat_lt
   have htk:s.take (p+1)=s.take p++[c]:=by rw [List.take_succ_eq_append_getElem hlt,← hc];simp [hlt]
   have hnext:Gj (s.take (p+1))=decide (c.toNat<128):=by
     have:=hall.out
     unfold Gj at this ⊢
     rw [htk,List.all_append,this];simp
   by_cases ha:c.toNat<128
   · have hd:=LO hlt (by rw [hc];exact ha)
     rw [hc] at hd
     have w0:IntKind.i32.wrap (c.toNat:Int)=(c.toNat:Int):=KL (by omega) (by omega)
     have f1:¬ (128:Int)≤(c.toNat:Int):=by omega
     replace hnext:=hid (hnext.trans (decide_eq_true ha))
     clear hc ha htk
     have kk1:=@hid _ @QG
     refine wk ?_
     exact az _ _ _ (by omega) (CutS (b:=by simp)) ⟨p+1,rfl,hlt,hnext,rfl,rfl⟩
   · have hh:=M8 hlt (by rw [hc];omega)
     obtain ⟨⟨x,wd⟩,hd⟩:∃ q,J7 s p=q:=⟨_,rfl⟩
     rw [hd] at hh
     simp only at hh
     have f1:(128:Int)≤(x:Int):=by omega
     have hbad:Gj s=false:=by
       rw [← Bool.not_eq_true]
       intro e
       have hm:c∈s:=by rw [← hc];simp [hlt]
       have:=List.all_eq_true.1 e c hm
       simp at this;omega
     have h':=hid (hyes.out p hbad)
     clear hc ha htk hnext hbad
     have kk1:=@hid _ @QG
     refine wk ?_
     exact aa rfl h'.out
 · have hke:p=s.length:=by omega
   subst hke
   have h1:=hall.out
   rw [List.take_length] at h1
   have h':=hid (hno.out h1)
   clear h1
   refine wk ?_
   exact aa rfl h'.out
theorem Ty {s:List UInt8} (hs:s.length≤1100000) (hno:Gj s=true→K (.int .i64 (-1)) L) (hyes:∀ k:Nat,Gj s=false→K (.int .i64 (k:Int)) L) :
   ao Tryz.prog 84 [.str s,.func 85 []] L K:=by
 replace hno:=hid hno
 replace hyes:=hid hyes
 refine ag p0 (by simp [fA]) ?_
 simp only [fA,aN]
 refine wk ?_
 refine Wi hs (fun e=>?_) (fun k e=>?_)
 · have h':=hid (hno.out e)
   refine sk ?_
   refine wk ?_
   exact ab h'.out
 · have h':=hid (hyes.out k e)
   refine sk ?_
   refine wk ?_
   exact ab h'.out
def dig (v:List UInt8) (i:Nat):Nat:=(v.getD i 0).toNat - 48
def two (v:List UInt8) (i:Nat):Nat:=10 * dig v i+dig v (i+1)
def dv (c:UInt8):Bool:=decide (48≤c.toNat) && decide (c.toNat≤57)
def Tp (y:Nat):Bool:=decide (y % 4=0) && !decide (y % 100=0) || decide (y % 400=0)
def NT (m:Nat):Nat:=if m=2 then 28 else if m=4∨m=6∨m=9∨m=11 then 30 else 31
def MZ (y m:Nat):Nat:=if m=2∧Tp y=true then NT m+1 else NT m
def O5 (v:List UInt8):Bool:=decide ((1≤two v 4∧two v 4≤12)∧1≤two v 6∧two v 8≤23∧two v 10≤59∧two v 12≤59) && decide (two v 6≤MZ (two v 0 * 100+two v 2) (two v 4))
def At (v:List UInt8):Bool:=decide (v.length=15) && decide (v.getD 14 0=90) && (v.take 14).all dv && O5 v
theorem WR {v:List UInt8} {i p:Nat} {z:Int} (hz:z=(i:Int)) (hi:i+1<v.length) (hv:v.length≤1000) (h1:dv (v.getD i 0)=true) (h2:dv (v.getD (i+1) 0)=true) (hL:L[p]?=some (.cells [.str v])) (h:K (.int .i64 (two v i:Nat)) L) :
   ao Tryz.prog 121 [.int .i64 z,.ptr p 0] L K:=by
 subst hz
 unfold two dig at h
 obtain ⟨a,ha⟩:∃ a,v.getD i 0=a:=⟨_,rfl⟩
 obtain ⟨b,hb⟩:∃ b,v.getD (i+1) 0=b:=⟨_,rfl⟩
 rw [ha] at h1 h
 rw [hb] at h2 h
 simp only [dv,Bool.and_eq_true,decide_eq_true_eq] at h1 h2
 obtain ⟨x,hx⟩:∃ x:Nat,a.toNat=48+x:=⟨a.toNat - 48,by omega⟩
 obtain ⟨y,hy⟩:∃ y:Nat,b.toNat=48+y:=⟨b.toNat - 48,by omega⟩
 have hx9:x≤9:=by omega
 have hy9:y≤9:=by omega
 rw [show 10 * (a.toNat - 48)+(b.toNat - 48)=10 * x+y by omega] at h
 have hxa:(a.toNat:Int)=48+(x:Int):=by omega
 have hyb:(b.toNat:Int)=48+(y:Int):=by omega
 have g1:(i:Int)<(v.length:Int):=by omega
 have g2:IntKind.i64.wrap ((i:Int)+1)=(i:Int)+1:=ac (by omega) (by omega)
 have g3:(i:Int)+1<(v.length:Int):=by omega
 have g4:((i:Int)+1).toNat=i+1:=by omega
 have g5:(0:Int)≤(i:Int)+1:=by omega
 have w1:IntKind.u8.wrap (48+(x:Int) - 48)=(x:Int):=by rw [bQ (by omega) (by omega)];omega
 have w2:IntKind.u8.wrap (48+(y:Int) - 48)=(y:Int):=by rw [bQ (by omega) (by omega)];omega
 have w3:IntKind.i64.wrap (x:Int)=(x:Int):=ac (by omega) (by omega)
 have w4:IntKind.i64.wrap (y:Int)=(y:Int):=ac (by omega) (by omega)
 have w5:IntKind.i64.wrap ((x:Int) * 10)=(x:Int) * 10:=ac (by omega) (by omega)
 have w6:IntKind.i64.wrap ((x:Int) * 10+(y:Int))=(x:Int) * 10+(y:Int):=ac (by omega) (by omega)
 have hfin:K (.int .i64 ((x:Int) * 10+(y:Int))) L:=by
   rwa [show ((10 * x+y:Nat):Int)=(x:Int) * 10+(y:Int) by omega] at h
 replace hfin:=hid hfin
 clear h h1 h2 hx hy
 refine ag CI (by simp [gn]) ?_
 simp only [gn,aN]
 refine wk ?_
 exact ab hfin.out
theorem Vq {m:Nat} (h1:1≤m) (h2:m≤12) {l:List AV} (hl:dJ 4=some l):l.getD (m - 1) .undef=.int .i64 (NT m:Nat)∧l.length=12:=by
 have e:dJ 4=some [.int .i64 31,.int .i64 28,.int .i64 31,.int .i64 30,.int .i64 31,.int .i64 30,.int .i64 31,.int .i64 31,.int .i64 30,.int .i64 31,.int .i64 30,.int .i64 31]:=by rfl
 rw [e] at hl
 cases hl
 have:m=1∨m=2∨m=3∨m=4∨m=5∨m=6∨m=7∨m=8∨m=9∨m=10∨m=11∨m=12:=by omega
 rcases this with rfl|rfl|rfl|rfl|rfl|rfl|rfl|rfl|rfl|rfl|rfl|rfl<;>exact ⟨rfl,rfl⟩
theorem fV {v:List UInt8} {i:Nat} (h1:dv (v.getD i 0)=true) (h2:dv (v.getD (i+1) 0)=true):two v i≤99:=by
 simp only [dv,Bool.and_eq_true,decide_eq_true_eq] at h1 h2
 unfold two dig;omega
theorem OE {v:List UInt8} (hv:v.length≤1100000) (h:K (.bool (At v)) L):ao Tryz.prog 88 [.str v] L K:=by
 have no:At v=false→K (.bool false) L:=fun e=>by rw [← e];exact h
 replace no:=hid no
 replace h:=hid h
 refine ag F7 (by simp [iR]) ?_
 simp only [iR,aN]
 by_cases h15:v.length=15
 rotate_left
 · have f1:¬ (v.length:Int)=15:=by omega
   have h':=hid (no.out (by simp [At,h15]))
   clear h15
   refine wk ?_
   exact aa rfl h'.out
 have f1:(v.length:Int)=15:=by omega
 obtain ⟨z,hz⟩:∃ z,v.getD 14 0=z:=⟨_,rfl⟩
 by_cases h90:z=90
 rotate_left
 · have f2:¬ (z.toNat:Int)=90:=fun e=>h90 ((bf z 90).1 e)
   have h':=hid (no.out (by simp [At,← hz] at h90 ⊢;simp [h90]))
   clear h90
   refine wk ?_
   exact aa rfl h'.out
 have f2:(z.toNat:Int)=90:=by rw [h90];rfl
 obtain ⟨w,hw⟩:∃ w,v.take 14=w:=⟨_,rfl⟩
 have hwl:w.length=14:=by rw [← hw];simp [h15]
 have f3:(14:Int)≤(v.length:Int):=by omega
 have hul:(u8s w).length=14:=by simp [u8s,hwl]
 have hdall:=hid (show w.all dv=false→K (.bool false) L from fun e=>no.out (by simp [At,hw,e]))
 replace hw:=hid hw
 have hw':v.take 14=w:=hw.out
 have f4:(0:Int)≤14:=by omega
 refine wk ?_
 refine aI (fun n T' L'=>∃ i:Nat,n=14 - i∧i≤14∧Hid ((w.take i).all dv=true)∧T'=[(22,.int .i64 (i:Int)),(21,.int .i64 14),(20,.sl (u8s w) 14 none),(1,.ptr L.length 0)]∧L'=L++[.cells [.str v]]) (CutS (b:=by simp)) ⟨0,rfl,Nat.zero_le _,hid rfl,rfl,rfl⟩ ?_
 rintro _ _ _ ⟨i,rfl,hi,hall,rfl,rfl⟩
 by_cases hlt:i<14
 · have g1:(i:Int)<14:=by omega
   have g2:IntKind.i64.wrap ((i:Int)+1)=(i:Int)+1:=ac (by omega) (by omega)
   obtain ⟨c,hc⟩:∃ c,w.getD i 0=c:=⟨_,rfl⟩
   have g3:(u8s w).getD i .undef=.int .u8 c.toNat:=by rw [← hc];simp [u8s,show i<w.length by omega]
   have hm:c∈w:=by rw [← hc];simp [show i<w.length by omega]
   have htk:w.take (i+1)=w.take i++[c]:=by rw [List.take_succ_eq_append_getElem (by omega),← hc];simp [show i<w.length by omega]
   have bad:=hid fun (e:dv c=false)=>hdall.out (List.all_eq_false.2 ⟨c,hm,by rw [e];simp⟩)
   have good:=hid fun (e:dv c=true)=>show (w.take (i+1)).all dv=true by rw [htk,List.all_append,hall.out];simp [e]
   clear hc hm htk hw' h15 hwl
   repeat' first
     | refine aT ?_
     | (first|refine aG (by kernel_rfl) ?_|refine ap (by kernel_rfl) ?_|refine aq ?_|refine aZ ?_|refine aO (fun _=>?_)|refine aj ?_|refine aK ?_)
       refine sm ?_
     | (first|refine aC (by kernel_rfl) ?_|refine aH ?_|refine aJ ?_|refine aU (ai ?_))
       refine sl ?_
     | exact aP
     | first|apply aQ|apply aD|apply aR|apply aE|apply aS|apply aF
     | refine aw ?_
     | first|refine ar rfl ?_|refine au rfl ?_|refine af rfl ?_ ?_|refine ay rfl (fun _=>?_) (fun _=>?_)|refine ax rfl (fun _=>?_) (fun _=>?_)
     | ((first|refine ae (fun _=>?_) (fun _=>?_)|refine ah (fun _=>?_) (fun _=>?_))<;>try refine sm ?_)
     | refine And.intro trivial ?_
     | refine And.intro (by omega) ?_
     | refine aA rfl (fun _=>?_) (fun _=>?_)
     | refine And.intro ?_ ?_
   · rename_i hx
     refine aa rfl (bad.out ?_)
     simp only [dv,Bool.and_eq_false_iff,decide_eq_false_iff_not]
     omega
   · rename_i hx
     refine az _ _ _ (by omega) (CutL (b:=by simp)) ⟨i+1,rfl,by omega,hid (good.out ?_),rfl,rfl⟩
     simp only [dv,Bool.and_eq_true,decide_eq_true_eq]
     omega
 have hke:i=14:=by omega
 subst hke
 have g1:¬ ((14:Nat):Int)<14:=by omega
 have hda:=hall.out
 rw [List.take_of_length_le (by omega)] at hda
 have hdv:∀ i,i<14→dv (v.getD i 0)=true:=fun i hi=>by
   refine List.all_eq_true.1 hda _ ?_
   rw [← hw.out]
   have:v.getD i 0=(v.take 14)[i]'(by simp;omega):=by simp [show i<v.length by omega]
   rw [this];exact List.getElem_mem _
 have hdate:At v=O5 v:=by
   simp only [At,h15,hz,h90,hw.out,hda];simp
 have ct:∀ i:Nat,i+1<14→∀ (z:Int) (K:AV→List Blk→Prop),z=(i:Int)→K (.int .i64 (two v i:Nat)) (L++[.cells [.str v]])→ao Tryz.prog 121 [.int .i64 z,.ptr L.length 0] (L++[.cells [.str v]]) K:=fun i hi z K hz h =>
   WR hz (by omega) (by omega) (hdv i (by omega)) (hdv (i+1) hi) (KD _ _ _) h
 have b0:=fV (hdv 0 (by omega)) (hdv 1 (by omega))
 have b2:=fV (hdv 2 (by omega)) (hdv 3 (by omega))
 have b4:=fV (hdv 4 (by omega)) (hdv 5 (by omega))
 have b6:=fV (hdv 6 (by omega)) (hdv 7 (by omega))
 have b8:=fV (hdv 8 (by omega)) (hdv 9 (by omega))
 have b10:=fV (hdv 10 (by omega)) (hdv 11 (by omega))
 have b12:=fV (hdv 12 (by omega)) (hdv 13 (by omega))
 have kk1:=@hid _ (fun {K:AV→List Blk→Prop}=>ct 0 (by omega) 0 K rfl)
 have kk2:=@hid _ (fun {K:AV→List Blk→Prop}=>ct 2 (by omega) 2 K rfl)
 have kk3:=@hid _ (fun {K:AV→List Blk→Prop}=>ct 4 (by omega) 4 K rfl)
 have kk4:=@hid _ (fun {K:AV→List Blk→Prop}=>ct 6 (by omega) 6 K rfl)
 have kk5:=@hid _ (fun {K:AV→List Blk→Prop}=>ct 8 (by omega) 8 K rfl)
 have kk6:=@hid _ (fun {K:AV→List Blk→Prop}=>ct 10 (by omega) 10 K rfl)
 have kk7:=@hid _ (fun {K:AV→List Blk→Prop}=>ct 12 (by omega) 12 K rfl)
 have hfin:=h.out
 rw [hdate] at hfin
 unfold O5 at hfin
 obtain ⟨Y,hY⟩:∃ n,two v 0=n:=⟨_,rfl⟩
 obtain ⟨Y2,hY2⟩:∃ n,two v 2=n:=⟨_,rfl⟩
 obtain ⟨M,hM⟩:∃ n,two v 4=n:=⟨_,rfl⟩
 obtain ⟨D,hD⟩:∃ n,two v 6=n:=⟨_,rfl⟩
 obtain ⟨H,hH⟩:∃ n,two v 8=n:=⟨_,rfl⟩
 obtain ⟨I,hI⟩:∃ n,two v 10=n:=⟨_,rfl⟩
 obtain ⟨S,hS⟩:∃ n,two v 12=n:=⟨_,rfl⟩
 rw [hY] at b0 hfin kk1
 rw [hY2] at b2 hfin kk2
 rw [hM] at b4 hfin kk3
 rw [hD] at b6 hfin kk4
 rw [hH] at b8 hfin kk5
 rw [hI] at b10 hfin kk6
 rw [hS] at b12 hfin kk7
 clear hY hY2 hM hD hH hI hS ct hdate hdv hda hall hw' hw hdall h15 hwl hul hi hlt f1 f2 f3 f4 hv h90 hz no h
 have w1:IntKind.i64.wrap ((Y:Int) * 100)=(Y:Int) * 100:=ac (by omega) (by omega)
 have w2:IntKind.i64.wrap ((Y:Int) * 100+(Y2:Int))=(Y:Int) * 100+(Y2:Int):=ac (by omega) (by omega)
 have hbad:¬ ((1≤M∧M≤12)∧1≤D∧H≤23∧I≤59∧S≤59)→K (.bool false) L:=fun e=>by
   rw [decide_eq_false e] at hfin;simpa using hfin
 replace hbad:=hid hbad
 replace hfin:=hid hfin
 by_cases m1:(M:Int)<1
 · refine wk ?_
   exact aa rfl (hbad.out (by omega))
 by_cases m2:(12:Int)<(M:Int)
 · refine wk ?_
   exact aa rfl (hbad.out (by omega))
 by_cases m3:(D:Int)<1
 · refine wk ?_
   exact aa rfl (hbad.out (by omega))
 by_cases m4:(23:Int)<(H:Int)
 · refine wk ?_
   exact aa rfl (hbad.out (by omega))
 by_cases m5:(59:Int)<(I:Int)
 · refine wk ?_
   exact aa rfl (hbad.out (by omega))
 by_cases m6:(59:Int)<(S:Int)
 · refine wk ?_
   exact aa rfl (hbad.out (by omega))
 have hgood:=hid (show decide (D≤MZ (Y * 100+Y2) M)=true∨decide (D≤MZ (Y * 100+Y2) M)=false by cases decide (D≤MZ (Y * 100+Y2) M)<;>simp)
 have hfin2:=hfin.out
 rw [show decide ((1≤M∧M≤12)∧1≤D∧H≤23∧I≤59∧S≤59)=true by simp;omega,Bool.true_and] at hfin2
 unfold MZ Tp at hfin2
 obtain ⟨dn,hdn⟩:∃ n,NT M=n:=⟨_,rfl⟩
 have hdb:dn≤31:=by rw [← hdn];unfold NT;split<;>(try split)<;>omega
 obtain ⟨r4,hr4⟩:∃ r,(Y * 100+Y2) % 4=r:=⟨_,rfl⟩
 obtain ⟨r100,hr100⟩:∃ r,(Y * 100+Y2) % 100=r:=⟨_,rfl⟩
 obtain ⟨r400,hr400⟩:∃ r,(Y * 100+Y2) % 400=r:=⟨_,rfl⟩
 rw [hr4,hr100,hr400,hdn] at hfin2
 have t4:Int.tmod ((Y:Int) * 100+(Y2:Int)) 4=(r4:Int):=by rw [Int.tmod_eq_emod_of_nonneg (by omega)];omega
 have t100:Int.tmod ((Y:Int) * 100+(Y2:Int)) 100=(r100:Int):=by rw [Int.tmod_eq_emod_of_nonneg (by omega)];omega
 have t400:Int.tmod ((Y:Int) * 100+(Y2:Int)) 400=(r400:Int):=by rw [Int.tmod_eq_emod_of_nonneg (by omega)];omega
 have x1:IntKind.i64.wrap ((M:Int) - 1)=(M:Int) - 1:=ac (by omega) (by omega)
 have x2:((M:Int) - 1).toNat=M - 1:=by omega
 have x3:(0:Int)≤(M:Int) - 1:=by omega
 have x4:(M:Int) - 1<12:=by omega
 obtain ⟨x5,x6⟩:=Vq (m:=M) (by omega) (by omega) O0
 rw [hdn] at x5
 have x7:IntKind.i64.wrap ((dn:Int)+1)=(dn:Int)+1:=ac (by omega) (by omega)
 replace hfin2:=hid hfin2
 clear hr4 hr100 hr400 hdn hgood
 repeat' first
   | refine aT ?_
   | (first|refine aG (by kernel_rfl) ?_|refine ap (by kernel_rfl) ?_|refine aq ?_|refine aZ ?_|refine aO (fun _=>?_)|refine aj ?_|refine aK ?_|refine kk1.out ?_|refine kk2.out ?_|refine kk3.out ?_|refine kk4.out ?_|refine kk5.out ?_|refine kk6.out ?_|refine kk7.out ?_|refine aL (kk1.out ⟨rfl,rfl⟩) (kk1.out ⟨rfl,rfl⟩) ?_|refine aL (kk2.out ⟨rfl,rfl⟩) (kk2.out ⟨rfl,rfl⟩) ?_|refine aL (kk3.out ⟨rfl,rfl⟩) (kk3.out ⟨rfl,rfl⟩) ?_|refine aL (kk4.out ⟨rfl,rfl⟩) (kk4.out ⟨rfl,rfl⟩) ?_|refine aL (kk5.out ⟨rfl,rfl⟩) (kk5.out ⟨rfl,rfl⟩) ?_|refine aL (kk6.out ⟨rfl,rfl⟩) (kk6.out ⟨rfl,rfl⟩) ?_|refine aL (kk7.out ⟨rfl,rfl⟩) (kk7.out ⟨rfl,rfl⟩) ?_|refine aB (kk1.out ⟨rfl,rfl⟩) ?_|refine aB (kk2.out ⟨rfl,rfl⟩) ?_|refine aB (kk3.out ⟨rfl,rfl⟩) ?_|refine aB (kk4.out ⟨rfl,rfl⟩) ?_|refine aB (kk5.out ⟨rfl,rfl⟩) ?_|refine aB (kk6.out ⟨rfl,rfl⟩) ?_|refine aB (kk7.out ⟨rfl,rfl⟩) ?_)
     refine sm ?_
   | (first|refine aC (by kernel_rfl) ?_|refine aH ?_|refine aJ ?_|refine aU (ai ?_))
     refine sl ?_
   | exact aP
   | first|apply aQ|apply aD|apply aR|apply aE|apply aS|apply aF
   | refine aw ?_
   | first|refine ar rfl ?_|refine au rfl ?_|refine af rfl ?_ ?_|refine ay rfl (fun _=>?_) (fun _=>?_)|refine ax rfl (fun _=>?_) (fun _=>?_)
   | ((first|refine ae (fun _=>?_) (fun _=>?_)|refine ah (fun _=>?_) (fun _=>?_))<;>try refine sm ?_)
   | refine And.intro trivial ?_
   | refine And.intro (by omega) ?_
   | refine aA rfl (fun _=>?_) (fun _=>?_)
   | refine And.intro ?_ ?_
 · rename_i hx
   refine aa rfl ?_
   have e:=hfin2.out
   rw [if_pos ⟨by omega,by simp;omega⟩] at e
   rwa [show decide (D≤dn+1)=decide ((D:Int)≤(dn:Int)+1) by simp only [decide_eq_decide];omega] at e
 · rename_i hx
   refine aa rfl ?_
   have e:=hfin2.out
   rw [if_neg (fun ⟨e1,e2⟩=>hx ⟨by omega,by simp at e2;omega⟩)] at e
   rwa [show decide (D≤dn)=decide ((D:Int)≤(dn:Int)) by simp only [decide_eq_decide];omega] at e
theorem Oq:dJ 0=some (Lib.pow10Tab.map (AV.int .u64)):=by rfl
theorem MQ:Tryz.prog.globalNamed "internal/strconv.uint64pow10" = some 0:=by kernel_rfl
theorem iI {n:Int} (hn:I64 n) (h:K (.str (Lib.itoa n)) L):ao Tryz.prog 30 [.int .i64 n,.int .i64 10] L K :=
 dd Tryz.func30 rfl (by kernel_rfl) (fun w0 S0 E w vs hR hv=>by
   simp only [VRL,VR] at hv
   obtain ⟨_,_,rfl,rfl,_,_,rfl,rfl,rfl⟩:=hv
   refine (Tryz.strconv_FormatInt_10 n hn.1 hn.2 w (hR.table MQ Oq (by simp [Lib.pow10Tab]))).mono fun e w' ⟨he,k,os,hw⟩=>⟨_,he,by simp [VR],by subst hw;exact Dv.of_grow w k os⟩) h
theorem pT {w w':World} (h:RowKit.Below w.heap.size w w'):Dv w w':=⟨fun b hb=>h.block b hb,h.size,h.os,h.tape,h.output⟩
theorem O2 {w0:World} {S0:Nat→Prop} {E:Env} {L:List Blk} {w:World} (hR:Rel w0 S0 E L w) {g:Nat} {t:TypeId} (hp:dJ g=some [.iface t .undef]):∃ x,w.cell? ⟨g,0,none⟩=some (.iface t x):=by
 have hm:=pU hp
 obtain ⟨v,h1,h2⟩:=(hR.glob.env hm).get (i:=0) (a:=.iface t .undef) rfl
 simp only [VR] at h2
 obtain ⟨x,rfl,_⟩:=h2
 exact ⟨x,by simpa using hR.mem _ _ _ h1⟩
theorem Ov {l:List UInt8} {n:Int} (hl:(l.length:Int)≤1100000) (hp:Lib.parseIntB 64 l=.ok n) (h:K (.tup [.int .i64 n,.nilif]) L):ao Tryz.prog 64 [.str l,.int .i64 10,.int .i64 64] L K :=
 dd Tryz.func64 rfl (by kernel_rfl) (fun w0 S0 E w vs hR hv=>by
   simp only [VRL,VR] at hv
   obtain ⟨_,_,rfl,rfl,_,_,rfl,rfl,_,_,rfl,rfl,rfl⟩:=hv
   refine (Tryz.strconv_ParseInt_10_at64_ok ⟨⟨l⟩⟩ (show l.length≤_ by omega) n hp w).mono fun e w' ⟨he,hw⟩=>⟨_,he,by simp [VR,VRL],?_⟩
   rcases hw with rfl|⟨t,rfl⟩
   · exact Dv.refl _
   · exact pT (Lib.bytesWorld_below _ _ _)) h
theorem Ow {l:List UInt8} (hl:(l.length:Int)≤1100000) (hp:∀ n,Lib.parseIntB 64 l ≠ .ok n) (h:K (.tup [.int .i64 (cI l),.iface 166 .undef]) L):ao Tryz.prog 64 [.str l,.int .i64 10,.int .i64 64] L K :=
 dd Tryz.func64 rfl (by kernel_rfl) (fun w0 S0 E w vs hR hv=>by
   simp only [VRL,VR] at hv
   obtain ⟨_,_,rfl,rfl,_,_,rfl,rfl,_,_,rfl,rfl,rfl⟩:=hv
   match hq:Lib.parseIntB 64 l with
   | .ok n=>exact absurd hq (hp n)
   | .syntax =>
     obtain ⟨x,hx⟩:=O2 hR (g:=5) rfl
     refine (Tryz.strconv_ParseInt_10_at64_syntax ⟨⟨l⟩⟩ (show l.length≤_ by omega) hq _ w hx (.inr ⟨_,_,rfl⟩)).mono fun e w' ⟨N,he,_,_,hw⟩=>⟨_,he,?_,pT hw⟩
     have e0:cI l=0:=by simp [cI,hq]
     rw [e0]
     simp [VR,VRL]
     exact ⟨_,_,⟨rfl,rfl⟩,rfl,_,rfl,_,rfl⟩
   | .range =>
     obtain ⟨x,hx⟩:=O2 hR (g:=6) rfl
     refine (Tryz.strconv_ParseInt_10_at64_range ⟨⟨l⟩⟩ (show l.length≤_ by omega) hq _ w hx (.inr ⟨_,_,rfl⟩)).mono fun e w' ⟨N,he,_,_,hw⟩=>⟨_,he,?_,pT hw⟩
     have e0:cI l=Lib.intSat 64 l:=by simp [cI,hq]
     rw [e0]
     simp [VR,VRL]
     exact ⟨_,_,⟨rfl,rfl⟩,rfl,_,rfl,_,rfl⟩) h
theorem Oz {l:List UInt8} (hl:(l.length:Int)≤1100000) (h:K (.tup [.int .i64 (cI l),.bool (cW l)]) L):ao Tryz.prog 86 [.str l] L K:=by
 replace h:=hid h
 refine ag F6 (by simp [iQ]) ?_
 simp only [iQ,aN]
 by_cases hp:∃ n,Lib.parseIntB 64 l=.ok n
 · obtain ⟨n,hp⟩:=hp
   have hr:=hid (z6 hp)
   have e1:=hid (show cI l=n by simp [cI,hp])
   have e2:=hid (show cW l=decide (Lib.itoa n=l) by simp [cW,hp])
   replace hp:=hid hp
   have kk1:=@hid _ (fun L K=>Ov hl hp.out (L:=L) (K:=K))
   have kk2:=@hid _ (fun L K=>iI hr.out (L:=L) (K:=K))
   refine wk ?_
   refine ab ?_
   have h:=h.out
   rw [e1.out,e2.out] at h
   exact h
 · have hp':=hid (show ∀ n,Lib.parseIntB 64 l ≠ .ok n from fun n e=>hp ⟨n,e⟩)
   have e2:=hid (show cW l=false by
     unfold cW
     split
     · rename_i n hn;exact absurd ⟨n,hn⟩ hp
     · rfl)
   clear hp
   have kk1:=@hid _ (fun L K=>Ow hl hp'.out (L:=L) (K:=K))
   refine wk ?_
   refine ab ?_
   have h:=h.out
   rw [e2.out] at h
   exact h
theorem P9:dJ 2=some ((List.range 256).map fun c=>AV.int .u8 (Lib.firstT c:Int)):=by kernel_rfl
theorem Pg:dJ 3=some ((List.range 16).flatMap fun i=>[AV.int .u8 (Lib.accLo i:Int),AV.int .u8 (Lib.accHi i:Int)]):=by kernel_rfl
theorem IR {w0:World} {S0:Nat→Prop} {E:Env} {L:List Blk} {w:World} (hR:Rel w0 S0 E L w) {g i:Nat} {l:List AV} {k:IntKind} {z:Int} (hp:dJ g=some l) (hi:l[i]?=some (.int k z)):w.cell? ⟨g,i,none⟩=some (.int k z):=by
 have hm:=pU hp
 obtain ⟨v,h1,h2⟩:=(hR.glob.env hm).get (i:=i) (a:=.int k z) hi
 simp only [VR] at h2
 subst h2
 simpa using hR.mem _ _ _ h1
theorem Q8 {w0:World} {S0:Nat→Prop} {E:Env} {L:List Blk} {w:World} (hR:Rel w0 S0 E L w):Lib.Utf8Tabs 2 3 w:=by
 refine ⟨fun c hc=>IR hR P9 ?_,fun i hi=>⟨IR hR Pg ?_,IR hR Pg ?_⟩⟩
 · simp [hc]
 · have:∀ i:_root_.Fin 16,((List.range 16).flatMap fun i=>[AV.int .u8 (Lib.accLo i:Int),AV.int .u8 (Lib.accHi i:Int)])[2 * i.val]?=some (.int .u8 (Lib.accLo i.val:Int)):=fun i=>by
     match i with
     | ⟨0,_⟩|⟨1,_⟩|⟨2,_⟩|⟨3,_⟩|⟨4,_⟩|⟨5,_⟩|⟨6,_⟩|⟨7,_⟩|⟨8,_⟩|⟨9,_⟩|⟨10,_⟩|⟨11,_⟩|⟨12,_⟩|⟨13,_⟩|⟨14,_⟩|⟨15,_⟩=>rfl
     | ⟨n+16,h⟩=>omega
   exact this ⟨i,hi⟩
 · have:∀ i:_root_.Fin 16,((List.range 16).flatMap fun i=>[AV.int .u8 (Lib.accLo i:Int),AV.int .u8 (Lib.accHi i:Int)])[2 * i.val+1]?=some (.int .u8 (Lib.accHi i.val:Int)):=fun i=>by
     match i with
     | ⟨0,_⟩|⟨1,_⟩|⟨2,_⟩|⟨3,_⟩|⟨4,_⟩|⟨5,_⟩|⟨6,_⟩|⟨7,_⟩|⟨8,_⟩|⟨9,_⟩|⟨10,_⟩|⟨11,_⟩|⟨12,_⟩|⟨13,_⟩|⟨14,_⟩|⟨15,_⟩=>rfl
     | ⟨n+16,h⟩=>omega
   exact this ⟨i,hi⟩
theorem CX {l:List UInt8} (hl:l.length≤1100000) (h:K (.bool (Lib.validD l)) L):ao Tryz.prog 83 [.str l] L K :=
 dd Tryz.func83 rfl (by kernel_rfl) (fun w0 S0 E w vs hR hv=>by
   simp only [VRL,VR] at hv
   obtain ⟨_,_,rfl,rfl,rfl⟩:=hv
   exact (Any.utf8_ValidString Tryz.lays196 ⟨⟨l⟩⟩ w (show l.length≤_ by omega) (Q8 hR)).mono fun e w' ⟨he,hw⟩=>⟨_,he,by simp [VR],pT hw⟩) h
theorem KU {a b:List UInt8} {L:List Blk} {K:AV→List Blk→Prop} (h:K (.int .i64 (Lib.compareBytes a b)) L):ao Tryz.prog 80 [.str a,.str b] L K :=
 dd Tryz.func80 rfl (by kernel_rfl) (fun w0 S0 E w vs hR hv=>by
   simp only [VRL,VR] at hv
   obtain ⟨_,_,rfl,rfl,_,_,rfl,rfl,rfl⟩:=hv
   exact (Tryz.strings_Compare ⟨⟨a⟩⟩ ⟨⟨b⟩⟩ w).mono fun e w' ⟨he,hw⟩=>⟨_,he,by simp [VR],by subst hw;exact Dv.refl _⟩) h
abbrev Ui:List UInt8:=[84,82,85,69]
abbrev Qm:List UInt8:=[70,65,76,83,69]
def MX (syn:Int) (v:List UInt8):Option (List UInt8) :=
 if syn=1 then (if v=[] then none else if Lib.validD v=true then some (dH v) else none)
 else if syn=2 then (if v=[] then none else if Lib.validD v=true then some v else none)
 else if syn=3 then (if Gj v=true then some (dH v) else none)
 else if syn=4 then (if cW v=true then some v else none)
 else if syn=5 then (if v=Ui∨v=Qm then some v else none)
 else if syn=6 then (if (OK v).2=0 then some (OK v).1 else none)
 else if syn=7 then some v
 else if syn=8 then (if At v=true then some v else none)
 else none
def bX (syn:Int) (v:List UInt8):Option (List UInt8):=if 4096<v.length then none else MX syn v
def JO:Option (List UInt8)→AV
 | some n=>.tup [.str n,.bool true]
 | none=>.tup [.str [],.bool false]
theorem PL {syn:Int} {v:List UInt8} (h:K (JO (bX syn v)) L):ao Tryz.prog 63 [.int .i64 syn,.str v] L K:=by
 unfold bX at h
 refine ag I0 (by simp [kT]) ?_
 simp only [kT,aN]
 by_cases hl:4096<v.length
 · have f1:(4096:Int)<(v.length:Int):=by omega
   rw [if_pos hl] at h
   replace h:=hid h
   clear hl
   refine wk ?_
   exact ab h.out
 have f1:¬ (4096:Int)<(v.length:Int):=by omega
 rw [if_neg hl] at h
 have vl1:v.length≤1100000:=by omega
 have vl2:(v.length:Int)≤100000:=by omega
 have vl3:(v.length:Int)≤1100000:=by omega
 unfold MX at h
 clear hl
 by_cases s1:syn=1
 · subst s1
   rw [if_pos rfl] at h
   by_cases hv:v=[]
   · rw [if_pos hv] at h
     replace h:=hid h
     subst hv
     have kk1:=@hid _ (fun L K=>pM vl2 (L:=L) (K:=K))
     have kk2:=@hid _ (fun L K=>CX vl1 (L:=L) (K:=K))
     refine wk ?_
     exact ab h.out
   · rw [if_neg hv] at h
     cases hd:Lib.validD v with
     | true =>
       rw [hd,if_pos rfl] at h
       replace h:=hid h
       have kk1:=@hid _ (fun L K=>pM vl2 (L:=L) (K:=K))
       have kk2:=@hid _ (fun L K=>CX vl1 (L:=L) (K:=K))
       refine wk ?_
       exact ab h.out
     | false =>
       rw [hd,if_neg (by simp)] at h
       replace h:=hid h
       have kk1:=@hid _ (fun L K=>pM vl2 (L:=L) (K:=K))
       have kk2:=@hid _ (fun L K=>CX vl1 (L:=L) (K:=K))
       refine wk ?_
       exact ab h.out
 rw [if_neg s1] at h
 by_cases s2:syn=2
 · subst s2
   rw [if_pos rfl] at h
   by_cases hv:v=[]
   · rw [if_pos hv] at h
     replace h:=hid h
     have kk1:=@hid _ (fun L K=>CX vl1 (L:=L) (K:=K))
     refine wk ?_
     exact ab h.out
   · rw [if_neg hv] at h
     cases hd:Lib.validD v with
     | true =>
       rw [hd,if_pos rfl] at h
       replace h:=hid h
       have kk1:=@hid _ (fun L K=>CX vl1 (L:=L) (K:=K))
       refine wk ?_
       exact ab h.out
     | false =>
       rw [hd,if_neg (by simp)] at h
       replace h:=hid h
       have kk1:=@hid _ (fun L K=>CX vl1 (L:=L) (K:=K))
       refine wk ?_
       exact ab h.out
 rw [if_neg s2] at h
 by_cases s3:syn=3
 · subst s3
   rw [if_pos rfl] at h
   replace h:=hid h
   have kk1:=@hid _ (fun L K=>pM vl2 (L:=L) (K:=K))
   refine wk ?_
   refine Ty vl1 (fun e=>?_) (fun k e=>?_)
   · have h':=h.out
     rw [if_pos e] at h'
     replace h':=hid h'
     refine sk ?_
     refine wk ?_
     exact ab h'.out
   · have h':=h.out
     rw [if_neg (by rw [e];simp)] at h'
     replace h':=hid h'
     have k0:¬ (k:Int)<0:=by omega
     refine sk ?_
     refine wk ?_
     exact ab h'.out
 rw [if_neg s3] at h
 by_cases s4:syn=4
 · subst s4
   rw [if_pos rfl] at h
   cases hd:cW v with
   | true =>
     rw [hd,if_pos rfl] at h
     replace h:=hid h
     have kk1:=@hid _ (fun L K=>Oz vl3 (L:=L) (K:=K))
     refine wk ?_
     exact ab h.out
   | false =>
     rw [hd,if_neg (by simp)] at h
     replace h:=hid h
     have kk1:=@hid _ (fun L K=>Oz vl3 (L:=L) (K:=K))
     refine wk ?_
     exact ab h.out
 rw [if_neg s4] at h
 by_cases s5:syn=5
 · subst s5
   rw [if_pos rfl] at h
   by_cases t1:v=Ui
   · rw [if_pos (.inl t1)] at h
     replace h:=hid h
     have c1:(decide (v=[84,82,85,69]):Bool)=true:=decide_eq_true t1
     subst t1
     refine wk ?_
     exact ab h.out
   · by_cases t2:v=Qm
     · rw [if_pos (.inr t2)] at h
       replace h:=hid h
       subst t2
       have t3:¬ ([70,65,76,83,69]:List UInt8)=[84,82,85,69]:=by decide
       clear t1
       refine wk ?_
       exact ab h.out
     · rw [if_neg (fun e=>e.elim t1 t2)] at h
       replace h:=hid h
       refine wk ?_
       exact ab h.out
 rw [if_neg s5] at h
 by_cases s6:syn=6
 · subst s6
   rw [if_pos rfl] at h
   obtain ⟨⟨k,e⟩,hk⟩:∃ p,OK v=p:=⟨_,rfl⟩
   rw [hk] at h
   simp only at h
   by_cases he:e=0
   · subst he
     rw [if_pos rfl] at h
     replace h:=hid h
     refine wk ?_
     refine VO ?_
     rw [hk]
     simp only [lv]
     refine sk ?_
     refine wk ?_
     exact ab h.out
   · rw [if_neg he] at h
     replace h:=hid h
     refine wk ?_
     refine VO ?_
     rw [hk]
     simp only [lv]
     refine sk ?_
     refine wk ?_
     exact ab h.out
 rw [if_neg s6] at h
 by_cases s7:syn=7
 · subst s7
   rw [if_pos rfl] at h
   replace h:=hid h
   refine wk ?_
   exact ab h.out
 rw [if_neg s7] at h
 by_cases s8:syn=8
 · subst s8
   rw [if_pos rfl] at h
   cases hd:At v with
   | true =>
     rw [hd,if_pos rfl] at h
     replace h:=hid h
     have kk1:=@hid _ (fun L K=>OE vl1 (L:=L) (K:=K))
     refine wk ?_
     exact ab h.out
   | false =>
     rw [hd,if_neg (by simp)] at h
     replace h:=hid h
     have kk1:=@hid _ (fun L K=>OE vl1 (L:=L) (K:=K))
     refine wk ?_
     exact ab h.out
 rw [if_neg s8] at h
 replace h:=hid h
 refine wk ?_
 exact ab h.out
theorem NV:∀ a b:List UInt8,Lib.compareBytes a b=if a<b then -1 else if b<a then 1 else 0
 | [],[]=>by simp [Lib.compareBytes]
 | [],b::bs=>by simp [Lib.compareBytes]
 | a::xs,[]=>by simp [Lib.compareBytes]
 | a::xs,b::bs=>by
   rw [Lib.compareBytes,NV xs bs]
   simp only [List.cons_lt_cons_iff]
   by_cases h1:a<b
   · rw [if_pos h1,if_pos (.inl h1)]
   · rw [if_neg h1]
     by_cases h2:b<a
     · rw [if_pos h2,if_neg,if_pos (.inl h2)]
       rintro (e|⟨e,_⟩)
       · exact h1 e
       · subst e;exact h1 h2
     · rw [if_neg h2]
       have e:a=b:=by
         rcases Nat.lt_trichotomy a.toNat b.toNat with h|h|h
         · exact absurd h h1
         · exact UInt8.toNat_inj.1 h
         · exact absurd h h2
       subst e
       simp
end Go.Proofs.YtolfghcbbpcciaaGreatDoor.Av
