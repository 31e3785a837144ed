/- Joined texts of the walk, made small by a program. -/
import Derived.Test.YtkkgmgmgcgiffaaGreatDoorUP4
import Derived.Test.YtkkgmgmgcgiffaaGreatDoorRows
import Derived.KernelRfl
import Derived.Test.YtkkgmgmgcgiffaaGreatDoorUD1
import Derived.Test.YtkkgmgmgcgiffaaGreatDoorUP5
import Derived.Test.YtkkgmgmgcgiffaaGreatDoorUShelfP
import Derived.Sort.Walk0
import Derived.Test.YtkkgmgmgcgiffaaGreatDoorUD2
set_option linter.unusedSimpArgs false
set_option linter.unusedVariables false
set_option maxRecDepth 100000
namespace Go.Proofs.YtkkgmgmgcgiffaaGreatDoor.Av
open Go
def lQ:LSO:=[A3 1 0,Af 2]
def lP:LSO:=[Ad 10 1 1,Ar 11 10,AF 12 11 15,Aa 13 12,.grp none 13 false
 [A8 14 13 1 1,BR 15 13 14 14,og 16 13 false (.bin .neq (tm 15) (.av (.int .u8 90)))]
 17 (tm 16)]
def lO:LSO:=[Af 2]
def lN:LSO:=[Ad 18 1 1,o1 19 (.slS (tm 18) none (some (iv 14))),o1 20 (.s2b (tm 19)),An 21 20,Ab 22 0]
def lM:LSO:=[Ak 23 22 21]
def lL:LSO:=[Aq 24 1 20 22,Ad 25 1 24,Aa 4 25]
def lK:LSO:=[Aa 26 4,o1 27 (.bin .lss (tm 26) (.av (.int .u8 48))),Aa 28 27,.grp none 28 false
 [Ag 29 28 4,og 30 28 false (.bin .gtr (tm 29) (.av (.int .u8 57)))]
 31 (tm 30)]
def lJ:LSO:=[Af 2]
def lI:LSO:=[Ah 32 22 1,Aa 22 32]
def lH:LSO:=[o1 33 (.mkfn 130 [(tm 1)]),Aa 5 33]
def kV:LSO:=[Aa 34 5,B9 35 34 0,o1 36 (.bin .mul (tm 35) (iv 100)),Aa 37 5,B9 38 37 2,AP 39 36 38,Aa 40 5,B9 41 40 4,Aa 42 5,B9 43 42 6,Aa 6 39,Aa 7 41,Aa 8 43]
def kU:LSO:=[Aa 44 7,AB 45 44 1,Aa 46 45,.grp none 46 false
 [Ag 47 46 7,A5 48 46 47 12]
 49 (tm 48),Aa 50 49,.grp none 50 false
 [Ag 51 50 8,BA 52 50 51 1]
 53 (tm 52),Aa 54 53,.grp none 54 false
 [Ag 55 54 5,BS 56 54 55 8,A5 57 54 56 23]
 58 (tm 57),Aa 59 58,.grp none 59 false
 [Ag 60 59 5,BS 61 59 60 10,A5 62 59 61 59]
 63 (tm 62),Aa 64 63,.grp none 64 false
 [Ag 65 64 5,BS 66 64 65 12,A5 67 64 66 59]
 68 (tm 67)]
def kT:LSO:=[Af 2]
def kS:LSO:=[Aa 69 7,Bk 70 69 1,o1 71 (.iaddrA 12 1 (.av (.gptr 2 0)) (tm 70)),Ad 72 1 71,Aa 9 72]
def kR:LSO:=[Aa 73 7,Al 74 73 2,Aa 75 74,.grp none 75 true
 [Ae 76 75 6,BC 77 75 76 4,AX 78 75 77 0,Ae 79 75 78,.grp (some (75,true)) 79 true
 [Ae 80 79 6,BC 81 79 80 100,Bl 82 79 81 0]
 83 (tm 82),Ae 84 75 83,.grp (some (75,true)) 84 false
 [Ag 85 84 6,og 86 84 false (.bin .rem (tm 85) (iv 400)),AC 87 84 86 0]
 88 (tm 87)]
 89 (tm 88)]
def kQ:LSO:=[Aa 90 9,Ah 91 90 1,Aa 9 91]
def kP:LSO:=[Aa 92 8,Aa 93 9,o1 94 (.bin .leq (tm 92) (tm 93)),Aa 2 94]
def jW:aW:=⟨95,(.seq (.sreg lQ [])
 (.seq (.seq (.sreg lP Cj)
 (.cond (tm 17) (.seq (.sreg lO [])
 .ret)
 .skip))
 (.seq (.seq (.sreg lN C7)
 (.block 0 (.loop (.seq (.sreg lM [])
 (.seq (.cond (tm 23) .skip
 (.exit 0))
 (.seq (.block 1 (.seq (.sreg lL Ch)
 (.seq (.sreg lK Ci)
 (.cond (tm 31) (.seq (.sreg lJ [])
 .ret)
 .skip))))
 (.sreg lI Cg)))))))
 (.seq (.sreg lH Cg)
 (.seq (.sreg kV [true,true,true,false,false,false,false,false,false,false,false,false,false])
 (.seq (.seq (.sreg kU Cv)
 (.cond (tm 68) (.seq (.sreg kT [])
 .ret)
 .skip))
 (.seq (.sreg kS Cj)
 (.seq (.seq (.sreg kR Ci)
 (.cond (tm 89) (.sreg kQ Ch)
 .skip))
 (.seq (.sreg kP Ci)
 .ret))))))))),[(.tmp 2)]⟩
attribute [push_cast] lQ lP lO lN lM lL lK lJ lI lH kV kU kT kS kR kQ kP
theorem Hb:bb Tryz.prog (fun _ _=>1) 86=some jW.raw:=by kernel_rfl
def j8:LSO:=[Ab 3 0]
def j7:LSO:=[Ad 4 1 1,Aa 5 0,A9 6 4 5,BD 7 6,Bi 8 7,o1 9 (.bin .mul (tm 8) (iv 10)),Ad 10 1 1,Aa 11 0,Ah 12 11 1,A9 13 10 12,BD 14 13,Bi 15 14,AP 16 9 15,
 Aa 3 16]
def iu:aW:=⟨17,(.seq (.sreg j8 [])
 (.seq (.sdreg j7 [(.read 0 0),.pure,(.read 0 0),.pure,.pure,.pure,(.read 0 0),.pure,.pure,(.read 0 0),.pure,.pure] [true,false,false,false,false,false,false,false,false,false,false,false,false,false])
 .ret)),[(.tmp 3)]⟩
attribute [push_cast] j8 j7
theorem CZ:bb Tryz.prog (fun _ _=>1) 130=some iu.raw:=by kernel_rfl
def lG:LSO:=[Ab 2 0,Af 3]
def lF:LSO:=[Aa 7 0,o1 8 (.call 126 [(tm 7),(iv 10),(iv 64)]),Aa 6 8,As 9 6,Au 10 6,Aa 4 9,Aa 5 10]
def lE:LSO:=[Aa 11 4,Aa 12 5,o1 13 (.eqk false .iface (tm 12) (.av .nilif)),Aa 14 13,.grp none 14 true
 [Ae 15 14 4,og 16 14 true (.call 127 [(tm 15),(iv 10)]),Ae 17 14 0,AY 18 14 16 17]
 19 (tm 18),Aa 2 11,Aa 3 19]
def jV:aW:=⟨20,(.seq (.sreg lG [])
 (.seq (.sreg lF Cz)
 (.seq (.sreg lE Cz)
 .ret))),[(.tmp 2),(.tmp 3)]⟩
attribute [push_cast] lG lF lE
theorem Ha:bb Tryz.prog (fun _ _=>1) 84=some jV.raw:=by kernel_rfl
def lS:LSO:=[Af 2]
def lR:LSO:=[Aa 3 0,o1 4 (.bin .geq (tm 3) (.av (.int .i32 128))),Aa 2 4]
def jX:aW:=⟨5,(.seq (.sreg lS [])
 (.seq (.sreg lR Ch)
 .ret)),[(.tmp 2)]⟩
attribute [push_cast] lS lR
theorem Hc:bb Tryz.prog (fun _ _=>1) 83=some jX.raw:=by kernel_rfl
def iJ:LSO:=[Ab 4 0]
def iI:LSO:=[Aa 5 0,Aa 6 1,o1 7 (.call 125 [(tm 5),(tm 6),(.av (.bool true))]),Aa 4 7]
def ed:aW:=⟨8,(.seq (.sreg iJ [])
 (.seq (.sreg iI Ci)
 .ret)),[(.tmp 4)]⟩
attribute [push_cast] iJ iI
theorem rt:bb Tryz.prog (fun _ _=>1) 82=some ed.raw:=by kernel_rfl
def iH:LSO:=[Ab 6 0]
def iG:LSO:=[Aa 9 0,o1 10 (.rangeS (tm 9))]
def iF:LSO:=[o1 11 (.nextS (tm 10)),As 12 11]
def iE:LSO:=[Au 13 11,Bh 14 11,Aa 7 13,Aa 8 14]
def iD:LSO:=[Aa 15 1,Aa 16 8,B8 17 15 16,Aa 18 2,o1 19 (.eqk false .bool (tm 17) (tm 18))]
def iC:LSO:=[Aa 20 7,Aa 6 20]
def iB:LSO:=[Ab 6 (-1)]
def d9:aW:=⟨21,(.seq (.sreg iH [])
 (.seq (.seq (.sreg iG Cg)
 (.block 0 (.loop (.seq (.sreg iF [])
 (.seq (.cond (tm 12) .skip
 (.exit 0))
 (.block 1 (.seq (.sreg iE Cw)
 (.seq (.sreg iD Cj)
 (.cond (tm 19) (.seq (.sreg iC Cg)
 .ret)
 .skip)))))))))
 (.seq (.sreg iB [])
 .ret))),[(.tmp 6)]⟩
attribute [push_cast] iH iG iF iE iD iC iB
theorem rr:bb Tryz.prog (fun _ _=>1) 125=some d9.raw:=by kernel_rfl
def Fe:LSO:=[Af 2]
def Fd:LSO:=[Aa 7 0,Ar 8 7,A0 9 8 0]
def Fc:LSO:=[Aa 10 0,Bz 11 10 0,Bi 12 11,Aa 3 12]
def Fb:LSO:=[Ab 4 1]
def Fa:LSO:=[Aa 13 3,AZ 14 13 240]
def E9:LSO:=[Ab 4 4]
def E8:LSO:=[Aa 15 3,Bk 16 15 240,Aa 3 16]
def E7:LSO:=[Aa 17 3,AZ 18 17 224]
def E6:LSO:=[Ab 4 3]
def E5:LSO:=[Aa 19 3,Bk 20 19 224,Aa 3 20]
def yi:LSO:=[Aa 21 3,AZ 22 21 192]
def yh:LSO:=[Ab 4 2]
def yg:LSO:=[Aa 23 3,Bk 24 23 192,Aa 3 24]
def yf:LSO:=[Aa 25 3,AZ 26 25 128]
def ye:LSO:=[Af 2]
def yd:LSO:=[Aa 27 0,Ar 28 27,Aa 29 4,Ak 30 28 29]
def yc:LSO:=[Af 2]
def yb:LSO:=[Ab 5 1]
def ya:LSO:=[Aa 31 5,Aa 32 4,Ak 33 31 32]
def x9:LSO:=[Aa 36 0,Aa 37 5,A9 38 36 37,Bi 39 38,Aa 6 39]
def x8:LSO:=[Aa 40 6,AB 41 40 128,Aa 42 41,.grp none 42 false
 [Ag 43 42 6,BE 44 42 43 192]
 45 (tm 44)]
def x0:LSO:=[Af 2]
def xZ:LSO:=[Aa 46 3,o1 47 (.bin .mul (tm 46) (iv 64)),Aa 48 6,AP 49 47 48,Bk 50 49 128,Aa 3 50]
def xY:LSO:=[Aa 34 5,Ah 35 34 1,Aa 5 35]
def xX:LSO:=[Aa 51 4,Al 52 51 2,Aa 53 52,.grp none 53 true
 [Ae 54 53 3,Bp 55 53 54 128]
 56 (tm 55),Aa 57 56,.grp none 57 false
 [Ag 58 57 4,AC 59 57 58 3,Ag 60 57 59,.grp (some (57,false)) 60 true
 [Ae 61 60 3,Bp 62 60 61 2048]
 63 (tm 62)]
 64 (tm 63),Aa 65 64,.grp none 65 false
 [Ag 66 65 4,AC 67 65 66 4,Ag 68 65 67,.grp (some (65,false)) 68 true
 [Ae 69 68 3,Bp 70 68 69 65536]
 71 (tm 70)]
 72 (tm 71),Aa 73 72,.grp none 73 false
 [Ag 74 73 3,A5 75 73 74 1114111]
 76 (tm 75),Aa 77 76,.grp none 77 false
 [Ag 78 77 3,BE 79 77 78 55296,Ag 80 77 79,.grp (some (77,false)) 80 true
 [Ae 81 80 3,Bp 82 80 81 57344]
 83 (tm 82)]
 84 (tm 83)]
def xW:LSO:=[Af 2]
def xV:LSO:=[Aa 85 0,Aa 86 4,BF 87 85 86,Aa 0 87]
def xU:LSO:=[Ax 2]
def Dc:aW:=⟨88,(.seq (.sreg Fe [])
 (.seq (.block 0 (.loop (.seq (.seq (.sreg Fd Ch)
 (.cond (tm 9) .skip
 (.exit 0)))
 (.block 1 (.seq (.sreg Fc Ci)
 (.seq (.sreg Fb [])
 (.seq (.seq (.sreg Fa Cg)
 (.cond (tm 14) (.seq (.sreg E9 [])
 (.sreg E8 Ch))
 (.seq (.sreg E7 Cg)
 (.cond (tm 18) (.seq (.sreg E6 [])
 (.sreg E5 Ch))
 (.seq (.sreg yi Cg)
 (.cond (tm 22) (.seq (.sreg yh [])
 (.sreg yg Ch))
 (.seq (.sreg yf Cg)
 (.cond (tm 26) (.seq (.sreg ye [])
 .ret)
 .skip))))))))
 (.seq (.seq (.sreg yd Ci)
 (.cond (tm 30) (.seq (.sreg yc [])
 .ret)
 .skip))
 (.seq (.seq (.sreg yb [])
 (.block 2 (.loop (.seq (.seq (.sreg ya Ch)
 (.cond (tm 33) .skip
 (.exit 2)))
 (.seq (.block 3 (.seq (.sreg x9 Cj)
 (.seq (.seq (.sreg x8 Ci)
 (.cond (tm 45) (.seq (.sreg x0 [])
 .ret)
 .skip))
 (.sreg xZ Ck))))
 (.sreg xY Ch))))))
 (.seq (.seq (.sreg xX Cv)
 (.cond (tm 84) (.seq (.sreg xW [])
 .ret)
 .skip))
 (.sreg xV Ci)))))))))))
 (.seq (.sreg xU [])
 .ret))),[(.tmp 2)]⟩
attribute [push_cast] Fe Fd Fc Fb Fa E9 E8 E7 E6 E5 yi yh yg yf ye yd yc yb ya x9 x8 x0 xZ xY xX xW xV xU
theorem M2:bb Tryz.prog (fun _ _=>1) 96=some Dc.raw:=by kernel_rfl
def o8:LSO:=[Af 2]
def o7:LSO:=[Ab 3 0]
def o6:LSO:=[Aa 4 3,Aa 5 0,Ar 6 5,Ak 7 4 6]
def o5:LSO:=[Aa 10 0,Aa 11 3,A9 12 10 11,o1 13 (.bin .lss (tm 12) (.av (.int .u8 48))),Aa 14 13,.grp none 14 false
 [Ag 15 14 0,Ag 16 14 3,Bq 17 14 15 16,og 18 14 false (.bin .gtr (tm 17) (.av (.int .u8 57)))]
 19 (tm 18)]
def o4:LSO:=[Af 2]
def o3:LSO:=[Aa 8 3,Ah 9 8 1,Aa 3 9]
def oZ:LSO:=[Aa 20 0,Ar 21 20,A0 22 21 0,Aa 2 22]
def lu:aW:=⟨23,(.seq (.sreg o8 [])
 (.seq (.seq (.sreg o7 [])
 (.block 0 (.loop (.seq (.seq (.sreg o6 Ci)
 (.cond (tm 7) .skip
 (.exit 0)))
 (.seq (.block 1 (.seq (.sreg o5 Ck)
 (.cond (tm 19) (.seq (.sreg o4 [])
 .ret)
 .skip)))
 (.sreg o3 Ch))))))
 (.seq (.sreg oZ Ci)
 .ret))),[(.tmp 2)]⟩
attribute [push_cast] o8 o7 o6 o5 o4 o3 oZ
theorem JF:bb Tryz.prog (fun _ _=>1) 140=some lu.raw:=by kernel_rfl
def oO:LSO:=[Af 2]
def oN:LSO:=[Aa 4 0,o1 5 (.bin .eql (tm 4) (.av (.str [48])))]
def oM:LSO:=[Ax 2]
def oL:LSO:=[o1 3 (.mv (.av (.str [57,50,50,51,51,55,50,48,51,54,56,53,52,55,55,53,56,48,55])))]
def oK:LSO:=[Aa 6 0,Ar 7 6,A0 8 7 0,Aa 9 8,.grp none 9 true
 [Ae 10 9 0,og 11 9 true (.idxS (tm 10) (iv 0)),og 12 9 true (.bin .eql (tm 11) (.av (.int .u8 45)))]
 13 (tm 12)]
def oJ:LSO:=[Aa 14 0,o1 15 (.slS (tm 14) (some (iv 1)) none),Aa 0 15]
def oI:LSO:=[o1 3 (.mv (.av (.str [57,50,50,51,51,55,50,48,51,54,56,53,52,55,55,53,56,48,56])))]
def oH:LSO:=[Aa 16 0,Aj 17 140 16,Aa 18 17,.grp none 18 true
 [Ae 19 18 0,og 20 18 true (.idxS (tm 19) (iv 0)),og 21 18 true (.bin .neq (tm 20) (.av (.int .u8 48)))]
 22 (tm 21),Aa 23 22,.grp none 23 true
 [Ae 24 23 0,BG 25 23 24,Bp 26 23 25 19,Ae 27 23 26,.grp (some (23,true)) 27 false
 [Ag 28 27 0,Br 29 27 28,AC 30 27 29 19,Ag 31 27 30,.grp (some (27,false)) 31 true
 [Ae 32 31 0,Ae 33 31 3,og 34 31 true (.bin .leq (tm 32) (tm 33))]
 35 (tm 34)]
 36 (tm 35)]
 37 (tm 36),Aa 2 37]
def lq:aW:=⟨38,(.seq (.sreg oO [])
 (.seq (.seq (.sreg oN Cg)
 (.cond (tm 5) (.seq (.sreg oM [])
 .ret)
 .skip))
 (.seq (.sreg oL [])
 (.seq (.seq (.sreg oK Cj)
 (.cond (tm 13) (.seq (.sreg oJ Ch)
 (.sreg oI []))
 .skip))
 (.seq (.sreg oH Cl)
 .ret))))),[(.tmp 2)]⟩
attribute [push_cast] oO oN oM oL oK oJ oI oH
theorem JD:bb Tryz.prog (fun _ _=>1) 98=some lq.raw:=by kernel_rfl
def Fl:LSO:=[Ab 2 0]
def Fk:LSO:=[Ab 3 0]
def Fj:LSO:=[Ab 4 0]
def Fi:LSO:=[Aa 5 4,Aa 6 0,Ar 7 6,Ak 8 5 7]
def Fh:LSO:=[Aa 11 3,o1 12 (.bin .mul (iv 10) (tm 11)),Aa 13 0,Aa 14 4,A9 15 13 14,BD 16 15,Bi 17 16,AP 18 12 17,Aa 3 18]
def Fg:LSO:=[Aa 9 4,Ah 10 9 1,Aa 4 10]
def Ff:LSO:=[Aa 19 3,Aa 2 19]
def Dd:aW:=⟨20,(.seq (.sreg Fl [])
 (.seq (.sreg Fk [])
 (.seq (.seq (.sreg Fj [])
 (.block 0 (.loop (.seq (.seq (.sreg Fi Ci)
 (.cond (tm 8) .skip
 (.exit 0)))
 (.seq (.block 1 (.sreg Fh C0))
 (.sreg Fg Ch))))))
 (.seq (.sreg Ff Cg)
 .ret)))),[(.tmp 2)]⟩
attribute [push_cast] Fl Fk Fj Fi Fh Fg Ff
theorem M3:bb Tryz.prog (fun _ _=>1) 143=some Dd.raw:=by kernel_rfl
def oY:LSO:=[Af 2]
def oX:LSO:=[Aa 7 0,Ar 8 7,AF 9 8 15,Aa 10 9,.grp none 10 false
 [Ag 11 10 0,og 12 10 false (.slS (tm 11) none (some (iv 14))),AI 13 10 140 12,AU 14 10 13]
 15 (tm 14),Aa 16 15,.grp none 16 false
 [Ag 17 16 0,BR 18 16 17 14,og 19 16 false (.bin .neq (tm 18) (.av (.int .u8 90)))]
 20 (tm 19)]
def oW:LSO:=[Af 2]
def oV:LSO:=[Aa 21 0,o1 22 (.slS (tm 21) none (some (iv 4))),Aj 23 143 22,Aa 24 0,o1 25 (.slS (tm 24) (some (iv 4)) (some (iv 6))),Aj 26 143 25,Aa 27 0,
 o1 28 (.slS (tm 27) (some (iv 6)) (some (iv 8))),Aj 29 143 28,Aa 3 23,Aa 4 26,Aa 5 29]
def oU:LSO:=[Aa 30 4,AB 31 30 1,Aa 32 31,.grp none 32 false
 [Ag 33 32 4,A5 34 32 33 12]
 35 (tm 34),Aa 36 35,.grp none 36 false
 [Ag 37 36 5,BA 38 36 37 1]
 39 (tm 38),Aa 40 39,.grp none 40 false
 [Ag 41 40 0,BT 42 40 41 8 10,AI 43 40 143 42,A5 44 40 43 23]
 45 (tm 44),Aa 46 45,.grp none 46 false
 [Ag 47 46 0,BT 48 46 47 10 12,AI 49 46 143 48,A5 50 46 49 59]
 51 (tm 50),Aa 52 51,.grp none 52 false
 [Ag 53 52 0,BT 54 52 53 12 14,AI 55 52 143 54,A5 56 52 55 59]
 57 (tm 56)]
def oT:LSO:=[Af 2]
def oS:LSO:=[Ab 6 31]
def oR:LSO:=[Aa 58 4,Al 59 58 4,Aa 60 59,.grp none 60 false
 [Ag 61 60 4,AC 62 60 61 6]
 63 (tm 62),Aa 64 63,.grp none 64 false
 [Ag 65 64 4,AC 66 64 65 9]
 67 (tm 66),Aa 68 67,.grp none 68 false
 [Ag 69 68 4,AC 70 68 69 11]
 71 (tm 70)]
def oQ:LSO:=[Ab 6 30]
def oP:LSO:=[Aa 72 4,Al 73 72 2]
def l8:LSO:=[Ab 6 28]
def l7:LSO:=[Aa 74 3,o1 75 (.bin .rem (tm 74) (iv 400)),Al 76 75 0,Aa 77 76,.grp none 77 false
 [Ag 78 77 3,og 79 77 false (.bin .rem (tm 78) (iv 4)),AC 80 77 79 0,Ag 81 77 80,.grp (some (77,false)) 81 true
 [Ae 82 81 3,BC 83 81 82 100,Bl 84 81 83 0]
 85 (tm 84)]
 86 (tm 85)]
def l6:LSO:=[Ab 6 29]
def l5:LSO:=[Aa 87 5,Aa 88 6,o1 89 (.bin .leq (tm 87) (tm 88)),Aa 2 89]
def lr:aW:=⟨90,(.seq (.sreg oY [])
 (.seq (.seq (.sreg oX Cl)
 (.cond (tm 20) (.seq (.sreg oW [])
 .ret)
 .skip))
 (.seq (.sdreg oV [.pure,(.read 0 0),(.read 0 0),.pure,(.read 0 0),(.read 0 0),.pure,(.read 0 0)] CD)
 (.seq (.seq (.sreg oU Cv)
 (.cond (tm 57) (.seq (.sreg oT [])
 .ret)
 .skip))
 (.seq (.sreg oS [])
 (.seq (.seq (.sreg oR Cp)
 (.cond (tm 71) (.sreg oQ [])
 .skip))
 (.seq (.seq (.sreg oP Cg)
 (.cond (tm 73) (.seq (.sreg l8 [])
 (.seq (.sreg l7 Cj)
 (.cond (tm 86) (.sreg l6 [])
 .skip)))
 .skip))
 (.seq (.sreg l5 Ci)
 .ret)))))))),[(.tmp 2)]⟩
attribute [push_cast] oY oX oW oV oU oT oS oR oQ oP l8 l7 l6 l5
theorem JE:bb Tryz.prog (fun _ _=>1) 100=some lr.raw:=by kernel_rfl
def yt:LSO:=[Ao 4,Af 5]
def yr:LSO:=[Aa 9 1,Ar 10 9,A0 11 10 4096]
def yq:LSO:=[Ao 4,Af 5]
def yp:LSO:=[Aa 12 0]
def yo:LSO:=[Al 14 12 1,Aa 13 14]
def yn:LSO:=[Aa 15 1,Ar 16 15,A0 17 16 0,Aa 18 17,.grp none 18 true
 [Ae 19 18 1,AJ 20 18 96 19]
 21 (tm 20)]
def ym:LSO:=[Aa 22 1,Aj 23 97 22,Aa 4 23,Ax 5]
def yl:LSO:=[Al 25 12 2,Aa 24 25]
def yk:LSO:=[Aa 26 1,Ar 27 26,A0 28 27 0,Aa 29 28,.grp none 29 true
 [Ae 30 29 1,AJ 31 29 96 30]
 32 (tm 31)]
def yj:LSO:=[Aa 33 1,Aa 4 33,Ax 5]
def ue:LSO:=[Al 35 12 3,Aa 34 35]
def ud:LSO:=[Ab 6 0]
def uc:LSO:=[Aa 36 6,Aa 37 1,Ar 38 37,Ak 39 36 38]
def ub:LSO:=[Aa 42 1,Aa 43 6,A9 44 42 43,o1 45 (.bin .geq (tm 44) (.av (.int .u8 128)))]
def ua:LSO:=[Ao 4,Af 5]
def t8:LSO:=[Aa 40 6,Ah 41 40 1,Aa 6 41]
def t7:LSO:=[Aa 46 1,Aj 47 97 46,Aa 4 47,Ax 5]
def tZ:LSO:=[Al 49 12 4,Aa 48 49]
def tY:LSO:=[Aa 50 1,Aj 51 98 50]
def tX:LSO:=[Aa 52 1,Aa 4 52,Ax 5]
def tW:LSO:=[Al 54 12 5,Aa 53 54]
def tV:LSO:=[Aa 55 1,o1 56 (.bin .eql (tm 55) (.av (.str [84,82,85,69]))),Aa 57 56,.grp none 57 false
 [Ag 58 57 1,og 59 57 false (.bin .eql (tm 58) (.av (.str [70,65,76,83,69])))]
 60 (tm 59)]
def tU:LSO:=[Aa 61 1,Aa 4 61,Ax 5]
def tT:LSO:=[Al 63 12 6,Aa 62 63]
def tS:LSO:=[Aa 65 1,Aj 66 99 65,Aa 64 66,As 67 64,Au 68 64,Aa 7 67,Aa 8 68]
def tR:LSO:=[Aa 69 8,Al 70 69 0]
def tQ:LSO:=[Aa 71 7,Aa 4 71,Ax 5]
def tP:LSO:=[Al 73 12 7,Aa 72 73]
def tO:LSO:=[Aa 74 1,Aa 4 74,Ax 5]
def tN:LSO:=[Al 76 12 8,Aa 75 76]
def tM:LSO:=[Aa 77 1,Aj 78 100 77]
def tL:LSO:=[Aa 79 1,Aa 4 79,Ax 5]
def tK:LSO:=[Ao 4,Af 5]
def rA:aW:=⟨80,(.seq (.sreg yt [])
 (.seq (.seq (.sreg yr Ch)
 (.cond (tm 11) (.seq (.sreg yq [])
 .ret)
 .skip))
 (.seq (.seq (.sreg yp [])
 (.block 0 (.seq (.sreg yo Cg)
 (.cond (tm 13) (.seq (.sreg yn Cj)
 (.cond (tm 21) (.seq (.sreg ym Cw)
 .ret)
 .skip))
 (.seq (.sreg yl Cg)
 (.cond (tm 24) (.seq (.sreg yk Cj)
 (.cond (tm 32) (.seq (.sreg yj Cm)
 .ret)
 .skip))
 (.seq (.sreg ue Cg)
 (.cond (tm 34) (.seq (.seq (.sreg ud [])
 (.block 1 (.loop (.seq (.seq (.sreg uc Ci)
 (.cond (tm 39) .skip
 (.exit 1)))
 (.seq (.block 2 (.seq (.sreg ub Ci)
 (.cond (tm 45) (.seq (.sreg ua [])
 .ret)
 .skip)))
 (.sreg t8 Ch))))))
 (.seq (.sreg t7 Cw)
 .ret))
 (.seq (.sreg tZ Cg)
 (.cond (tm 48) (.seq (.sreg tY Cg)
 (.cond (tm 51) (.seq (.sreg tX Cm)
 .ret)
 .skip))
 (.seq (.sreg tW Cg)
 (.cond (tm 53) (.seq (.sreg tV Ci)
 (.cond (tm 60) (.seq (.sreg tU Cm)
 .ret)
 .skip))
 (.seq (.sreg tT Cg)
 (.cond (tm 62) (.seq (.sreg tS Cz)
 (.seq (.sreg tR Cg)
 (.cond (tm 70) (.seq (.sreg tQ Cm)
 .ret)
 .skip)))
 (.seq (.sreg tP Cg)
 (.cond (tm 72) (.seq (.sreg tO Cm)
 .ret)
 (.seq (.sreg tN Cg)
 (.cond (tm 75) (.seq (.sreg tM Cg)
 (.cond (tm 78) (.seq (.sreg tL Cm)
 .ret)
 .skip))
 .skip))))))))))))))))))
 (.seq (.sreg tK [])
 .ret)))),[(.tmp 4),(.tmp 5)]⟩
attribute [push_cast] yt yr yq yp yo yn ym yl yk yj ue ud uc ub ua t8 t7 tZ tY tX tW tV tU tT tS tR tQ tP tO tN tM tL tK
theorem Lm:bb Tryz.prog (fun _ _=>1) 51=some rA.raw:=by kernel_rfl
def sd:LSO:=[Ao 4,Af 5]
def sc:LSO:=[Aa 10 1,Ar 11 10,A0 12 11 4096]
def sb:LSO:=[Ao 4,Af 5]
def sa:LSO:=[Aa 13 1,Aa 6 13,Af 7]
def rZ:LSO:=[Aa 14 0]
def rY:LSO:=[Al 16 14 1,Aa 15 16]
def rX:LSO:=[Aa 17 1,Aj 18 80 17,Aa 19 1,BH 20 19,Aa 21 20,.grp none 21 true
 [Ae 22 21 1,AJ 23 21 81 22]
 24 (tm 23),Aa 6 18,Aa 7 24]
def rW:LSO:=[Al 26 14 2,Aa 25 26]
def rV:LSO:=[Aa 27 1,BH 28 27,Aa 29 28,.grp none 29 true
 [Ae 30 29 1,AJ 31 29 81 30]
 32 (tm 31),Aa 7 32]
def rU:LSO:=[Al 34 14 3,Aa 33 34]
def nG:LSO:=[Aa 35 1,Aj 36 80 35,Aa 37 1,o1 38 (.call 82 [(tm 37),(.av (.func 83 []))]),AB 39 38 0,Aa 6 36,Aa 7 39]
def nF:LSO:=[Al 41 14 4,Aa 40 41]
def nE:LSO:=[Aa 43 1,Aj 44 84 43,Aa 42 44,As 45 42,Au 46 42,Aa 7 46]
def nD:LSO:=[Al 48 14 5,Aa 47 48]
def nC:LSO:=[Aa 49 1,o1 50 (.bin .eql (tm 49) (.av (.str [84,82,85,69]))),Aa 51 50,.grp none 51 false
 [Ag 52 51 1,og 53 51 false (.bin .eql (tm 52) (.av (.str [70,65,76,83,69])))]
 54 (tm 53),Aa 7 54]
def nB:LSO:=[Al 56 14 6,Aa 55 56]
def nA:LSO:=[Aa 58 1,Aj 59 85 58,Aa 57 59,As 60 57,Au 61 57,Aa 8 60,Aa 9 61]
def nz:LSO:=[Aa 62 8,Aa 63 9,Al 64 63 0,Aa 6 62,Aa 7 64]
def ny:LSO:=[Al 66 14 7,Aa 65 66]
def nx:LSO:=[Ax 7]
def nw:LSO:=[Al 68 14 8,Aa 67 68]
def nv:LSO:=[Aa 69 1,Aj 70 86 69,Aa 7 70]
def nu:LSO:=[Aa 71 7,Ay 72 71]
def nr:LSO:=[Ao 4,Af 5]
def nq:LSO:=[Aa 73 6,Aa 4 73,Ax 5]
def mB:aW:=⟨74,(.seq (.sreg sd [])
 (.seq (.seq (.sreg sc Ch)
 (.cond (tm 12) (.seq (.sreg sb [])
 .ret)
 .skip))
 (.seq (.sreg sa Cm)
 (.seq (.seq (.sreg rZ [])
 (.block 0 (.seq (.sreg rY Cg)
 (.cond (tm 15) (.sreg rX Cs)
 (.seq (.sreg rW Cg)
 (.cond (tm 25) (.sreg rV Cj)
 (.seq (.sreg rU Cg)
 (.cond (tm 33) (.sreg nG Cz)
 (.seq (.sreg nF Cg)
 (.cond (tm 40) (.sreg nE Ck)
 (.seq (.sreg nD Cg)
 (.cond (tm 47) (.sreg nC Cj)
 (.seq (.sreg nB Cg)
 (.cond (tm 55) (.seq (.sreg nA Cz)
 (.sreg nz Co))
 (.seq (.sreg ny Cg)
 (.cond (tm 65) (.sreg nx [])
 (.seq (.sreg nw Cg)
 (.cond (tm 67) (.sreg nv Ch)
 .skip))))))))))))))))))
 (.seq (.seq (.sreg nu Cg)
 (.cond (tm 72) (.seq (.sreg nr [])
 .ret)
 .skip))
 (.seq (.sreg nq Cm)
 .ret)))))),[(.tmp 4),(.tmp 5)]⟩
attribute [push_cast] sd sc sb sa rZ rY rX rW rV rU nG nF nE nD nC nB nA nz ny nx nw nv nu nr nq
theorem J0:bb Tryz.prog (fun _ _=>1) 38=some mB.raw:=by kernel_rfl
def np:LSO:=[Ab 6 0,Af 7]
def nj:LSO:=[Aa 17 0,Aa 18 1,Aw 19 38 17 18,Aa 16 19,As 20 16,Au 21 16,Aa 8 20,Aa 9 21]
def ni:LSO:=[Aa 23 0,Aa 24 2,Aw 25 38 23 24,Aa 22 25,As 26 22,Au 27 22,Aa 10 26,Aa 11 27]
def nh:LSO:=[Aa 28 9,Ay 29 28,Aa 30 29,.grp none 30 false
 [Ag 31 30 11,AU 32 30 31]
 33 (tm 32),Aa 34 33,.grp none 34 false
 [Ag 35 34 0,AC 36 34 35 5]
 37 (tm 36),Aa 38 37,.grp none 38 false
 [Ag 39 38 0,AC 40 38 39 6]
 41 (tm 40),Aa 42 41,.grp none 42 false
 [Ag 43 42 0,AC 44 42 43 7]
 45 (tm 44)]
def ng:LSO:=[Ab 6 0,Af 7]
def nf:LSO:=[Aa 46 0,Al 47 46 4]
def nd:LSO:=[Aa 49 8,Aj 50 84 49,Aa 48 50,As 51 48,Au 52 48,Aa 12 51,Aa 13 52]
def na:LSO:=[Aa 54 10,Aj 55 84 54,Aa 53 55,As 56 53,Au 57 53,Aa 14 56,Aa 15 57]
def m9:LSO:=[Aa 58 12,Aa 59 14,Aw 60 93 58 59,Aa 6 60,Ax 7]
def mZ:LSO:=[Aa 61 8,Aa 62 10,Aw 63 94 61 62,Aa 6 63,Ax 7]
def lm:aW:=⟨64,(.seq (.sreg np [])
 (.seq (.sreg nj Cs)
 (.seq (.sreg ni Cs)
 (.seq (.seq (.sreg nh Cx)
 (.cond (tm 45) (.seq (.sreg ng [])
 .ret)
 .skip))
 (.seq (.seq (.sreg nf Cg)
 (.cond (tm 47) (.seq (.sreg nd CA)
 (.seq (.sreg na CA)
 (.seq (.sreg m9 Co)
 .ret)))
 .skip))
 (.seq (.sreg mZ Co)
 .ret)))))),[(.tmp 6),(.tmp 7)]⟩
attribute [push_cast] np nj ni nh ng nf nd na m9 mZ
theorem JB:bb Tryz.prog (fun _ _=>1) 45=some lm.raw:=by kernel_rfl
variable {L:List Blk} {K:AV→List Blk→Prop}
set_option maxHeartbeats 8000000
set_option maxRecDepth 100000
theorem RJ {x:Int} {L:List Blk} {K:AV→List Blk→Prop} (h:K (.bool (decide ((128:Int)≤x))) L):ad Tryz.prog 83 [.int .i32 x] L K:=by
 replace h:=hid h
 refine ae Hc (by simp [jX]) ?_
 simp only [jX,ar]
 refine wk ?_
 exact aa h.out
def Ko (s:List UInt8):Bool:=s.all fun c=>decide (c.toNat<128)
theorem Xp {s:List UInt8} (hs:s.length≤1100000) (hno:Ko s=true→K (.int .i64 (-1)) L) (hyes:∀ k:Nat,Ko s=false→K (.int .i64 (k:Int)) L) :
   ad Tryz.prog 125 [.str s,.func 83 [],.bool true] L K:=by
 replace hno:=hid hno
 replace hyes:=hid hyes
 refine ae rr (by simp [d9]) ?_
 simp only [d9,ar]
 refine wk ?_
 refine am (fun n T' L'=>∃ p,n=s.length - p∧p≤s.length∧Hid (Ko (s.take p)=true)∧T'=[(10,.ptr L.length 0),(1,.func 83 []),(2,.bool true)]∧L'=L++[.siter s p]) (CutS (b:=by simp)) ⟨0,rfl,Nat.zero_le _,hid rfl,rfl,rfl⟩ ?_
 rintro _ _ _ ⟨p,rfl,hp,hall,rfl,rfl⟩
 by_cases hlt:p<s.length
 · obtain ⟨c,hc⟩:∃ c,s.getD p 0=c:=⟨_,rfl⟩
   have hr:=c.toNat_lt
   have htk:s.take (p+1)=s.take p++[c]:=by rw [List.take_succ_eq_append_getElem hlt,← hc];simp [hlt]
   have hnext:Ko (s.take (p+1))=decide (c.toNat<128):=by
     have:=hall.out
     unfold Ko at this ⊢
     rw [htk,List.all_append,this];simp
   by_cases ha:c.toNat<128
   · have hd:=MS hlt (by rw [hc];exact ha)
     rw [hc] at hd
     have w0:IntKind.i32.wrap (c.toNat:Int)=(c.toNat:Int):=LQ (by omega) (by omega)
     have f1:¬ (128:Int)≤(c.toNat:Int):=by omega
     replace hnext:=hid (hnext.trans (decide_eq_true ha))
     clear hc ha htk
     have kk1:=@hid _ @RJ
     refine wk ?_
     exact ak _ _ _ (by omega) (CutS (b:=by simp)) ⟨p+1,rfl,hlt,hnext,rfl,rfl⟩
   · have hh:=Oc hlt (by rw [hc];omega)
     obtain ⟨⟨x,wd⟩,hd⟩:∃ q,Lf s p=q:=⟨_,rfl⟩
     rw [hd] at hh
     simp only at hh
     have f1:(128:Int)≤(x:Int):=by omega
     have hbad:Ko s=false:=by
       rw [← Bool.not_eq_true]
       intro e
       have hm:c∈s:=by rw [← hc];simp [hlt]
       have:=List.all_eq_true.1 e c hm
       simp at this;omega
     have h':=hid (hyes.out p hbad)
     clear hc ha htk hnext hbad
     have kk1:=@hid _ @RJ
     refine wk ?_
     exact ab rfl h'.out
 · have hke:p=s.length:=by omega
   subst hke
   have h1:=hall.out
   rw [List.take_length] at h1
   have h':=hid (hno.out h1)
   clear h1
   refine wk ?_
   exact ab rfl h'.out
theorem Uz {s:List UInt8} (hs:s.length≤1100000) (hno:Ko s=true→K (.int .i64 (-1)) L) (hyes:∀ k:Nat,Ko s=false→K (.int .i64 (k:Int)) L) :
   ad Tryz.prog 82 [.str s,.func 83 []] L K:=by
 replace hno:=hid hno
 replace hyes:=hid hyes
 refine ae rt (by simp [ed]) ?_
 simp only [ed,ar]
 refine wk ?_
 refine Xp hs (fun e=>?_) (fun k e=>?_)
 · have h':=hid (hno.out e)
   refine sk ?_
   refine wk ?_
   exact aa h'.out
 · have h':=hid (hyes.out k e)
   refine sk ?_
   refine wk ?_
   exact aa h'.out
def dig (v:List UInt8) (i:Nat):Nat:=(v.getD i 0).toNat - 48
def two (v:List UInt8) (i:Nat):Nat:=10 * dig v i+dig v (i+1)
def dw (c:UInt8):Bool:=decide (48≤c.toNat) && decide (c.toNat≤57)
def Un (y:Nat):Bool:=decide (y % 4=0) && !decide (y % 100=0) || decide (y % 400=0)
def OV (m:Nat):Nat:=if m=2 then 28 else if m=4∨m=6∨m=9∨m=11 then 30 else 31
def N1 (y m:Nat):Nat:=if m=2∧Un y=true then OV m+1 else OV m
def P3 (v:List UInt8):Bool:=decide ((1≤two v 4∧two v 4≤12)∧1≤two v 6∧two v 8≤23∧two v 10≤59∧two v 12≤59) && decide (two v 6≤N1 (two v 0 * 100+two v 2) (two v 4))
def CM (v:List UInt8):Bool:=decide (v.length=15) && decide (v.getD 14 0=90) && (v.take 14).all dw && P3 v
theorem XX {v:List UInt8} {i p:Nat} {z:Int} (hz:z=(i:Int)) (hi:i+1<v.length) (hv:v.length≤1000) (h1:dw (v.getD i 0)=true) (h2:dw (v.getD (i+1) 0)=true) (hL:L[p]?=some (.cells [.str v])) (h:K (.int .i64 (two v i:Nat)) L) :
   ad Tryz.prog 130 [.int .i64 z,.ptr p 0] L K:=by
 subst hz
 unfold two dig at h
 obtain ⟨a,ha⟩:∃ a,v.getD i 0=a:=⟨_,rfl⟩
 obtain ⟨b,hb⟩:∃ b,v.getD (i+1) 0=b:=⟨_,rfl⟩
 rw [ha] at h1 h
 rw [hb] at h2 h
 simp only [dw,Bool.and_eq_true,decide_eq_true_eq] at h1 h2
 obtain ⟨x,hx⟩:∃ x:Nat,a.toNat=48+x:=⟨a.toNat - 48,by omega⟩
 obtain ⟨y,hy⟩:∃ y:Nat,b.toNat=48+y:=⟨b.toNat - 48,by omega⟩
 have hx9:x≤9:=by omega
 have hy9:y≤9:=by omega
 rw [show 10 * (a.toNat - 48)+(b.toNat - 48)=10 * x+y by omega] at h
 have hxa:(a.toNat:Int)=48+(x:Int):=by omega
 have hyb:(b.toNat:Int)=48+(y:Int):=by omega
 have g1:(i:Int)<(v.length:Int):=by omega
 have g2:IntKind.i64.wrap ((i:Int)+1)=(i:Int)+1:=ac (by omega) (by omega)
 have g3:(i:Int)+1<(v.length:Int):=by omega
 have g4:((i:Int)+1).toNat=i+1:=by omega
 have g5:(0:Int)≤(i:Int)+1:=by omega
 have w1:IntKind.u8.wrap (48+(x:Int) - 48)=(x:Int):=by rw [cc (by omega) (by omega)];omega
 have w2:IntKind.u8.wrap (48+(y:Int) - 48)=(y:Int):=by rw [cc (by omega) (by omega)];omega
 have w3:IntKind.i64.wrap (x:Int)=(x:Int):=ac (by omega) (by omega)
 have w4:IntKind.i64.wrap (y:Int)=(y:Int):=ac (by omega) (by omega)
 have w5:IntKind.i64.wrap ((x:Int) * 10)=(x:Int) * 10:=ac (by omega) (by omega)
 have w6:IntKind.i64.wrap ((x:Int) * 10+(y:Int))=(x:Int) * 10+(y:Int):=ac (by omega) (by omega)
 have hfin:K (.int .i64 ((x:Int) * 10+(y:Int))) L:=by
   rwa [show ((10 * x+y:Nat):Int)=(x:Int) * 10+(y:Int) by omega] at h
 replace hfin:=hid hfin
 clear h h1 h2 hx hy
 refine ae CZ (by simp [iu]) ?_
 simp only [iu,ar]
 refine wk ?_
 exact aa hfin.out
theorem Wl {m:Nat} (h1:1≤m) (h2:m≤12) {l:List AV} (hl:de 2=some l):l.getD (m - 1) .undef=.int .i64 (OV m:Nat)∧l.length=12:=by
 have e:de 2=some [.int .i64 31,.int .i64 28,.int .i64 31,.int .i64 30,.int .i64 31,.int .i64 30,.int .i64 31,.int .i64 31,.int .i64 30,.int .i64 31,.int .i64 30,.int .i64 31]:=by rfl
 rw [e] at hl
 cases hl
 have:m=1∨m=2∨m=3∨m=4∨m=5∨m=6∨m=7∨m=8∨m=9∨m=10∨m=11∨m=12:=by omega
 rcases this with rfl|rfl|rfl|rfl|rfl|rfl|rfl|rfl|rfl|rfl|rfl|rfl<;>exact ⟨rfl,rfl⟩
theorem fN {v:List UInt8} {i:Nat} (h1:dw (v.getD i 0)=true) (h2:dw (v.getD (i+1) 0)=true):two v i≤99:=by
 simp only [dw,Bool.and_eq_true,decide_eq_true_eq] at h1 h2
 unfold two dig;omega
theorem Pz {v:List UInt8} (hv:v.length≤1100000) (h:K (.bool (CM v)) L):ad Tryz.prog 86 [.str v] L K:=by
 have no:CM v=false→K (.bool false) L:=fun e=>by rw [← e];exact h
 replace no:=hid no
 replace h:=hid h
 refine ae Hb (by simp [jW]) ?_
 simp only [jW,ar]
 by_cases h15:v.length=15
 rotate_left
 · have f1:¬ (v.length:Int)=15:=by omega
   have h':=hid (no.out (by simp [CM,h15]))
   clear h15
   refine wk ?_
   exact ab rfl h'.out
 have f1:(v.length:Int)=15:=by omega
 obtain ⟨z,hz⟩:∃ z,v.getD 14 0=z:=⟨_,rfl⟩
 by_cases h90:z=90
 rotate_left
 · have f2:¬ (z.toNat:Int)=90:=fun e=>h90 ((be z 90).1 e)
   have h':=hid (no.out (by simp [CM,← hz] at h90 ⊢;simp [h90]))
   clear h90
   refine wk ?_
   exact ab rfl h'.out
 have f2:(z.toNat:Int)=90:=by rw [h90];rfl
 obtain ⟨w,hw⟩:∃ w,v.take 14=w:=⟨_,rfl⟩
 have hwl:w.length=14:=by rw [← hw];simp [h15]
 have f3:(14:Int)≤(v.length:Int):=by omega
 have hul:(u8s w).length=14:=by simp [u8s,hwl]
 have hdall:=hid (show w.all dw=false→K (.bool false) L from fun e=>no.out (by simp [CM,hw,e]))
 replace hw:=hid hw
 have hw':v.take 14=w:=hw.out
 have f4:(0:Int)≤14:=by omega
 refine wk ?_
 refine am (fun n T' L'=>∃ i:Nat,n=14 - i∧i≤14∧Hid ((w.take i).all dw=true)∧T'=[(22,.int .i64 (i:Int)),(21,.int .i64 14),(20,.sl (u8s w) 14 none),(1,.ptr L.length 0)]∧L'=L++[.cells [.str v]]) (CutS (b:=by simp)) ⟨0,rfl,Nat.zero_le _,hid rfl,rfl,rfl⟩ ?_
 rintro _ _ _ ⟨i,rfl,hi,hall,rfl,rfl⟩
 by_cases hlt:i<14
 · have g1:(i:Int)<14:=by omega
   have g2:IntKind.i64.wrap ((i:Int)+1)=(i:Int)+1:=ac (by omega) (by omega)
   obtain ⟨c,hc⟩:∃ c,w.getD i 0=c:=⟨_,rfl⟩
   have g3:(u8s w).getD i .undef=.int .u8 c.toNat:=by rw [← hc];simp [u8s,show i<w.length by omega]
   have hm:c∈w:=by rw [← hc];simp [show i<w.length by omega]
   have htk:w.take (i+1)=w.take i++[c]:=by rw [List.take_succ_eq_append_getElem (by omega),← hc];simp [show i<w.length by omega]
   have bad:=hid fun (e:dw c=false)=>hdall.out (List.all_eq_false.2 ⟨c,hm,by rw [e];simp⟩)
   have good:=hid fun (e:dw c=true)=>show (w.take (i+1)).all dw=true by rw [htk,List.all_append,hall.out];simp [e]
   clear hc hm htk hw' h15 hwl
   repeat' first
     | refine a8 ?_
     | (first|refine aP (by kernel_rfl) ?_|refine aB (by kernel_rfl) ?_|refine aC ?_|refine bj ?_|refine aX (fun _=>?_)|refine ay ?_|refine aS ?_)
       refine sm ?_
     | (first|refine aL (by kernel_rfl) ?_|refine aQ ?_|refine aR ?_|refine ba (ax ?_))
       refine sl ?_
     | exact aY
     | first|apply aZ|apply aM|apply a6|apply aN|apply a7|apply aO
     | refine aF ?_
     | first|refine aD rfl ?_|refine aE rfl ?_|refine ap rfl ?_ ?_|refine aH rfl (fun _=>?_) (fun _=>?_)|refine aG rfl (fun _=>?_) (fun _=>?_)
     | ((first|refine ao (fun _=>?_) (fun _=>?_)|refine aw (fun _=>?_) (fun _=>?_))<;>try refine sm ?_)
     | refine And.intro trivial ?_
     | refine And.intro (by omega) ?_
     | refine aI rfl (fun _=>?_) (fun _=>?_)
     | refine And.intro ?_ ?_
   · rename_i hx
     refine ab rfl (bad.out ?_)
     simp only [dw,Bool.and_eq_false_iff,decide_eq_false_iff_not]
     omega
   · rename_i hx
     refine ak _ _ _ (by omega) (CutL (b:=by simp)) ⟨i+1,rfl,by omega,hid (good.out ?_),rfl,rfl⟩
     simp only [dw,Bool.and_eq_true,decide_eq_true_eq]
     omega
 have hke:i=14:=by omega
 subst hke
 have g1:¬ ((14:Nat):Int)<14:=by omega
 have hda:=hall.out
 rw [List.take_of_length_le (by omega)] at hda
 have hdv:∀ i,i<14→dw (v.getD i 0)=true:=fun i hi=>by
   refine List.all_eq_true.1 hda _ ?_
   rw [← hw.out]
   have:v.getD i 0=(v.take 14)[i]'(by simp;omega):=by simp [show i<v.length by omega]
   rw [this];exact List.getElem_mem _
 have hdate:CM v=P3 v:=by
   simp only [CM,h15,hz,h90,hw.out,hda];simp
 have ct:∀ i:Nat,i+1<14→∀ (z:Int) (K:AV→List Blk→Prop),z=(i:Int)→K (.int .i64 (two v i:Nat)) (L++[.cells [.str v]])→ad Tryz.prog 130 [.int .i64 z,.ptr L.length 0] (L++[.cells [.str v]]) K:=fun i hi z K hz h =>
   XX hz (by omega) (by omega) (hdv i (by omega)) (hdv (i+1) hi) (LI _ _ _) h
 have b0:=fN (hdv 0 (by omega)) (hdv 1 (by omega))
 have b2:=fN (hdv 2 (by omega)) (hdv 3 (by omega))
 have b4:=fN (hdv 4 (by omega)) (hdv 5 (by omega))
 have b6:=fN (hdv 6 (by omega)) (hdv 7 (by omega))
 have b8:=fN (hdv 8 (by omega)) (hdv 9 (by omega))
 have b10:=fN (hdv 10 (by omega)) (hdv 11 (by omega))
 have b12:=fN (hdv 12 (by omega)) (hdv 13 (by omega))
 have kk1:=@hid _ (fun {K:AV→List Blk→Prop}=>ct 0 (by omega) 0 K rfl)
 have kk2:=@hid _ (fun {K:AV→List Blk→Prop}=>ct 2 (by omega) 2 K rfl)
 have kk3:=@hid _ (fun {K:AV→List Blk→Prop}=>ct 4 (by omega) 4 K rfl)
 have kk4:=@hid _ (fun {K:AV→List Blk→Prop}=>ct 6 (by omega) 6 K rfl)
 have kk5:=@hid _ (fun {K:AV→List Blk→Prop}=>ct 8 (by omega) 8 K rfl)
 have kk6:=@hid _ (fun {K:AV→List Blk→Prop}=>ct 10 (by omega) 10 K rfl)
 have kk7:=@hid _ (fun {K:AV→List Blk→Prop}=>ct 12 (by omega) 12 K rfl)
 have hfin:=h.out
 rw [hdate] at hfin
 unfold P3 at hfin
 obtain ⟨Y,hY⟩:∃ n,two v 0=n:=⟨_,rfl⟩
 obtain ⟨Y2,hY2⟩:∃ n,two v 2=n:=⟨_,rfl⟩
 obtain ⟨M,hM⟩:∃ n,two v 4=n:=⟨_,rfl⟩
 obtain ⟨D,hD⟩:∃ n,two v 6=n:=⟨_,rfl⟩
 obtain ⟨H,hH⟩:∃ n,two v 8=n:=⟨_,rfl⟩
 obtain ⟨I,hI⟩:∃ n,two v 10=n:=⟨_,rfl⟩
 obtain ⟨S,hS⟩:∃ n,two v 12=n:=⟨_,rfl⟩
 rw [hY] at b0 hfin kk1
 rw [hY2] at b2 hfin kk2
 rw [hM] at b4 hfin kk3
 rw [hD] at b6 hfin kk4
 rw [hH] at b8 hfin kk5
 rw [hI] at b10 hfin kk6
 rw [hS] at b12 hfin kk7
 clear hY hY2 hM hD hH hI hS ct hdate hdv hda hall hw' hw hdall h15 hwl hul hi hlt f1 f2 f3 f4 hv h90 hz no h
 have w1:IntKind.i64.wrap ((Y:Int) * 100)=(Y:Int) * 100:=ac (by omega) (by omega)
 have w2:IntKind.i64.wrap ((Y:Int) * 100+(Y2:Int))=(Y:Int) * 100+(Y2:Int):=ac (by omega) (by omega)
 have hbad:¬ ((1≤M∧M≤12)∧1≤D∧H≤23∧I≤59∧S≤59)→K (.bool false) L:=fun e=>by
   rw [decide_eq_false e] at hfin;simpa using hfin
 replace hbad:=hid hbad
 replace hfin:=hid hfin
 by_cases m1:(M:Int)<1
 · refine wk ?_
   exact ab rfl (hbad.out (by omega))
 by_cases m2:(12:Int)<(M:Int)
 · refine wk ?_
   exact ab rfl (hbad.out (by omega))
 by_cases m3:(D:Int)<1
 · refine wk ?_
   exact ab rfl (hbad.out (by omega))
 by_cases m4:(23:Int)<(H:Int)
 · refine wk ?_
   exact ab rfl (hbad.out (by omega))
 by_cases m5:(59:Int)<(I:Int)
 · refine wk ?_
   exact ab rfl (hbad.out (by omega))
 by_cases m6:(59:Int)<(S:Int)
 · refine wk ?_
   exact ab rfl (hbad.out (by omega))
 have hgood:=hid (show decide (D≤N1 (Y * 100+Y2) M)=true∨decide (D≤N1 (Y * 100+Y2) M)=false by cases decide (D≤N1 (Y * 100+Y2) M)<;>simp)
 have hfin2:=hfin.out
 rw [show decide ((1≤M∧M≤12)∧1≤D∧H≤23∧I≤59∧S≤59)=true by simp;omega,Bool.true_and] at hfin2
 unfold N1 Un at hfin2
 obtain ⟨dn,hdn⟩:∃ n,OV M=n:=⟨_,rfl⟩
 have hdb:dn≤31:=by rw [← hdn];unfold OV;split<;>(try split)<;>omega
 obtain ⟨r4,hr4⟩:∃ r,(Y * 100+Y2) % 4=r:=⟨_,rfl⟩
 obtain ⟨r100,hr100⟩:∃ r,(Y * 100+Y2) % 100=r:=⟨_,rfl⟩
 obtain ⟨r400,hr400⟩:∃ r,(Y * 100+Y2) % 400=r:=⟨_,rfl⟩
 rw [hr4,hr100,hr400,hdn] at hfin2
 have t4:Int.tmod ((Y:Int) * 100+(Y2:Int)) 4=(r4:Int):=by rw [Int.tmod_eq_emod_of_nonneg (by omega)];omega
 have t100:Int.tmod ((Y:Int) * 100+(Y2:Int)) 100=(r100:Int):=by rw [Int.tmod_eq_emod_of_nonneg (by omega)];omega
 have t400:Int.tmod ((Y:Int) * 100+(Y2:Int)) 400=(r400:Int):=by rw [Int.tmod_eq_emod_of_nonneg (by omega)];omega
 have x1:IntKind.i64.wrap ((M:Int) - 1)=(M:Int) - 1:=ac (by omega) (by omega)
 have x2:((M:Int) - 1).toNat=M - 1:=by omega
 have x3:(0:Int)≤(M:Int) - 1:=by omega
 have x4:(M:Int) - 1<12:=by omega
 obtain ⟨x5,x6⟩:=Wl (m:=M) (by omega) (by omega) PZ
 rw [hdn] at x5
 have x7:IntKind.i64.wrap ((dn:Int)+1)=(dn:Int)+1:=ac (by omega) (by omega)
 replace hfin2:=hid hfin2
 clear hr4 hr100 hr400 hdn hgood
 repeat' first
   | refine a8 ?_
   | (first|refine aP (by kernel_rfl) ?_|refine aB (by kernel_rfl) ?_|refine aC ?_|refine bj ?_|refine aX (fun _=>?_)|refine ay ?_|refine aS ?_|refine kk1.out ?_|refine kk2.out ?_|refine kk3.out ?_|refine kk4.out ?_|refine kk5.out ?_|refine kk6.out ?_|refine kk7.out ?_|refine aK (kk1.out ⟨rfl,rfl⟩) (kk1.out ⟨rfl,rfl⟩) ?_|refine aK (kk2.out ⟨rfl,rfl⟩) (kk2.out ⟨rfl,rfl⟩) ?_|refine aK (kk3.out ⟨rfl,rfl⟩) (kk3.out ⟨rfl,rfl⟩) ?_|refine aK (kk4.out ⟨rfl,rfl⟩) (kk4.out ⟨rfl,rfl⟩) ?_|refine aK (kk5.out ⟨rfl,rfl⟩) (kk5.out ⟨rfl,rfl⟩) ?_|refine aK (kk6.out ⟨rfl,rfl⟩) (kk6.out ⟨rfl,rfl⟩) ?_|refine aK (kk7.out ⟨rfl,rfl⟩) (kk7.out ⟨rfl,rfl⟩) ?_|refine aq (kk1.out ⟨rfl,rfl⟩) ?_|refine aq (kk2.out ⟨rfl,rfl⟩) ?_|refine aq (kk3.out ⟨rfl,rfl⟩) ?_|refine aq (kk4.out ⟨rfl,rfl⟩) ?_|refine aq (kk5.out ⟨rfl,rfl⟩) ?_|refine aq (kk6.out ⟨rfl,rfl⟩) ?_|refine aq (kk7.out ⟨rfl,rfl⟩) ?_)
     refine sm ?_
   | (first|refine aL (by kernel_rfl) ?_|refine aQ ?_|refine aR ?_|refine ba (ax ?_))
     refine sl ?_
   | exact aY
   | first|apply aZ|apply aM|apply a6|apply aN|apply a7|apply aO
   | refine aF ?_
   | first|refine aD rfl ?_|refine aE rfl ?_|refine ap rfl ?_ ?_|refine aH rfl (fun _=>?_) (fun _=>?_)|refine aG rfl (fun _=>?_) (fun _=>?_)
   | ((first|refine ao (fun _=>?_) (fun _=>?_)|refine aw (fun _=>?_) (fun _=>?_))<;>try refine sm ?_)
   | refine And.intro trivial ?_
   | refine And.intro (by omega) ?_
   | refine aI rfl (fun _=>?_) (fun _=>?_)
   | refine And.intro ?_ ?_
 · rename_i hx
   refine ab rfl ?_
   have e:=hfin2.out
   rw [if_pos ⟨by omega,by simp;omega⟩] at e
   rwa [show decide (D≤dn+1)=decide ((D:Int)≤(dn:Int)+1) by simp only [decide_eq_decide];omega] at e
 · rename_i hx
   refine ab rfl ?_
   have e:=hfin2.out
   rw [if_neg (fun ⟨e1,e2⟩=>hx ⟨by omega,by simp at e2;omega⟩)] at e
   rwa [show decide (D≤dn)=decide ((D:Int)≤(dn:Int)) by simp only [decide_eq_decide];omega] at e
end Go.Proofs.YtkkgmgmgcgiffaaGreatDoor.Av
set_option maxRecDepth 100000
namespace Go.Proofs.YtkkgmgmgcgiffaaGreatDoor.Av
open Go
def kx:LSO:=[Af 2]
def ku:LSO:=[Aa 3 0,Aa 4 0,o1 5 (.bin .neq (tm 3) (tm 4)),Aa 2 5]
def ix:aW:=⟨6,(.seq (.sreg kx [])
 (.seq (.sreg ku Ci)
 .ret)),[(.tmp 2)]⟩
attribute [push_cast] kx ku
theorem Dk:bb Tryz.prog (fun _ _=>1) 138=some ix.raw:=by kernel_rfl
def je:LSO:=[Ab 4 0]
def jd:LSO:=[Aa 7 0,Aj 8 138 7,Aa 5 8]
def jc:LSO:=[Aa 9 1,Aj 10 138 9,Aa 6 10]
def jb:LSO:=[Aa 11 5]
def ja:LSO:=[Aa 12 6]
def i8:LSO:=[Ab 4 0]
def i7:LSO:=[Ab 4 (-1)]
def i6:LSO:=[Aa 13 6]
def iZ:LSO:=[Ab 4 1]
def iY:LSO:=[Aa 14 0,Aa 15 1,Ak 16 14 15]
def ij:LSO:=[Ab 4 (-1)]
def ii:LSO:=[Aa 17 0,Aa 18 1,o1 19 (.bin .gtr (tm 17) (tm 18))]
def ig:LSO:=[Ab 4 1]
def ie:LSO:=[Ab 4 0]
def en:aW:=⟨20,(.seq (.sreg je [])
 (.seq (.sreg jd Ch)
 (.seq (.sreg jc Ch)
 (.seq (.seq (.sreg jb [])
 (.cond (tm 11) (.seq (.seq (.sreg ja [])
 (.cond (tm 12) (.seq (.sreg i8 [])
 .ret)
 .skip))
 (.seq (.sreg i7 [])
 .ret))
 .skip))
 (.seq (.seq (.sreg i6 [])
 (.cond (tm 13) (.seq (.sreg iZ [])
 .ret)
 .skip))
 (.seq (.seq (.sreg iY Ch)
 (.cond (tm 16) (.seq (.sreg ij [])
 .ret)
 .skip))
 (.seq (.seq (.sreg ii Ch)
 (.cond (tm 19) (.seq (.sreg ig [])
 .ret)
 .skip))
 (.seq (.sreg ie [])
 .ret)))))))),[(.tmp 4)]⟩
attribute [push_cast] je jd jc jb ja i8 i7 i6 iZ iY ij ii ig ie
theorem rP:bb Tryz.prog (fun _ _=>1) 93=some en.raw:=by kernel_rfl
def zW:LSO:=[A3 1 0,Ab 2 0]
def zV:LSO:=[o1 3 (.alloc [(.int .i64 0)]),Ap 4 5 1,o1 5 (.call 88 [(tm 3),(tm 4),(iv 1)]),Aa 2 5]
def rN:aW:=⟨6,(.seq (.sreg zW [])
 (.seq (.sreg zV Ci)
 .ret)),[(.tmp 2)]⟩
attribute [push_cast] zW zV
theorem Lx:bb Tryz.prog (fun _ _=>1) 41=some rN.raw:=by kernel_rfl
def ic:LSO:=[A3 4 1,Ab 6 0]
def ib:LSO:=[Aa 10 2,A0 11 10 64]
def ia:LSO:=[Ab 6 6]
def hZ:LSO:=[Aa 12 0,Az 13 12,Ac 14 0 13,Ad 15 1 14,Ah 16 15 1,Az 17 12,Ac 18 0 17,Ai 1 18 16]
def hU:LSO:=[Aa 19 0,Az 20 19,Ac 21 0 20,Ad 22 1 21,A0 23 22 1000]
def hP:LSO:=[Ab 6 9]
def hG:LSO:=[Ac 25 0 4,Ad 26 1 25,AB 27 26 0,Aa 28 27,.grp none 28 false
 [AA 29 28 0 4,A8 30 28 1 29,A5 31 28 30 8]
 32 (tm 31),Aa 24 32]
def gZ:LSO:=[Ab 6 24]
def gY:LSO:=[Ac 34 0 4,Ad 35 1 34,Al 36 35 2,Aa 37 36,.grp none 37 true
 [A7 38 37 4 4,A4 39 37 1 38,Bu 40 37 39,Bl 41 37 40 1]
 42 (tm 41),Aa 33 42]
def gX:LSO:=[Ab 6 2]
def fC:LSO:=[Ac 44 0 4,Ad 45 1 44,o1 46 (.bin .leq (tm 45) (iv 2)),Aa 43 46]
def fB:LSO:=[Ac 47 4 4,Ad 48 1 47,An 49 48,Ab 50 0]
def fz:LSO:=[Ak 51 50 49]
def fy:LSO:=[Aq 52 5 48 50,Ap 53 5 52,AT 8,Ai 5 8 53]
def fw:LSO:=[Aa 54 0,Ap 55 5 8,Aa 56 2,Ah 57 56 1,AD 58 88 54 55 57,Aa 9 58]
def fv:LSO:=[Aa 59 9,AF 60 59 0]
def fu:LSO:=[Aa 61 9,Aa 6 61]
def ft:LSO:=[Ah 62 50 1,Aa 50 62]
def fq:LSO:=[Ac 64 1 4,Ad 65 1 64,Aj 66 133 65,Ay 67 66,Aa 63 67]
def fp:LSO:=[Ab 6 20]
def fo:LSO:=[Ac 69 0 4,Ad 70 1 69,Al 71 70 4,Aa 72 71,.grp none 72 true
 [A7 73 72 3 4,A4 74 72 1 73,AJ 75 72 134 74,Bv 76 72 75]
 77 (tm 76),Aa 68 77]
def fm:LSO:=[Ab 6 4]
def fk:LSO:=[Ab 6 0]
def dR:aW:=⟨78,(.seq (.sreg ic [])
 (.seq (.seq (.sreg ib Cg)
 (.cond (tm 11) (.seq (.sreg ia [])
 .ret)
 .skip))
 (.seq (.seq (.sreg hZ Cu)
 (.seq (.sreg hU Cj)
 (.cond (tm 23) (.seq (.sreg hP [])
 .ret)
 .skip)))
 (.seq (.block 0 (.seq (.sreg hG Ck)
 (.cond (tm 24) (.seq (.sreg gZ [])
 .ret)
 (.seq (.sreg gY Ck)
 (.cond (tm 33) (.seq (.sreg gX [])
 .ret)
 (.seq (.sreg fC Ci)
 (.cond (tm 43) (.seq (.sreg fB Ct)
 (.block 1 (.loop (.seq (.sreg fz [])
 (.seq (.cond (tm 51) .skip
 (.exit 1))
 (.seq (.block 2 (.seq (.sreg fy Ch)
 (.seq (.sreg fw Ck)
 (.seq (.sreg fv Cg)
 (.cond (tm 60) (.seq (.sreg fu Cg)
 .ret)
 .skip)))))
 (.sreg ft Cg)))))))
 (.seq (.sreg fq Cj)
 (.cond (tm 63) (.seq (.sreg fp [])
 .ret)
 (.seq (.sreg fo Ck)
 (.cond (tm 68) (.seq (.sreg fm [])
 .ret)
 .skip)))))))))))
 (.seq (.sreg fk [])
 .ret))))),[(.tmp 6)]⟩
attribute [push_cast] ic ib ia hZ hU hP hG gZ gY gX fC fB fz fy fw fv fu ft fq fp fo fm fk
theorem qY:bb Tryz.prog (fun _ _=>1) 88=some dR.raw:=by kernel_rfl
def wz:LSO:=[Af 2]
def wy:LSO:=[Aa 5 0,An 6 5,Ab 7 0]
def ww:LSO:=[Ak 8 7 6]
def wu:LSO:=[Aa 9 7,Aq 10 2 5 7,Ap 11 2 10,Cb 4,Aa 3 9,Ai 2 4 11]
def wt:LSO:=[Ac 13 1 4,Ad 14 1 13,Bs 15 14,Aa 16 15,.grp none 16 false
 [AA 17 16 0 4,A8 18 16 1 17,BA 19 16 18 0]
 20 (tm 19),Aa 21 20,.grp none 21 false
 [AA 22 21 0 4,A8 23 21 1 22,A5 24 21 23 2]
 25 (tm 24),Aa 12 25]
def wr:LSO:=[Af 2]
def wq:LSO:=[Ac 27 0 4,Ad 28 1 27,Al 29 28 0,Aa 30 29,.grp none 30 true
 [Ae 31 30 3,og 32 30 true (.bin .gtr (tm 31) (iv 0))]
 33 (tm 32),Aa 34 33,.grp none 34 false
 [AA 35 34 0 4,A8 36 34 1 35,AC 37 34 36 2,Ag 38 34 37,.grp (some (34,false)) 38 true
 [Ae 39 38 3,Ae 40 38 0,Bu 41 38 40,BL 42 38 41 1,B5 43 38 39 42]
 44 (tm 43)]
 45 (tm 44),Aa 26 45]
def wo:LSO:=[Af 2]
def wn:LSO:=[Ah 46 7 1,Aa 7 46]
def wm:LSO:=[Aa 47 0,An 48 47,A0 49 48 0,Aa 2 49]
def mT:aW:=⟨50,(.seq (.sreg wz [])
 (.seq (.seq (.sreg wy [])
 (.block 0 (.loop (.seq (.sreg ww [])
 (.seq (.cond (tm 8) .skip
 (.exit 0))
 (.seq (.block 1 (.seq (.sreg wu Co)
 (.block 2 (.seq (.sreg wt Cp)
 (.cond (tm 12) (.seq (.sreg wr [])
 .ret)
 (.seq (.sreg wq Cp)
 (.cond (tm 26) (.seq (.sreg wo [])
 .ret)
 .skip)))))))
 (.sreg wn Cg)))))))
 (.seq (.sreg wm Ci)
 .ret))),[(.tmp 2)]⟩
attribute [push_cast] wz wy ww wu wt wr wq wo wn wm
theorem Kj:bb Tryz.prog (fun _ _=>1) 134=some mT.raw:=by kernel_rfl
def sw:LSO:=[Af 6,Af 7]
def sv:LSO:=[Aa 15 0,Aa 16 1,Aw 17 38 15 16,Aa 14 17,As 18 14,Au 19 14,Aa 8 18,Aa 9 19]
def su:LSO:=[Aa 20 9,Ay 21 20,Aa 22 21,.grp none 22 false
 [Ag 23 22 0,Cc 24 22 23 1,Ag 25 22 24,.grp (some (22,false)) 25 true
 [Ae 26 25 0,Bl 27 25 26 2]
 28 (tm 27),Ag 29 22 28,.grp (some (22,false)) 29 true
 [Ae 30 29 0,Bl 31 29 30 3]
 32 (tm 31)]
 33 (tm 32),Aa 34 33,.grp none 34 false
 [Ag 35 34 2,og 36 34 false (.build [(.int .i64 0),(.str []),(.str []),(.sl [] 0 (some 0)),(.sl [] 0 (some 0))] [(0,(1,(iv 4))),(1,(1,(.av (.str [97])))),(3,(1,(tm 35)))]),
 AI 37 34 41 36,Cc 38 34 37 0]
 39 (tm 38)]
def sr:LSO:=[Af 6,Af 7]
def sq:LSO:=[Aa 40 2,An 41 40,Ab 42 0]
def sn:LSO:=[Ak 43 42 41]
def sj:LSO:=[Aq 44 2 40 42,Ap 45 2 44,Cb 11,Ai 2 11 45]
def si:LSO:=[Ac 46 1 11,Ad 47 1 46,Aa 12 47]
def sh:LSO:=[Aa 48 0,AF 49 48 2]
def se:LSO:=[Aa 50 12,Aj 51 61 50,Aa 12 51]
def nO:LSO:=[Aa 52 8,Aa 53 12,Aw 54 90 52 53,Aa 13 54]
def nN:LSO:=[Ac 56 0 11,Ad 57 1 56,Al 58 57 0,Aa 59 58,.grp none 59 true
 [Ae 60 59 8,Ae 61 59 12,BM 62 59 91 60 61,Bv 63 59 62]
 64 (tm 63),Aa 55 64]
def nM:LSO:=[Ac 65 0 11,Ad 66 1 65,Al 67 66 2,Aa 68 67,.grp none 68 true
 [Ae 69 68 8,Ae 70 68 12,BM 71 68 92 69 70,Bv 72 68 71]
 73 (tm 72),Aa 55 73]
def nL:LSO:=[Aa 74 13,AB 75 74 0,Aa 55 75]
def nK:LSO:=[Af 6,Ax 7]
def nJ:LSO:=[Aa 76 8,Aa 77 13,Aa 78 12,Ar 79 78,AP 80 77 79,BF 81 76 80,Aa 8 81]
def nI:LSO:=[Ah 82 42 1,Aa 42 82]
def nH:LSO:=[Ax 6,Ax 7]
def mC:aW:=⟨83,(.seq (.sreg sw [])
 (.seq (.sreg sv Cs)
 (.seq (.seq (.sreg su Ck)
 (.cond (tm 39) (.seq (.sreg sr [])
 .ret)
 .skip))
 (.seq (.seq (.sreg sq [])
 (.block 0 (.loop (.seq (.sreg sn [])
 (.seq (.cond (tm 43) .skip
 (.exit 0))
 (.seq (.block 1 (.seq (.sreg sj Ch)
 (.seq (.sreg si Ch)
 (.seq (.seq (.sreg sh Cg)
 (.cond (tm 49) (.sreg se Ch)
 .skip))
 (.seq (.sreg nO Ci)
 (.seq (.block 2 (.seq (.seq (.sreg nN Ck)
 (.cond (tm 55) .skip
 (.seq (.sreg nM Ck)
 (.cond (tm 55) .skip
 (.sreg nL Ch)))))
 (.cond (tm 55) (.seq (.sreg nK [])
 .ret)
 .skip)))
 (.sreg nJ Cl)))))))
 (.sreg nI Cg)))))))
 (.seq (.sreg nH [])
 .ret))))),[(.tmp 6),(.tmp 7)]⟩
attribute [push_cast] sw sv su sr sq sn sj si sh se nO nN nM nL nK nJ nI nH
theorem J1:bb Tryz.prog (fun _ _=>1) 44=some mC.raw:=by kernel_rfl
variable {L:List Blk} {K:AV→List Blk→Prop}
set_option maxHeartbeats 8000000
set_option maxRecDepth 100000
theorem TV:de 6=some (Lib.pow10Tab.map (AV.int .u64)):=by rfl
theorem Sq:Tryz.prog.globalNamed "internal/strconv.uint64pow10" = some 6:=by kernel_rfl
theorem Yb {n:Int} (hn:I64 n) (h:K (.str (Lib.itoa n)) L):ad Tryz.prog 127 [.int .i64 n,.int .i64 10] L K :=
 cE Tryz.func127 rfl (by kernel_rfl) (fun w0 S0 E w vs hR hv=>by
   simp only [VRL,VR] at hv
   obtain ⟨_,_,rfl,rfl,_,_,rfl,rfl,rfl⟩:=hv
   refine (Tryz.strconv_FormatInt_10 n hn.1 hn.2 w (hR.table Sq TV (by simp [Lib.pow10Tab]))).mono fun e w' ⟨he,k,os,hw⟩=>⟨_,he,by simp [VR],by subst hw;exact Dm.of_grow w k os⟩) h
theorem rl {w w':World} (h:RowKit.Below w.heap.size w w'):Dm w w':=⟨fun b hb=>h.block b hb,h.size,h.os,h.tape,h.output⟩
theorem P2 {w0:World} {S0:Nat→Prop} {E:Env} {L:List Blk} {w:World} (hR:Rel w0 S0 E L w) {g:Nat} {t:TypeId} (hp:de g=some [.iface t .undef]):∃ x,w.cell? ⟨g,0,none⟩=some (.iface t x):=by
 have hm:=rm hp
 obtain ⟨v,h1,h2⟩:=(hR.glob.env hm).get (i:=0) (a:=.iface t .undef) rfl
 simp only [VR] at h2
 obtain ⟨x,rfl,_⟩:=h2
 exact ⟨x,by simpa using hR.mem _ _ _ h1⟩
theorem TY {l:List UInt8} {n:Int} (hl:(l.length:Int)≤1100000) (hp:Lib.parseIntB 64 l=.ok n) (h:K (.tup [.int .i64 n,.nilif]) L):ad Tryz.prog 126 [.str l,.int .i64 10,.int .i64 64] L K :=
 cE Tryz.func126 rfl (by kernel_rfl) (fun w0 S0 E w vs hR hv=>by
   simp only [VRL,VR] at hv
   obtain ⟨_,_,rfl,rfl,_,_,rfl,rfl,_,_,rfl,rfl,rfl⟩:=hv
   refine (Tryz.strconv_ParseInt_10_at64_ok ⟨⟨l⟩⟩ (show l.length≤_ by omega) n hp w).mono fun e w' ⟨he,hw⟩=>⟨_,he,by simp [VR,VRL],?_⟩
   rcases hw with rfl|⟨t,rfl⟩
   · exact Dm.refl _
   · exact rl (Lib.bytesWorld_below _ _ _)) h
theorem TZ {l:List UInt8} (hl:(l.length:Int)≤1100000) (hp:∀ n,Lib.parseIntB 64 l ≠ .ok n) (h:K (.tup [.int .i64 (K7 l),.iface 229 .undef]) L):ad Tryz.prog 126 [.str l,.int .i64 10,.int .i64 64] L K :=
 cE Tryz.func126 rfl (by kernel_rfl) (fun w0 S0 E w vs hR hv=>by
   simp only [VRL,VR] at hv
   obtain ⟨_,_,rfl,rfl,_,_,rfl,rfl,_,_,rfl,rfl,rfl⟩:=hv
   match hq:Lib.parseIntB 64 l with
   | .ok n=>exact absurd hq (hp n)
   | .syntax =>
     obtain ⟨x,hx⟩:=P2 hR (g:=4) rfl
     refine (Tryz.strconv_ParseInt_10_at64_syntax ⟨⟨l⟩⟩ (show l.length≤_ by omega) hq _ w hx (.inr ⟨_,_,rfl⟩)).mono fun e w' ⟨N,he,_,_,hw⟩=>⟨_,he,?_,rl hw⟩
     have e0:K7 l=0:=by simp [K7,hq]
     rw [e0]
     simp [VR,VRL]
     exact ⟨_,_,⟨rfl,rfl⟩,rfl,_,rfl,_,rfl⟩
   | .range =>
     obtain ⟨x,hx⟩:=P2 hR (g:=5) rfl
     refine (Tryz.strconv_ParseInt_10_at64_range ⟨⟨l⟩⟩ (show l.length≤_ by omega) hq _ w hx (.inr ⟨_,_,rfl⟩)).mono fun e w' ⟨N,he,_,_,hw⟩=>⟨_,he,?_,rl hw⟩
     have e0:K7 l=Lib.intSat 64 l:=by simp [K7,hq]
     rw [e0]
     simp [VR,VRL]
     exact ⟨_,_,⟨rfl,rfl⟩,rfl,_,rfl,_,rfl⟩) h
theorem Jk {l:List UInt8} (hl:(l.length:Int)≤1100000) (h:K (.tup [.int .i64 (K7 l),.bool (k8 l)]) L):ad Tryz.prog 84 [.str l] L K:=by
 replace h:=hid h
 refine ae Ha (by simp [jV]) ?_
 simp only [jV,ar]
 by_cases hp:∃ n,Lib.parseIntB 64 l=.ok n
 · obtain ⟨n,hp⟩:=hp
   have hr:=hid (KR hp)
   have e1:=hid (show K7 l=n by simp [K7,hp])
   have e2:=hid (show k8 l=decide (Lib.itoa n=l) by simp [k8,hp])
   replace hp:=hid hp
   have kk1:=@hid _ (fun L K=>TY hl hp.out (L:=L) (K:=K))
   have kk2:=@hid _ (fun L K=>Yb hr.out (L:=L) (K:=K))
   refine wk ?_
   refine aa ?_
   have h:=h.out
   rw [e1.out,e2.out] at h
   exact h
 · have hp':=hid (show ∀ n,Lib.parseIntB 64 l ≠ .ok n from fun n e=>hp ⟨n,e⟩)
   have e2:=hid (show k8 l=false by
     unfold k8
     split
     · rename_i n hn;exact absurd ⟨n,hn⟩ hp
     · rfl)
   clear hp
   have kk1:=@hid _ (fun L K=>TZ hl hp'.out (L:=L) (K:=K))
   refine wk ?_
   refine aa ?_
   have h:=h.out
   rw [e2.out] at h
   exact h
theorem JV {n:Int} {L:List Blk} {K:AV→List Blk→Prop} (h:K (.bool false) L):ad Tryz.prog 138 [.int .i64 n] L K:=by
 replace h:=hid h
 refine ae Dk (by simp [ix]) ?_
 simp only [ix,ar]
 refine wk ?_
 refine aa ?_
 exact h.out
def P7 (m n:Int):Int:=if m<n then -1 else if n<m then 1 else 0
theorem Wn {m n:Int} {L:List Blk} {K:AV→List Blk→Prop} (h:K (.int .i64 (P7 m n)) L):ad Tryz.prog 93 [.int .i64 m,.int .i64 n] L K:=by
 replace h:=hid h
 refine ae rP (by simp [en]) ?_
 simp only [en,ar]
 by_cases h1:m<n
 · have e:=hid (show P7 m n=-1 by simp [P7,h1])
   have kk1:=@hid _ @JV
   refine wk ?_
   refine aa ?_
   have h:=h.out
   rw [e.out] at h
   exact h
 · by_cases h2:n<m
   · have e:=hid (show P7 m n=1 by simp [P7,h1,h2])
     have kk1:=@hid _ @JV
     refine wk ?_
     refine aa ?_
     have h:=h.out
     rw [e.out] at h
     exact h
   · have e:=hid (show P7 m n=0 by simp [P7,h1,h2])
     have kk1:=@hid _ @JV
     refine wk ?_
     refine aa ?_
     have h:=h.out
     rw [e.out] at h
     exact h
theorem Re:de 0=some ((List.range 256).map fun c=>AV.int .u8 (Lib.firstT c:Int)):=by kernel_rfl
theorem Qk:de 1=some ((List.range 16).flatMap fun i=>[AV.int .u8 (Lib.accLo i:Int),AV.int .u8 (Lib.accHi i:Int)]):=by kernel_rfl
theorem JW {w0:World} {S0:Nat→Prop} {E:Env} {L:List Blk} {w:World} (hR:Rel w0 S0 E L w) {g i:Nat} {l:List AV} {k:IntKind} {z:Int} (hp:de g=some l) (hi:l[i]?=some (.int k z)):w.cell? ⟨g,i,none⟩=some (.int k z):=by
 have hm:=rm hp
 obtain ⟨v,h1,h2⟩:=(hR.glob.env hm).get (i:=i) (a:=.int k z) hi
 simp only [VR] at h2
 subst h2
 simpa using hR.mem _ _ _ h1
theorem R7 {w0:World} {S0:Nat→Prop} {E:Env} {L:List Blk} {w:World} (hR:Rel w0 S0 E L w):Lib.Utf8Tabs 0 1 w:=by
 refine ⟨fun c hc=>JW hR Re ?_,fun i hi=>⟨JW hR Qk ?_,JW hR Qk ?_⟩⟩
 · simp [hc]
 · have:∀ i:_root_.Fin 16,((List.range 16).flatMap fun i=>[AV.int .u8 (Lib.accLo i:Int),AV.int .u8 (Lib.accHi i:Int)])[2 * i.val]?=some (.int .u8 (Lib.accLo i.val:Int)):=fun i=>by
     match i with
     | ⟨0,_⟩|⟨1,_⟩|⟨2,_⟩|⟨3,_⟩|⟨4,_⟩|⟨5,_⟩|⟨6,_⟩|⟨7,_⟩|⟨8,_⟩|⟨9,_⟩|⟨10,_⟩|⟨11,_⟩|⟨12,_⟩|⟨13,_⟩|⟨14,_⟩|⟨15,_⟩=>rfl
     | ⟨n+16,h⟩=>omega
   exact this ⟨i,hi⟩
 · have:∀ i:_root_.Fin 16,((List.range 16).flatMap fun i=>[AV.int .u8 (Lib.accLo i:Int),AV.int .u8 (Lib.accHi i:Int)])[2 * i.val+1]?=some (.int .u8 (Lib.accHi i.val:Int)):=fun i=>by
     match i with
     | ⟨0,_⟩|⟨1,_⟩|⟨2,_⟩|⟨3,_⟩|⟨4,_⟩|⟨5,_⟩|⟨6,_⟩|⟨7,_⟩|⟨8,_⟩|⟨9,_⟩|⟨10,_⟩|⟨11,_⟩|⟨12,_⟩|⟨13,_⟩|⟨14,_⟩|⟨15,_⟩=>rfl
     | ⟨n+16,h⟩=>omega
   exact this ⟨i,hi⟩
theorem Ds {l:List UInt8} (hl:l.length≤1100000) (h:K (.bool (Lib.validD l)) L):ad Tryz.prog 81 [.str l] L K :=
 cE Tryz.func81 rfl (by kernel_rfl) (fun w0 S0 E w vs hR hv=>by
   simp only [VRL,VR] at hv
   obtain ⟨_,_,rfl,rfl,rfl⟩:=hv
   exact (Any.utf8_ValidString Tryz.lays196 ⟨⟨l⟩⟩ w (show l.length≤_ by omega) (R7 hR)).mono fun e w' ⟨he,hw⟩=>⟨_,he,by simp [VR],rl hw⟩) h
theorem kN {a b:List UInt8} {L:List Blk} {K:AV→List Blk→Prop} (h:K (.int .i64 (Lib.compareBytes a b)) L):ad Tryz.prog 94 [.str a,.str b] L K :=
 cE Tryz.func94 rfl (by kernel_rfl) (fun w0 S0 E w vs hR hv=>by
   simp only [VRL,VR] at hv
   obtain ⟨_,_,rfl,rfl,_,_,rfl,rfl,rfl⟩:=hv
   exact (Tryz.strings_Compare ⟨⟨a⟩⟩ ⟨⟨b⟩⟩ w).mono fun e w' ⟨he,hw⟩=>⟨_,he,by simp [VR],by subst hw;exact Dm.refl _⟩) h
theorem eX {a b:List UInt8} (h:K (.bool (Lib.hasPrefix a b)) L):ad Tryz.prog 91 [.str a,.str b] L K :=
 cE Tryz.func91 rfl (by kernel_rfl) (fun w0 S0 E w vs hR hv=>by
   simp only [VRL,VR] at hv
   obtain ⟨_,_,rfl,rfl,_,_,rfl,rfl,rfl⟩:=hv
   exact (Tryz.strings_HasPrefix ⟨⟨a⟩⟩ ⟨⟨b⟩⟩ w).mono fun e w' ⟨he,hw⟩=>⟨_,he,by simp [VR],by subst hw;exact Dm.refl _⟩) h
theorem eW {a b:List UInt8} (ha:a.length≤1100000) (h:K (.bool (Lib.hasSuffix a b)) L):ad Tryz.prog 92 [.str a,.str b] L K :=
 cE Tryz.func92 rfl (by kernel_rfl) (fun w0 S0 E w vs hR hv=>by
   simp only [VRL,VR] at hv
   obtain ⟨_,_,rfl,rfl,_,_,rfl,rfl,rfl⟩:=hv
   exact (Tryz.strings_HasSuffix ⟨⟨a⟩⟩ ⟨⟨b⟩⟩ w (show a.length≤_ by omega)).mono fun e w' ⟨he,hw⟩=>⟨_,he,by simp [VR],by subst hw;exact Dm.refl _⟩) h
theorem jC {a b:List UInt8} (ha:a.length≤1100000) (h:K (.int .i64 (Lib.index a b)) L):ad Tryz.prog 90 [.str a,.str b] L K :=
 cE Tryz.func90 rfl (by kernel_rfl) (fun w0 S0 E w vs hR hv=>by
   simp only [VRL,VR] at hv
   obtain ⟨_,_,rfl,rfl,_,_,rfl,rfl,rfl⟩:=hv
   obtain ⟨z,hz⟩:=hR.glob.2 3 (by simp [Jj])
   exact (Tryz.strings_Index ⟨⟨a⟩⟩ ⟨⟨b⟩⟩ z w (show a.length<_ by omega) (hR.mem _ _ _ hz)).mono fun e w' ⟨he,hw⟩=>⟨_,he,by simp [VR],by subst hw;exact Dm.refl _⟩) h
abbrev Ve:List UInt8:=[84,82,85,69]
abbrev Rp:List UInt8:=[70,65,76,83,69]
def Py (syn:Int) (v:List UInt8):Option (List UInt8) :=
 if syn=1 then (if v=[] then none else if Lib.validD v=true then some (dt v) else none)
 else if syn=2 then (if v=[] then none else if Lib.validD v=true then some v else none)
 else if syn=3 then (if Ko v=true then some (dt v) else none)
 else if syn=4 then (if k8 v=true then some v else none)
 else if syn=5 then (if v=Ve∨v=Rp then some v else none)
 else if syn=6 then (if (PI v).2=0 then some (PI v).1 else none)
 else if syn=7 then some v
 else if syn=8 then (if CM v=true then some v else none)
 else none
def bU (syn:Int) (v:List UInt8):Option (List UInt8):=if 4096<v.length then none else Py syn v
def fD:Option (List UInt8)→AV
 | some n=>.tup [.str n,.bool true]
 | none=>.tup [.str [],.bool false]
theorem dN {syn:Int} {v:List UInt8} (h:K (fD (bU syn v)) L):ad Tryz.prog 38 [.int .i64 syn,.str v] L K:=by
 unfold bU at h
 refine ae J0 (by simp [mB]) ?_
 simp only [mB,ar]
 by_cases hl:4096<v.length
 · have f1:(4096:Int)<(v.length:Int):=by omega
   rw [if_pos hl] at h
   replace h:=hid h
   clear hl
   refine wk ?_
   exact aa h.out
 have f1:¬ (4096:Int)<(v.length:Int):=by omega
 rw [if_neg hl] at h
 have vl1:v.length≤1100000:=by omega
 have vl2:(v.length:Int)≤100000:=by omega
 have vl3:(v.length:Int)≤1100000:=by omega
 unfold Py at h
 clear hl
 by_cases s1:syn=1
 · subst s1
   rw [if_pos rfl] at h
   by_cases hv:v=[]
   · rw [if_pos hv] at h
     replace h:=hid h
     subst hv
     have kk1:=@hid _ (fun L K=>rf vl2 (L:=L) (K:=K))
     have kk2:=@hid _ (fun L K=>Ds vl1 (L:=L) (K:=K))
     refine wk ?_
     exact aa h.out
   · rw [if_neg hv] at h
     cases hd:Lib.validD v with
     | true =>
       rw [hd,if_pos rfl] at h
       replace h:=hid h
       have kk1:=@hid _ (fun L K=>rf vl2 (L:=L) (K:=K))
       have kk2:=@hid _ (fun L K=>Ds vl1 (L:=L) (K:=K))
       refine wk ?_
       exact aa h.out
     | false =>
       rw [hd,if_neg (by simp)] at h
       replace h:=hid h
       have kk1:=@hid _ (fun L K=>rf vl2 (L:=L) (K:=K))
       have kk2:=@hid _ (fun L K=>Ds vl1 (L:=L) (K:=K))
       refine wk ?_
       exact aa h.out
 rw [if_neg s1] at h
 by_cases s2:syn=2
 · subst s2
   rw [if_pos rfl] at h
   by_cases hv:v=[]
   · rw [if_pos hv] at h
     replace h:=hid h
     have kk1:=@hid _ (fun L K=>Ds vl1 (L:=L) (K:=K))
     refine wk ?_
     exact aa h.out
   · rw [if_neg hv] at h
     cases hd:Lib.validD v with
     | true =>
       rw [hd,if_pos rfl] at h
       replace h:=hid h
       have kk1:=@hid _ (fun L K=>Ds vl1 (L:=L) (K:=K))
       refine wk ?_
       exact aa h.out
     | false =>
       rw [hd,if_neg (by simp)] at h
       replace h:=hid h
       have kk1:=@hid _ (fun L K=>Ds vl1 (L:=L) (K:=K))
       refine wk ?_
       exact aa h.out
 rw [if_neg s2] at h
 by_cases s3:syn=3
 · subst s3
   rw [if_pos rfl] at h
   replace h:=hid h
   have kk1:=@hid _ (fun L K=>rf vl2 (L:=L) (K:=K))
   refine wk ?_
   refine Uz vl1 (fun e=>?_) (fun k e=>?_)
   · have h':=h.out
     rw [if_pos e] at h'
     replace h':=hid h'
     refine sk ?_
     refine wk ?_
     exact aa h'.out
   · have h':=h.out
     rw [if_neg (by rw [e];simp)] at h'
     replace h':=hid h'
     have k0:¬ (k:Int)<0:=by omega
     refine sk ?_
     refine wk ?_
     exact aa h'.out
 rw [if_neg s3] at h
 by_cases s4:syn=4
 · subst s4
   rw [if_pos rfl] at h
   cases hd:k8 v with
   | true =>
     rw [hd,if_pos rfl] at h
     replace h:=hid h
     have kk1:=@hid _ (fun L K=>Jk vl3 (L:=L) (K:=K))
     refine wk ?_
     exact aa h.out
   | false =>
     rw [hd,if_neg (by simp)] at h
     replace h:=hid h
     have kk1:=@hid _ (fun L K=>Jk vl3 (L:=L) (K:=K))
     refine wk ?_
     exact aa h.out
 rw [if_neg s4] at h
 by_cases s5:syn=5
 · subst s5
   rw [if_pos rfl] at h
   by_cases t1:v=Ve
   · rw [if_pos (.inl t1)] at h
     replace h:=hid h
     have c1:(decide (v=[84,82,85,69]):Bool)=true:=decide_eq_true t1
     subst t1
     refine wk ?_
     exact aa h.out
   · by_cases t2:v=Rp
     · rw [if_pos (.inr t2)] at h
       replace h:=hid h
       subst t2
       have t3:¬ ([70,65,76,83,69]:List UInt8)=[84,82,85,69]:=by decide
       clear t1
       refine wk ?_
       exact aa h.out
     · rw [if_neg (fun e=>e.elim t1 t2)] at h
       replace h:=hid h
       refine wk ?_
       exact aa h.out
 rw [if_neg s5] at h
 by_cases s6:syn=6
 · subst s6
   rw [if_pos rfl] at h
   obtain ⟨⟨k,e⟩,hk⟩:∃ p,PI v=p:=⟨_,rfl⟩
   rw [hk] at h
   simp only at h
   by_cases he:e=0
   · subst he
     rw [if_pos rfl] at h
     replace h:=hid h
     refine wk ?_
     refine WR ?_
     rw [hk]
     simp only [mW]
     refine sk ?_
     refine wk ?_
     exact aa h.out
   · rw [if_neg he] at h
     replace h:=hid h
     refine wk ?_
     refine WR ?_
     rw [hk]
     simp only [mW]
     refine sk ?_
     refine wk ?_
     exact aa h.out
 rw [if_neg s6] at h
 by_cases s7:syn=7
 · subst s7
   rw [if_pos rfl] at h
   replace h:=hid h
   refine wk ?_
   exact aa h.out
 rw [if_neg s7] at h
 by_cases s8:syn=8
 · subst s8
   rw [if_pos rfl] at h
   cases hd:CM v with
   | true =>
     rw [hd,if_pos rfl] at h
     replace h:=hid h
     have kk1:=@hid _ (fun L K=>Pz vl1 (L:=L) (K:=K))
     refine wk ?_
     exact aa h.out
   | false =>
     rw [hd,if_neg (by simp)] at h
     replace h:=hid h
     have kk1:=@hid _ (fun L K=>Pz vl1 (L:=L) (K:=K))
     refine wk ?_
     exact aa h.out
 rw [if_neg s8] at h
 replace h:=hid h
 refine wk ?_
 exact aa h.out
def Yg (syn:Int) (x y:List UInt8):Int:=if syn=4 then P7 (K7 x) (K7 y) else Lib.compareBytes x y
def k7 (syn:Int) (a b:List UInt8):Option Int:=match bU syn a,bU syn b with
 | some x,some y=>if syn=5∨syn=6∨syn=7 then none else some (Yg syn x y)
 | _,_=>none
def QL:Option Int→AV
 | some c=>.tup [.int .i64 c,.bool true]
 | none=>.tup [.int .i64 0,.bool false]
theorem JP {syn:Int} {v x:List UInt8} (h:bU syn v=some x):v.length≤4096:=by
 unfold bU at h
 split at h
 · cases h
 · omega
theorem Mn {v x:List UInt8} (h:bU 4 v=some x):x=v∧k8 v=true:=by
 unfold bU at h
 split at h
 · cases h
 · have e:Py 4 v=if k8 v=true then some v else none:=rfl
   rw [e] at h
   split at h
   · rename_i hn;exact ⟨(Option.some.inj h).symm,hn⟩
   · cases h
theorem Pr {syn:Int} {a b:List UInt8} (h:K (QL (k7 syn a b)) L):ad Tryz.prog 45 [.int .i64 syn,.str a,.str b] L K:=by
 unfold k7 at h
 refine ae JB (by simp [lm]) ?_
 simp only [lm,ar]
 refine wk ?_
 refine dN ?_
 rcases ha:bU syn a with _|x
 · rw [ha] at h
   simp only [QL] at h
   replace h:=hid h
   simp only [fD]
   refine sk ?_
   refine wk ?_
   refine dN ?_
   rcases bU syn b with _|y
   · simp only [fD]
     refine sk ?_
     refine wk ?_
     exact aa h.out
   · simp only [fD]
     refine sk ?_
     refine wk ?_
     exact aa h.out
 rw [ha] at h
 simp only [fD]
 refine sk ?_
 refine wk ?_
 refine dN ?_
 rcases hb:bU syn b with _|y
 · rw [hb] at h
   simp only [QL] at h
   replace h:=hid h
   simp only [fD]
   refine sk ?_
   refine wk ?_
   exact aa h.out
 rw [hb] at h
 simp only at h
 simp only [fD]
 by_cases h5:syn=5
 · rw [if_pos (.inl h5)] at h
   simp only [QL] at h
   replace h:=hid h
   refine sk ?_
   refine wk ?_
   exact aa h.out
 by_cases h6:syn=6
 · rw [if_pos (.inr (.inl h6))] at h
   simp only [QL] at h
   replace h:=hid h
   refine sk ?_
   refine wk ?_
   exact aa h.out
 by_cases h7:syn=7
 · rw [if_pos (.inr (.inr h7))] at h
   simp only [QL] at h
   replace h:=hid h
   refine sk ?_
   refine wk ?_
   exact aa h.out
 rw [if_neg (by omega)] at h
 simp only [QL,Yg] at h
 by_cases h4:syn=4
 · subst h4
   rw [if_pos rfl] at h
   replace h:=hid h
   obtain ⟨ex,_⟩:=Mn ha
   obtain ⟨ey,_⟩:=Mn hb
   have la:=JP ha
   have lb:=JP hb
   have lx:(x.length:Int)≤1100000:=by rw [ex];omega
   have ly:(y.length:Int)≤1100000:=by rw [ey];omega
   clear ha hb ex ey
   refine sk ?_
   have kk1:=@hid _ (fun L K=>Jk lx (L:=L) (K:=K))
   have kk2:=@hid _ (fun L K=>Jk ly (L:=L) (K:=K))
   have kk3:=@hid _ @Wn
   refine wk ?_
   exact aa h.out
 · rw [if_neg h4] at h
   replace h:=hid h
   clear ha hb
   refine sk ?_
   have kk1:=@hid _ @kN
   refine wk ?_
   exact aa h.out
theorem OX:∀ a b:List UInt8,Lib.compareBytes a b=if a<b then -1 else if b<a then 1 else 0
 | [],[]=>by simp [Lib.compareBytes]
 | [],b::bs=>by simp [Lib.compareBytes]
 | a::xs,[]=>by simp [Lib.compareBytes]
 | a::xs,b::bs=>by
   rw [Lib.compareBytes,OX xs bs]
   simp only [List.cons_lt_cons_iff]
   by_cases h1:a<b
   · rw [if_pos h1,if_pos (.inl h1)]
   · rw [if_neg h1]
     by_cases h2:b<a
     · rw [if_pos h2,if_neg,if_pos (.inl h2)]
       rintro (e|⟨e,_⟩)
       · exact h1 e
       · subst e;exact h1 h2
     · rw [if_neg h2]
       have e:a=b:=by
         rcases Nat.lt_trichotomy a.toNat b.toNat with h|h|h
         · exact absurd h h1
         · exact UInt8.toNat_inj.1 h
         · exact absurd h h2
       subst e
       simp
end Go.Proofs.YtkkgmgmgcgiffaaGreatDoor.Av
