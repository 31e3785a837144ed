/- Joined texts of the walk, made small by a program. -/
import Derived.Test.YtcmfcpjnhephaaaGreatDoorFk4
import Derived.Test.YtcmfcpjnhephaaaGreatDoorRows
import Derived.KernelRfl
import Derived.Test.YtcmfcpjnhephaaaGreatDoorFk9
import Derived.Test.YtcmfcpjnhephaaaGreatDoorFk6
import Derived.Test.YtcmfcpjnhephaaaGreatDoorFk5
import Derived.Sort.Walk0
import Derived.Test.YtcmfcpjnhephaaaGreatDoorFk10
set_option linter.unusedSimpArgs false
set_option linter.unusedVariables false
set_option maxRecDepth 100000
namespace Go.Proofs.YtcmfcpjnhephaaaGreatDoor.Av
open Go
def mY:LSO:=[A5 1 0,Af 2]
def mX:LSO:=[Ac 10 1 1,Ap 11 10,AC 12 11 15,Aa 13 12,.grp none 13 false
 [AN 14 13 1 1,BO 15 13 14 14,og 16 13 false (.bin .neq (tm 15) (.av (.int .u8 90)))]
 17 (tm 16)]
def mW:LSO:=[Af 2]
def mV:LSO:=[Ac 18 1 1,o1 19 (.slS (tm 18) none (some (iv 14))),o1 20 (.s2b (tm 19)),Al 21 20,Ab 22 0]
def mU:LSO:=[Ak 23 22 21]
def mT:LSO:=[An 24 1 20 22,Ac 25 1 24,Aa 4 25]
def mS:LSO:=[Aa 26 4,o1 27 (.bin .lss (tm 26) (.av (.int .u8 48))),Aa 28 27,.grp none 28 false
 [Ae 29 28 4,og 30 28 false (.bin .gtr (tm 29) (.av (.int .u8 57)))]
 31 (tm 30)]
def mR:LSO:=[Af 2]
def mQ:LSO:=[Ah 32 22 1,Aa 22 32]
def mP:LSO:=[o1 33 (.mkfn 141 [(tm 1)]),Aa 5 33]
def mn:LSO:=[Aa 34 5,B5 35 34 0,o1 36 (.bin .mul (tm 35) (iv 100)),Aa 37 5,B5 38 37 2,AM 39 36 38,Aa 40 5,B5 41 40 4,Aa 42 5,B5 43 42 6,Aa 6 39,Aa 7 41,Aa 8 43]
def mm:LSO:=[Aa 44 7,AL 45 44 1,Aa 46 45,.grp none 46 false
 [Ae 47 46 7,A8 48 46 47 12]
 49 (tm 48),Aa 50 49,.grp none 50 false
 [Ae 51 50 8,og 52 50 false (.bin .lss (tm 51) (iv 1))]
 53 (tm 52),Aa 54 53,.grp none 54 false
 [Ae 55 54 5,BP 56 54 55 8,A8 57 54 56 23]
 58 (tm 57),Aa 59 58,.grp none 59 false
 [Ae 60 59 5,BP 61 59 60 10,A8 62 59 61 59]
 63 (tm 62),Aa 64 63,.grp none 64 false
 [Ae 65 64 5,BP 66 64 65 12,A8 67 64 66 59]
 68 (tm 67)]
def ml:LSO:=[Af 2]
def mj:LSO:=[Aa 69 7,AO 70 69 1,o1 71 (.iaddrA 12 1 (.av (.gptr 2 0)) (tm 70)),Ac 72 1 71,Aa 9 72]
def mi:LSO:=[Aa 73 7,As 74 73 2,Aa 75 74,.grp none 75 true
 [Ag 76 75 6,B6 77 75 76 4,B4 78 75 77 0,Ag 79 75 78,.grp (some (75,true)) 79 true
 [Ag 80 79 6,B6 81 79 80 100,og 82 79 true (.bin .neq (tm 81) (iv 0))]
 83 (tm 82),Ag 84 75 83,.grp (some (75,true)) 84 false
 [Ae 85 84 6,og 86 84 false (.bin .rem (tm 85) (iv 400)),AE 87 84 86 0]
 88 (tm 87)]
 89 (tm 88)]
def mh:LSO:=[Aa 90 9,Ah 91 90 1,Aa 9 91]
def mg:LSO:=[Aa 92 8,Aa 93 9,o1 94 (.bin .leq (tm 92) (tm 93)),Aa 2 94]
def kY:br:=⟨95,(.seq (.sreg mY [])
 (.seq (.seq (.sreg mX Cg)
 (.cond (tm 17) (.seq (.sreg mW [])
 .ret)
 .skip))
 (.seq (.seq (.sreg mV Cy)
 (.block 0 (.loop (.seq (.sreg mU [])
 (.seq (.cond (tm 23) .skip
 (.exit 0))
 (.seq (.block 1 (.seq (.sreg mT Ce)
 (.seq (.sreg mS Cf)
 (.cond (tm 31) (.seq (.sreg mR [])
 .ret)
 .skip))))
 (.sreg mQ Cd)))))))
 (.seq (.sreg mP Cd)
 (.seq (.sreg mn [true,true,true,false,false,false,false,false,false,false,false,false,false])
 (.seq (.seq (.sreg mm Ct)
 (.cond (tm 68) (.seq (.sreg ml [])
 .ret)
 .skip))
 (.seq (.sreg mj Cg)
 (.seq (.seq (.sreg mi Cf)
 (.cond (tm 89) (.sreg mh Ce)
 .skip))
 (.seq (.sreg mg Cf)
 .ret))))))))),[(.tmp 2)]⟩
attribute [push_cast] mY mX mW mV mU mT mS mR mQ mP mn mm ml mj mi mh mg
theorem GH:bt Tryz.prog (fun _ _=>1) 101=some kY.raw:=by kernel_rfl
def lh:LSO:=[Ab 3 0]
def k9:LSO:=[Ac 4 1 1,Aa 5 0,A6 6 4 5,B7 7 6,Bf 8 7,o1 9 (.bin .mul (tm 8) (iv 10)),Ac 10 1 1,Aa 11 0,Ah 12 11 1,A6 13 10 12,B7 14 13,Bf 15 14,AM 16 9 15,
 Aa 3 16]
def gj:br:=⟨17,(.seq (.sreg lh [])
 (.seq (.sdreg k9 [(.read 0 0),.pure,(.read 0 0),.pure,.pure,.pure,(.read 0 0),.pure,.pure,(.read 0 0),.pure,.pure] [true,false,false,false,false,false,false,false,false,false,false,false,false,false])
 .ret)),[(.tmp 3)]⟩
attribute [push_cast] lh k9
theorem CN:bt Tryz.prog (fun _ _=>1) 141=some gj.raw:=by kernel_rfl
def mO:LSO:=[Ab 2 0,Af 3]
def mN:LSO:=[Aa 7 0,o1 8 (.call 137 [(tm 7),(iv 10),(iv 64)]),Aa 6 8,Ar 9 6,Au 10 6,Aa 4 9,Aa 5 10]
def mM:LSO:=[Aa 11 4,Aa 12 5,o1 13 (.eqk false .iface (tm 12) (.av .nilif)),Aa 14 13,.grp none 14 true
 [Ag 15 14 4,og 16 14 true (.call 138 [(tm 15),(iv 10)]),Ag 17 14 0,og 18 14 true (.bin .eql (tm 16) (tm 17))]
 19 (tm 18),Aa 2 11,Aa 3 19]
def kX:br:=⟨20,(.seq (.sreg mO [])
 (.seq (.sreg mN Cs)
 (.seq (.sreg mM Cs)
 .ret))),[(.tmp 2),(.tmp 3)]⟩
attribute [push_cast] mO mN mM
theorem GF:bt Tryz.prog (fun _ _=>1) 99=some kX.raw:=by kernel_rfl
def na:LSO:=[Af 2]
def mZ:LSO:=[Aa 3 0,o1 4 (.bin .geq (tm 3) (.av (.int .i32 128))),Aa 2 4]
def kZ:br:=⟨5,(.seq (.sreg na [])
 (.seq (.sreg mZ Ce)
 .ret)),[(.tmp 2)]⟩
attribute [push_cast] na mZ
theorem GI:bt Tryz.prog (fun _ _=>1) 98=some kZ.raw:=by kernel_rfl
def gL:LSO:=[Ab 4 0]
def gK:LSO:=[Aa 5 0,Aa 6 1,o1 7 (.call 136 [(tm 5),(tm 6),(.av (.bool true))]),Aa 4 7]
def eZ:br:=⟨8,(.seq (.sreg gL [])
 (.seq (.sreg gK Cf)
 .ret)),[(.tmp 4)]⟩
attribute [push_cast] gL gK
theorem rC:bt Tryz.prog (fun _ _=>1) 97=some eZ.raw:=by kernel_rfl
def gJ:LSO:=[Ab 6 0]
def gI:LSO:=[Aa 9 0,o1 10 (.rangeS (tm 9))]
def gH:LSO:=[o1 11 (.nextS (tm 10)),Ar 12 11]
def gG:LSO:=[Au 13 11,Bc 14 11,Aa 7 13,Aa 8 14]
def gF:LSO:=[Aa 15 1,Aa 16 8,Bo 17 15 16,Aa 18 2,o1 19 (.eqk false .bool (tm 17) (tm 18))]
def gE:LSO:=[Aa 20 7,Aa 6 20]
def gD:LSO:=[Ab 6 (-1)]
def eY:br:=⟨21,(.seq (.sreg gJ [])
 (.seq (.seq (.sreg gI Cd)
 (.block 0 (.loop (.seq (.sreg gH [])
 (.seq (.cond (tm 12) .skip
 (.exit 0))
 (.block 1 (.seq (.sreg gG Cq)
 (.seq (.sreg gF Cg)
 (.cond (tm 19) (.seq (.sreg gE Cd)
 .ret)
 .skip)))))))))
 (.seq (.sreg gD [])
 .ret))),[(.tmp 6)]⟩
attribute [push_cast] gJ gI gH gG gF gE gD
theorem rB:bt Tryz.prog (fun _ _=>1) 136=some eY.raw:=by kernel_rfl
def Ex:LSO:=[Af 2]
def Ew:LSO:=[Aa 7 0,Ap 8 7,A3 9 8 0]
def Ev:LSO:=[Aa 10 0,B8 11 10 0,Bf 12 11,Aa 3 12]
def Eu:LSO:=[Ab 4 1]
def Et:LSO:=[Aa 13 3,AY 14 13 240]
def Es:LSO:=[Ab 4 4]
def Er:LSO:=[Aa 15 3,AO 16 15 240,Aa 3 16]
def Ep:LSO:=[Aa 17 3,AY 18 17 224]
def Eo:LSO:=[Ab 4 3]
def En:LSO:=[Aa 19 3,AO 20 19 224,Aa 3 20]
def xJ:LSO:=[Aa 21 3,AY 22 21 192]
def xI:LSO:=[Ab 4 2]
def xH:LSO:=[Aa 23 3,AO 24 23 192,Aa 3 24]
def xG:LSO:=[Aa 25 3,AY 26 25 128]
def xF:LSO:=[Af 2]
def xE:LSO:=[Aa 27 0,Ap 28 27,Aa 29 4,Ak 30 28 29]
def xD:LSO:=[Af 2]
def xC:LSO:=[Ab 5 1]
def xB:LSO:=[Aa 31 5,Aa 32 4,Ak 33 31 32]
def xA:LSO:=[Aa 36 0,Aa 37 5,A6 38 36 37,Bf 39 38,Aa 6 39]
def xz:LSO:=[Aa 40 6,AL 41 40 128,Aa 42 41,.grp none 42 false
 [Ae 43 42 6,B9 44 42 43 192]
 45 (tm 44)]
def xy:LSO:=[Af 2]
def xx:LSO:=[Aa 46 3,o1 47 (.bin .mul (tm 46) (iv 64)),Aa 48 6,AM 49 47 48,AO 50 49 128,Aa 3 50]
def xw:LSO:=[Aa 34 5,Ah 35 34 1,Aa 5 35]
def xv:LSO:=[Aa 51 4,As 52 51 2,Aa 53 52,.grp none 53 true
 [Ag 54 53 3,Bp 55 53 54 128]
 56 (tm 55),Aa 57 56,.grp none 57 false
 [Ae 58 57 4,AE 59 57 58 3,Ae 60 57 59,.grp (some (57,false)) 60 true
 [Ag 61 60 3,Bp 62 60 61 2048]
 63 (tm 62)]
 64 (tm 63),Aa 65 64,.grp none 65 false
 [Ae 66 65 4,AE 67 65 66 4,Ae 68 65 67,.grp (some (65,false)) 68 true
 [Ag 69 68 3,Bp 70 68 69 65536]
 71 (tm 70)]
 72 (tm 71),Aa 73 72,.grp none 73 false
 [Ae 74 73 3,A8 75 73 74 1114111]
 76 (tm 75),Aa 77 76,.grp none 77 false
 [Ae 78 77 3,B9 79 77 78 55296,Ae 80 77 79,.grp (some (77,false)) 80 true
 [Ag 81 80 3,Bp 82 80 81 57344]
 83 (tm 82)]
 84 (tm 83)]
def xu:LSO:=[Af 2]
def xt:LSO:=[Aa 85 0,Aa 86 4,BQ 87 85 86,Aa 0 87]
def xr:LSO:=[Ay 2]
def CT:br:=⟨88,(.seq (.sreg Ex [])
 (.seq (.block 0 (.loop (.seq (.seq (.sreg Ew Ce)
 (.cond (tm 9) .skip
 (.exit 0)))
 (.block 1 (.seq (.sreg Ev Cf)
 (.seq (.sreg Eu [])
 (.seq (.seq (.sreg Et Cd)
 (.cond (tm 14) (.seq (.sreg Es [])
 (.sreg Er Ce))
 (.seq (.sreg Ep Cd)
 (.cond (tm 18) (.seq (.sreg Eo [])
 (.sreg En Ce))
 (.seq (.sreg xJ Cd)
 (.cond (tm 22) (.seq (.sreg xI [])
 (.sreg xH Ce))
 (.seq (.sreg xG Cd)
 (.cond (tm 26) (.seq (.sreg xF [])
 .ret)
 .skip))))))))
 (.seq (.seq (.sreg xE Cf)
 (.cond (tm 30) (.seq (.sreg xD [])
 .ret)
 .skip))
 (.seq (.seq (.sreg xC [])
 (.block 2 (.loop (.seq (.seq (.sreg xB Ce)
 (.cond (tm 33) .skip
 (.exit 2)))
 (.seq (.block 3 (.seq (.sreg xA Cg)
 (.seq (.seq (.sreg xz Cf)
 (.cond (tm 45) (.seq (.sreg xy [])
 .ret)
 .skip))
 (.sreg xx Ch))))
 (.sreg xw Ce))))))
 (.seq (.seq (.sreg xv Ct)
 (.cond (tm 84) (.seq (.sreg xu [])
 .ret)
 .skip))
 (.sreg xt Cf)))))))))))
 (.seq (.sreg xr [])
 .ret))),[(.tmp 2)]⟩
attribute [push_cast] Ex Ew Ev Eu Et Es Er Ep Eo En xJ xI xH xG xF xE xD xC xB xA xz xy xx xw xv xu xt xr
theorem Mj:bt Tryz.prog (fun _ _=>1) 89=some CT.raw:=by kernel_rfl
def o9:LSO:=[Af 2]
def o8:LSO:=[Ab 3 0]
def o7:LSO:=[Aa 4 3,Aa 5 0,Ap 6 5,Ak 7 4 6]
def o6:LSO:=[Aa 10 0,Aa 11 3,A6 12 10 11,o1 13 (.bin .lss (tm 12) (.av (.int .u8 48))),Aa 14 13,.grp none 14 false
 [Ae 15 14 0,Ae 16 14 3,Bg 17 14 15 16,og 18 14 false (.bin .gtr (tm 17) (.av (.int .u8 57)))]
 19 (tm 18)]
def o5:LSO:=[Af 2]
def o4:LSO:=[Aa 8 3,Ah 9 8 1,Aa 3 9]
def o3:LSO:=[Aa 20 0,Ap 21 20,A3 22 21 0,Aa 2 22]
def mF:br:=⟨23,(.seq (.sreg o9 [])
 (.seq (.seq (.sreg o8 [])
 (.block 0 (.loop (.seq (.seq (.sreg o7 Cf)
 (.cond (tm 7) .skip
 (.exit 0)))
 (.seq (.block 1 (.seq (.sreg o6 Ch)
 (.cond (tm 19) (.seq (.sreg o5 [])
 .ret)
 .skip)))
 (.sreg o4 Ce))))))
 (.seq (.sreg o3 Cf)
 .ret))),[(.tmp 2)]⟩
attribute [push_cast] o9 o8 o7 o6 o5 o4 o3
theorem IM:bt Tryz.prog (fun _ _=>1) 130=some mF.raw:=by kernel_rfl
def oP:LSO:=[Af 2]
def oO:LSO:=[Aa 4 0,o1 5 (.bin .eql (tm 4) (.av (.str [48])))]
def oN:LSO:=[Ay 2]
def oM:LSO:=[o1 3 (.mv (.av (.str [57,50,50,51,51,55,50,48,51,54,56,53,52,55,55,53,56,48,55])))]
def oL:LSO:=[Aa 6 0,Ap 7 6,A3 8 7 0,Aa 9 8,.grp none 9 true
 [Ag 10 9 0,og 11 9 true (.idxS (tm 10) (iv 0)),og 12 9 true (.bin .eql (tm 11) (.av (.int .u8 45)))]
 13 (tm 12)]
def oK:LSO:=[Aa 14 0,o1 15 (.slS (tm 14) (some (iv 1)) none),Aa 0 15]
def oJ:LSO:=[o1 3 (.mv (.av (.str [57,50,50,51,51,55,50,48,51,54,56,53,52,55,55,53,56,48,56])))]
def oI:LSO:=[Aa 16 0,Ai 17 130 16,Aa 18 17,.grp none 18 true
 [Ag 19 18 0,og 20 18 true (.idxS (tm 19) (iv 0)),og 21 18 true (.bin .neq (tm 20) (.av (.int .u8 48)))]
 22 (tm 21),Aa 23 22,.grp none 23 true
 [Ag 24 23 0,og 25 23 true (.len true (tm 24)),Bp 26 23 25 19,Ag 27 23 26,.grp (some (23,true)) 27 false
 [Ae 28 27 0,Bh 29 27 28,AE 30 27 29 19,Ae 31 27 30,.grp (some (27,false)) 31 true
 [Ag 32 31 0,Ag 33 31 3,og 34 31 true (.bin .leq (tm 32) (tm 33))]
 35 (tm 34)]
 36 (tm 35)]
 37 (tm 36),Aa 2 37]
def mD:br:=⟨38,(.seq (.sreg oP [])
 (.seq (.seq (.sreg oO Cd)
 (.cond (tm 5) (.seq (.sreg oN [])
 .ret)
 .skip))
 (.seq (.sreg oM [])
 (.seq (.seq (.sreg oL Cg)
 (.cond (tm 13) (.seq (.sreg oK Ce)
 (.sreg oJ []))
 .skip))
 (.seq (.sreg oI Ci)
 .ret))))),[(.tmp 2)]⟩
attribute [push_cast] oP oO oN oM oL oK oJ oI
theorem IK:bt Tryz.prog (fun _ _=>1) 91=some mD.raw:=by kernel_rfl
def EE:LSO:=[Ab 2 0]
def ED:LSO:=[Ab 3 0]
def EC:LSO:=[Ab 4 0]
def EB:LSO:=[Aa 5 4,Aa 6 0,Ap 7 6,Ak 8 5 7]
def EA:LSO:=[Aa 11 3,o1 12 (.bin .mul (iv 10) (tm 11)),Aa 13 0,Aa 14 4,A6 15 13 14,B7 16 15,Bf 17 16,AM 18 12 17,Aa 3 18]
def Ez:LSO:=[Aa 9 4,Ah 10 9 1,Aa 4 10]
def Ey:LSO:=[Aa 19 3,Aa 2 19]
def CU:br:=⟨20,(.seq (.sreg EE [])
 (.seq (.sreg ED [])
 (.seq (.seq (.sreg EC [])
 (.block 0 (.loop (.seq (.seq (.sreg EB Cf)
 (.cond (tm 8) .skip
 (.exit 0)))
 (.seq (.block 1 (.sreg EA Cr))
 (.sreg Ez Ce))))))
 (.seq (.sreg Ey Cd)
 .ret)))),[(.tmp 2)]⟩
attribute [push_cast] EE ED EC EB EA Ez Ey
theorem Mk:bt Tryz.prog (fun _ _=>1) 133=some CU.raw:=by kernel_rfl
def oZ:LSO:=[Af 2]
def oY:LSO:=[Aa 7 0,Ap 8 7,AC 9 8 15,Aa 10 9,.grp none 10 false
 [Ae 11 10 0,og 12 10 false (.slS (tm 11) none (some (iv 14))),AI 13 10 130 12,AP 14 10 13]
 15 (tm 14),Aa 16 15,.grp none 16 false
 [Ae 17 16 0,BO 18 16 17 14,og 19 16 false (.bin .neq (tm 18) (.av (.int .u8 90)))]
 20 (tm 19)]
def oX:LSO:=[Af 2]
def oW:LSO:=[Aa 21 0,o1 22 (.slS (tm 21) none (some (iv 4))),Ai 23 133 22,Aa 24 0,o1 25 (.slS (tm 24) (some (iv 4)) (some (iv 6))),Ai 26 133 25,Aa 27 0,
 o1 28 (.slS (tm 27) (some (iv 6)) (some (iv 8))),Ai 29 133 28,Aa 3 23,Aa 4 26,Aa 5 29]
def oV:LSO:=[Aa 30 4,AL 31 30 1,Aa 32 31,.grp none 32 false
 [Ae 33 32 4,A8 34 32 33 12]
 35 (tm 34),Aa 36 35,.grp none 36 false
 [Ae 37 36 5,og 38 36 false (.bin .lss (tm 37) (iv 1))]
 39 (tm 38),Aa 40 39,.grp none 40 false
 [Ae 41 40 0,BR 42 40 41 8 10,AI 43 40 133 42,A8 44 40 43 23]
 45 (tm 44),Aa 46 45,.grp none 46 false
 [Ae 47 46 0,BR 48 46 47 10 12,AI 49 46 133 48,A8 50 46 49 59]
 51 (tm 50),Aa 52 51,.grp none 52 false
 [Ae 53 52 0,BR 54 52 53 12 14,AI 55 52 133 54,A8 56 52 55 59]
 57 (tm 56)]
def oU:LSO:=[Af 2]
def oT:LSO:=[Ab 6 31]
def oS:LSO:=[Aa 58 4,As 59 58 4,Aa 60 59,.grp none 60 false
 [Ae 61 60 4,AE 62 60 61 6]
 63 (tm 62),Aa 64 63,.grp none 64 false
 [Ae 65 64 4,AE 66 64 65 9]
 67 (tm 66),Aa 68 67,.grp none 68 false
 [Ae 69 68 4,AE 70 68 69 11]
 71 (tm 70)]
def oR:LSO:=[Ab 6 30]
def oQ:LSO:=[Aa 72 4,As 73 72 2]
def nh:LSO:=[Ab 6 28]
def ng:LSO:=[Aa 74 3,o1 75 (.bin .rem (tm 74) (iv 400)),As 76 75 0,Aa 77 76,.grp none 77 false
 [Ae 78 77 3,og 79 77 false (.bin .rem (tm 78) (iv 4)),AE 80 77 79 0,Ae 81 77 80,.grp (some (77,false)) 81 true
 [Ag 82 81 3,B6 83 81 82 100,og 84 81 true (.bin .neq (tm 83) (iv 0))]
 85 (tm 84)]
 86 (tm 85)]
def nf:LSO:=[Ab 6 29]
def nb:LSO:=[Aa 87 5,Aa 88 6,o1 89 (.bin .leq (tm 87) (tm 88)),Aa 2 89]
def mE:br:=⟨90,(.seq (.sreg oZ [])
 (.seq (.seq (.sreg oY Ci)
 (.cond (tm 20) (.seq (.sreg oX [])
 .ret)
 .skip))
 (.seq (.sdreg oW [.pure,(.read 0 0),(.read 0 0),.pure,(.read 0 0),(.read 0 0),.pure,(.read 0 0)] CB)
 (.seq (.seq (.sreg oV Ct)
 (.cond (tm 57) (.seq (.sreg oU [])
 .ret)
 .skip))
 (.seq (.sreg oT [])
 (.seq (.seq (.sreg oS Cm)
 (.cond (tm 71) (.sreg oR [])
 .skip))
 (.seq (.seq (.sreg oQ Cd)
 (.cond (tm 73) (.seq (.sreg nh [])
 (.seq (.sreg ng Cg)
 (.cond (tm 86) (.sreg nf [])
 .skip)))
 .skip))
 (.seq (.sreg nb Cf)
 .ret)))))))),[(.tmp 2)]⟩
attribute [push_cast] oZ oY oX oW oV oU oT oS oR oQ nh ng nf nb
theorem IL:bt Tryz.prog (fun _ _=>1) 93=some mE.raw:=by kernel_rfl
def xT:LSO:=[Am 4,Af 5]
def xS:LSO:=[Aa 9 1,Ap 10 9,A3 11 10 4096]
def xR:LSO:=[Am 4,Af 5]
def xQ:LSO:=[Aa 12 0]
def xP:LSO:=[As 14 12 1,Aa 13 14]
def xO:LSO:=[Aa 15 1,Ap 16 15,A3 17 16 0,Aa 18 17,.grp none 18 true
 [Ag 19 18 1,AF 20 18 89 19]
 21 (tm 20)]
def xN:LSO:=[Aa 22 1,Ai 23 90 22,Aa 4 23,Ay 5]
def xM:LSO:=[As 25 12 2,Aa 24 25]
def xL:LSO:=[Aa 26 1,Ap 27 26,A3 28 27 0,Aa 29 28,.grp none 29 true
 [Ag 30 29 1,AF 31 29 89 30]
 32 (tm 31)]
def xK:LSO:=[Aa 33 1,Aa 4 33,Ay 5]
def tO:LSO:=[As 35 12 3,Aa 34 35]
def tN:LSO:=[Ab 6 0]
def tM:LSO:=[Aa 36 6,Aa 37 1,Ap 38 37,Ak 39 36 38]
def tL:LSO:=[Aa 42 1,Aa 43 6,A6 44 42 43,o1 45 (.bin .geq (tm 44) (.av (.int .u8 128)))]
def tK:LSO:=[Am 4,Af 5]
def tJ:LSO:=[Aa 40 6,Ah 41 40 1,Aa 6 41]
def tI:LSO:=[Aa 46 1,Ai 47 90 46,Aa 4 47,Ay 5]
def tH:LSO:=[As 49 12 4,Aa 48 49]
def tG:LSO:=[Aa 50 1,Ai 51 91 50]
def tF:LSO:=[Aa 52 1,Aa 4 52,Ay 5]
def tE:LSO:=[As 54 12 5,Aa 53 54]
def tD:LSO:=[Aa 55 1,o1 56 (.bin .eql (tm 55) (.av (.str [84,82,85,69]))),Aa 57 56,.grp none 57 false
 [Ae 58 57 1,og 59 57 false (.bin .eql (tm 58) (.av (.str [70,65,76,83,69])))]
 60 (tm 59)]
def tC:LSO:=[Aa 61 1,Aa 4 61,Ay 5]
def tB:LSO:=[As 63 12 6,Aa 62 63]
def tA:LSO:=[Aa 65 1,Ai 66 92 65,Aa 64 66,Ar 67 64,Au 68 64,Aa 7 67,Aa 8 68]
def tz:LSO:=[Aa 69 8,As 70 69 0]
def tx:LSO:=[Aa 71 7,Aa 4 71,Ay 5]
def tw:LSO:=[As 73 12 7,Aa 72 73]
def tv:LSO:=[Aa 74 1,Aa 4 74,Ay 5]
def tu:LSO:=[As 76 12 8,Aa 75 76]
def tt:LSO:=[Aa 77 1,Ai 78 93 77]
def tq:LSO:=[Aa 79 1,Aa 4 79,Ay 5]
def tn:LSO:=[Am 4,Af 5]
def rI:br:=⟨80,(.seq (.sreg xT [])
 (.seq (.seq (.sreg xS Ce)
 (.cond (tm 11) (.seq (.sreg xR [])
 .ret)
 .skip))
 (.seq (.seq (.sreg xQ [])
 (.block 0 (.seq (.sreg xP Cd)
 (.cond (tm 13) (.seq (.sreg xO Cg)
 (.cond (tm 21) (.seq (.sreg xN Cq)
 .ret)
 .skip))
 (.seq (.sreg xM Cd)
 (.cond (tm 24) (.seq (.sreg xL Cg)
 (.cond (tm 32) (.seq (.sreg xK Cj)
 .ret)
 .skip))
 (.seq (.sreg tO Cd)
 (.cond (tm 34) (.seq (.seq (.sreg tN [])
 (.block 1 (.loop (.seq (.seq (.sreg tM Cf)
 (.cond (tm 39) .skip
 (.exit 1)))
 (.seq (.block 2 (.seq (.sreg tL Cf)
 (.cond (tm 45) (.seq (.sreg tK [])
 .ret)
 .skip)))
 (.sreg tJ Ce))))))
 (.seq (.sreg tI Cq)
 .ret))
 (.seq (.sreg tH Cd)
 (.cond (tm 48) (.seq (.sreg tG Cd)
 (.cond (tm 51) (.seq (.sreg tF Cj)
 .ret)
 .skip))
 (.seq (.sreg tE Cd)
 (.cond (tm 53) (.seq (.sreg tD Cf)
 (.cond (tm 60) (.seq (.sreg tC Cj)
 .ret)
 .skip))
 (.seq (.sreg tB Cd)
 (.cond (tm 62) (.seq (.sreg tA Cs)
 (.seq (.sreg tz Cd)
 (.cond (tm 70) (.seq (.sreg tx Cj)
 .ret)
 .skip)))
 (.seq (.sreg tw Cd)
 (.cond (tm 72) (.seq (.sreg tv Cj)
 .ret)
 (.seq (.sreg tu Cd)
 (.cond (tm 75) (.seq (.sreg tt Cd)
 (.cond (tm 78) (.seq (.sreg tq Cj)
 .ret)
 .skip))
 .skip))))))))))))))))))
 (.seq (.sreg tn [])
 .ret)))),[(.tmp 4),(.tmp 5)]⟩
attribute [push_cast] xT xS xR xQ xP xO xN xM xL xK tO tN tM tL tK tJ tI tH tG tF tE tD tC tB tA tz tx tw tv tu tt tq tn
theorem KH:bt Tryz.prog (fun _ _=>1) 45=some rI.raw:=by kernel_rfl
def sd:LSO:=[Am 4,Af 5]
def sc:LSO:=[Aa 10 1,Ap 11 10,A3 12 11 4096]
def sb:LSO:=[Am 4,Af 5]
def sa:LSO:=[Aa 13 1,Aa 6 13,Af 7]
def rZ:LSO:=[Aa 14 0]
def rY:LSO:=[As 16 14 1,Aa 15 16]
def rX:LSO:=[Aa 17 1,Ai 18 95 17,Aa 19 1,o1 20 (.bin .neq (tm 19) (.av (.str []))),Aa 21 20,.grp none 21 true
 [Ag 22 21 1,AF 23 21 96 22]
 24 (tm 23),Aa 6 18,Aa 7 24]
def rW:LSO:=[As 26 14 2,Aa 25 26]
def rV:LSO:=[Aa 27 1,o1 28 (.bin .neq (tm 27) (.av (.str []))),Aa 29 28,.grp none 29 true
 [Ag 30 29 1,AF 31 29 96 30]
 32 (tm 31),Aa 7 32]
def rU:LSO:=[As 34 14 3,Aa 33 34]
def oz:LSO:=[Aa 35 1,Ai 36 95 35,Aa 37 1,o1 38 (.call 97 [(tm 37),(.av (.func 98 []))]),AL 39 38 0,Aa 6 36,Aa 7 39]
def oy:LSO:=[As 41 14 4,Aa 40 41]
def ox:LSO:=[Aa 43 1,Ai 44 99 43,Aa 42 44,Ar 45 42,Au 46 42,Aa 7 46]
def ow:LSO:=[As 48 14 5,Aa 47 48]
def ov:LSO:=[Aa 49 1,o1 50 (.bin .eql (tm 49) (.av (.str [84,82,85,69]))),Aa 51 50,.grp none 51 false
 [Ae 52 51 1,og 53 51 false (.bin .eql (tm 52) (.av (.str [70,65,76,83,69])))]
 54 (tm 53),Aa 7 54]
def ou:LSO:=[As 56 14 6,Aa 55 56]
def ot:LSO:=[Aa 58 1,Ai 59 100 58,Aa 57 59,Ar 60 57,Au 61 57,Aa 8 60,Aa 9 61]
def oq:LSO:=[Aa 62 8,Aa 63 9,As 64 63 0,Aa 6 62,Aa 7 64]
def oo:LSO:=[As 66 14 7,Aa 65 66]
def om:LSO:=[Ay 7]
def ol:LSO:=[As 68 14 8,Aa 67 68]
def oj:LSO:=[Aa 69 1,Ai 70 101 69,Aa 7 70]
def oi:LSO:=[Aa 71 7,Az 72 71]
def oh:LSO:=[Am 4,Af 5]
def oe:LSO:=[Aa 73 6,Aa 4 73,Ay 5]
def nK:br:=⟨74,(.seq (.sreg sd [])
 (.seq (.seq (.sreg sc Ce)
 (.cond (tm 12) (.seq (.sreg sb [])
 .ret)
 .skip))
 (.seq (.sreg sa Cj)
 (.seq (.seq (.sreg rZ [])
 (.block 0 (.seq (.sreg rY Cd)
 (.cond (tm 15) (.sreg rX Co)
 (.seq (.sreg rW Cd)
 (.cond (tm 25) (.sreg rV Cg)
 (.seq (.sreg rU Cd)
 (.cond (tm 33) (.sreg oz Cs)
 (.seq (.sreg oy Cd)
 (.cond (tm 40) (.sreg ox Ch)
 (.seq (.sreg ow Cd)
 (.cond (tm 47) (.sreg ov Cg)
 (.seq (.sreg ou Cd)
 (.cond (tm 55) (.seq (.sreg ot Cs)
 (.sreg oq Cl))
 (.seq (.sreg oo Cd)
 (.cond (tm 65) (.sreg om [])
 (.seq (.sreg ol Cd)
 (.cond (tm 67) (.sreg oj Ce)
 .skip))))))))))))))))))
 (.seq (.seq (.sreg oi Cd)
 (.cond (tm 72) (.seq (.sreg oh [])
 .ret)
 .skip))
 (.seq (.sreg oe Cj)
 .ret)))))),[(.tmp 4),(.tmp 5)]⟩
attribute [push_cast] sd sc sb sa rZ rY rX rW rV rU oz oy ox ow ov ou ot oq oo om ol oj oi oh oe
theorem Jr:bt Tryz.prog (fun _ _=>1) 48=some nK.raw:=by kernel_rfl
attribute [push_cast] gj kZ eZ eY CT mF CU
variable {L:List Blk} {K:Zy}
set_option maxHeartbeats 8000000
set_option maxRecDepth 100000
theorem RA {x:Int} {L:List Blk} {K:Zy} (h:K (.bool (decide ((128:Int)<=x))) L):Zx 98 [.int .i32 x] L K:=by
 replace h:=hid h;refine Zw GI ?_;exact aa h.out
def DI (s:List UInt8):Bool:=s.all fun c=>decide (c.toNat<128)
theorem Yl {s:List UInt8} (hs:s.length<=1100000) (hno:DI s=true->K (.int .i64 (-1)) L) (hyes:∀ k:Nat,DI s=false->K (.int .i64 (k:Int)) L) :
  Zx 136 [.str s,.func 98 [],.bool true] L K:=by
 replace hno:=hid hno;replace hyes:=hid hyes;refine Zw rB ?_;refine ak (fun n T' L'=>∃ p,n=s.length - p/\p<=s.length/\Hid (DI (s.take p)=true)/\T'=[(10,.ptr L.length 0),(1,.func 98 []),(2,.bool true)]/\L'=L++[.siter s p]) (CutS (b:=by simp)) ⟨0,rfl,ZI _,hid rfl,rfl,rfl⟩ ?_;rintro _ _ _ ⟨p,rfl,hp,hall,rfl,rfl⟩;by_cases hlt:p<s.length
 ·obtain ⟨c,hc⟩:=Zt (s.getD p 0);have hr:=c.toNat_lt;have htk:s.take (p+1)=s.take p++[c]:=by rw [ZY hlt,<- hc];simp [hlt]
  have hnext:DI (s.take (p+1))=decide (c.toNat<128):=by
   have:=hall.out;unfold DI at this ⊢;rw [htk,aci,this];simp
  by_cases ha:c.toNat<128
  ·have hd:=L7 hlt (by rw [hc];exact ha);rw [hc] at hd;have w0:IntKind.i32.wrap (c.toNat:Int)=(c.toNat:Int):=K5 (by omega) (by omega);have f1:¬ (128:Int)<=(c.toNat:Int):=by omega
   replace hnext:=hid (hnext.trans (decide_eq_true ha));clear hc ha htk;have kk1:=@hid _ @RA;refine wk ?_;exact aj _ _ _ (by omega) (CutS (b:=by simp)) ⟨p+1,rfl,hlt,hnext,rfl,rfl⟩
  ·have hh:=NP hlt (by rw [hc];omega);obtain ⟨⟨x,wd⟩,hd⟩:∃ q,KB s p=q:=⟨_,rfl⟩;rw [hd] at hh;simp only at hh;have f1:(128:Int)<=(x:Int):=by omega
   have hbad:DI s=false:=by
    rw [<- aa0];intro e;have hm:c∈s:=by rw [<- hc];simp [hlt]
    have:=ZJ.1 e c hm;simp at this;omega
   have h':=hid (hyes.out p hbad);clear hc ha htk hnext hbad;have kk1:=@hid _ @RA;refine wk ?_;exact ae rfl h'.out
 ·have hke:p=s.length:=by omega
  subst hke;have h1:=hall.out;rw [ZW] at h1;have h':=hid (hno.out h1);clear h1;refine wk ?_;exact ae rfl h'.out
theorem Vi {s:List UInt8} (hs:s.length<=1100000) (hno:DI s=true->K (.int .i64 (-1)) L) (hyes:∀ k:Nat,DI s=false->K (.int .i64 (k:Int)) L) :
  Zx 97 [.str s,.func 98 []] L K:=by
 replace hno:=hid hno;replace hyes:=hid hyes;refine Zw rC ?_;refine Yl hs (fun e=>?_) (fun k e=>?_)
 ·have h':=hid (hno.out e);refine sk ?_;refine wk ?_;exact aa h'.out
 ·have h':=hid (hyes.out k e);refine sk ?_;refine wk ?_;exact aa h'.out
def dig (v:List UInt8) (i:Nat):Nat:=(v.getD i 0).toNat - 48
def two (v:List UInt8) (i:Nat):Nat:=10 * dig v i+dig v (i+1)
def dX (c:UInt8):Bool:=decide (48<=c.toNat) && decide (c.toNat<=57)
def Vb (y:Nat):Bool:=decide (y % 4=0) && !decide (y % 100=0) || decide (y % 400=0)
def OI (m:Nat):Nat:=if m=2 then 28 else if m=4\/m=6\/m=9\/m=11 then 30 else 31
def Ny (y m:Nat):Nat:=if m=2/\Vb y=true then OI m+1 else OI m
def PR (v:List UInt8):Bool:=decide ((1<=two v 4/\two v 4<=12)/\1<=two v 6/\two v 8<=23/\two v 10<=59/\two v 12<=59) && decide (two v 6<=Ny (two v 0 * 100+two v 2) (two v 4))
def zZ (v:List UInt8):Bool:=decide (v.length=15) && decide (v.getD 14 0=90) && (v.take 14).all dX && PR v
theorem YU {v:List UInt8} {i p:Nat} {z:Int} (hz:z=(i:Int)) (hi:i+1<v.length) (hv:v.length<=1000) (h1:dX (v.getD i 0)=true) (h2:dX (v.getD (i+1) 0)=true) (hL:L[p]?=some (.cells [.str v])) (h:K (.int .i64 (two v i:Nat)) L) :
  Zx 141 [.int .i64 z,.ptr p 0] L K:=by
 subst hz;unfold two dig at h;obtain ⟨a,ha⟩:=Zt (v.getD i 0);obtain ⟨b,hb⟩:=Zt (v.getD (i+1) 0);rw [ha] at h1 h;rw [hb] at h2 h;simp only [dX,ZE,decide_eq_true_eq] at h1 h2;obtain ⟨x,hx⟩:∃ x:Nat,a.toNat=48+x:=⟨a.toNat - 48,by omega⟩;obtain ⟨y,hy⟩:∃ y:Nat,b.toNat=48+y:=⟨b.toNat - 48,by omega⟩;have hx9:x<=9:=by omega
 have hy9:y<=9:=by omega
 rw [show 10 * (a.toNat - 48)+(b.toNat - 48)=10 * x+y by omega] at h;have hxa:(a.toNat:Int)=48+(x:Int):=by omega
 have hyb:(b.toNat:Int)=48+(y:Int):=by omega
 have g1:(i:Int)<(v.length:Int):=by omega
 have g2:=Zv i (by omega);have g3:(i:Int)+1<(v.length:Int):=by omega
 have g4:((i:Int)+1).toNat=i+1:=by omega
 have g5:(0:Int)<=(i:Int)+1:=by omega
 have w1:IntKind.u8.wrap (48+(x:Int) - 48)=(x:Int):=by rw [cv (by omega) (by omega)];omega
 have w2:IntKind.u8.wrap (48+(y:Int) - 48)=(y:Int):=by rw [cv (by omega) (by omega)];omega
 have w3:IntKind.i64.wrap (x:Int)=(x:Int):=ac (by omega) (by omega);have w4:IntKind.i64.wrap (y:Int)=(y:Int):=ac (by omega) (by omega);have w5:IntKind.i64.wrap ((x:Int) * 10)=(x:Int) * 10:=ac (by omega) (by omega);have w6:IntKind.i64.wrap ((x:Int) * 10+(y:Int))=(x:Int) * 10+(y:Int):=ac (by omega) (by omega);have hfin:K (.int .i64 ((x:Int) * 10+(y:Int))) L:=by
  rwa [show ((10 * x+y:Nat):Int)=(x:Int) * 10+(y:Int) by omega] at h
 replace hfin:=hid hfin;clear h h1 h2 hx hy;refine Zw CN ?_;exact aa hfin.out
theorem Xf {m:Nat} (h1:1<=m) (h2:m<=12) {l:List AV} (hl:dH 2=some l):l.getD (m - 1) .undef=.int .i64 (OI m:Nat)/\l.length=12:=by
 have e:dH 2=some [.int .i64 31,.int .i64 28,.int .i64 31,.int .i64 30,.int .i64 31,.int .i64 30,.int .i64 31,.int .i64 31,.int .i64 30,.int .i64 31,.int .i64 30,.int .i64 31]:=by rfl
 rw [e] at hl;cases hl;have:m=1\/m=2\/m=3\/m=4\/m=5\/m=6\/m=7\/m=8\/m=9\/m=10\/m=11\/m=12:=by omega
 rcases this with rfl|rfl|rfl|rfl|rfl|rfl|rfl|rfl|rfl|rfl|rfl|rfl<;>exact ⟨rfl,rfl⟩
theorem fQ {v:List UInt8} {i:Nat} (h1:dX (v.getD i 0)=true) (h2:dX (v.getD (i+1) 0)=true):two v i<=99:=by
 simp only [dX,ZE,decide_eq_true_eq] at h1 h2;unfold two dig;omega
theorem Pm {v:List UInt8} (hv:v.length<=1100000) (h:K (.bool (zZ v)) L):Zx 101 [.str v] L K:=by
 have no:zZ v=false->K (.bool false) L:=fun e=>by rw [<- e];exact h
 replace no:=hid no;replace h:=hid h;refine ad GH (by simp [kY]) ?_;simp only [kY,aq];by_cases h15:v.length=15;rotate_left
 ·have f1:¬ (v.length:Int)=15:=by omega
  have h':=hid (no.out (by simp [zZ,h15]));clear h15;refine wk ?_;exact ae rfl h'.out
 have f1:(v.length:Int)=15:=by omega
 obtain ⟨z,hz⟩:=Zt (v.getD 14 0);by_cases h90:z=90;rotate_left
 ·have f2:¬ (z.toNat:Int)=90:=fun e=>h90 ((bu z 90).1 e)
  have h':=hid (no.out (by simp [zZ,<- hz] at h90 ⊢;simp [h90]));clear h90;refine wk ?_;exact ae rfl h'.out
 have f2:(z.toNat:Int)=90:=by rw [h90];rfl
 obtain ⟨w,hw⟩:=Zt (v.take 14);have hwl:w.length=14:=by rw [<- hw];simp [h15]
 have f3:(14:Int)<=(v.length:Int):=by omega
 have hul:(u8s w).length=14:=by simp [u8s,hwl]
 have hdall:=hid (show w.all dX=false->K (.bool false) L from fun e=>no.out (by simp [zZ,hw,e]));replace hw:=hid hw;have hw':v.take 14=w:=hw.out;have f4:(0:Int)<=14:=by omega
 refine wk ?_;refine ak (fun n T' L'=>∃ i:Nat,n=14 - i/\i<=14/\Hid ((w.take i).all dX=true)/\T'=[(22,.int .i64 (i:Int)),(21,.int .i64 14),(20,.sl (u8s w) 14 none),(1,.ptr L.length 0)]/\L'=L++[.cells [.str v]]) (CutS (b:=by simp)) ⟨0,rfl,ZI _,hid rfl,rfl,rfl⟩ ?_;rintro _ _ _ ⟨i,rfl,hi,hall,rfl,rfl⟩;by_cases hlt:i<14
 ·have g1:(i:Int)<14:=by omega
  have g2:=Zv i (by omega);obtain ⟨c,hc⟩:=Zt (w.getD i 0);have g3:(u8s w).getD i .undef=.int .u8 c.toNat:=by rw [<- hc];simp [u8s,show i<w.length by omega]
  have hm:c∈w:=by rw [<- hc];simp [show i<w.length by omega]
  have htk:w.take (i+1)=w.take i++[c]:=by rw [ZY (by omega),<- hc];simp [show i<w.length by omega]
  have bad:=hid fun (e:dX c=false)=>hdall.out (acg.2 ⟨c,hm,by rw [e];simp⟩)
  have good:=hid fun (e:dX c=true)=>show (w.take (i+1)).all dX=true by rw [htk,aci,hall.out];simp [e]
  clear hc hm htk hw' h15 hwl
  repeat' first
   | refine bb ?_
   | (first|refine aU (by kernel_rfl) ?_|refine aA (by kernel_rfl) ?_|refine aD ?_|refine bS ?_|refine bh (fun _=>?_)|refine ay ?_|refine aW ?_)
     refine sm ?_
   | (first|refine aP (by kernel_rfl) ?_|refine aQ ?_|refine aC ?_|refine aV ?_|refine bq (ax ?_))
     refine sl ?_
   | exact bj
   | first|apply bm|apply aR|apply bo|apply aS|apply bp|apply aT
   | refine aG ?_
   | refine aB ?_
   | first|refine aE rfl ?_|refine aF rfl ?_|refine an rfl ?_ ?_|refine aI rfl (fun _=>?_) (fun _=>?_)|refine aH rfl (fun _=>?_) (fun _=>?_)
   | ((first|refine am (fun _=>?_) (fun _=>?_)|refine aw (fun _=>?_) (fun _=>?_))<;>try refine sm ?_)
   | refine And.intro trivial ?_
   | refine And.intro (by omega) ?_
   | refine aM rfl (fun _=>?_) (fun _=>?_)
   | refine And.intro ?_ ?_
  ·rename_i hx
   refine ae rfl (bad.out ?_);simp only [dX,abY,decide_eq_false_iff_not];omega
  ·rename_i hx
   refine aj _ _ _ (by omega) (CutL (b:=by simp)) ⟨i+1,rfl,by omega,hid (good.out ?_),rfl,rfl⟩;simp only [dX,ZE,decide_eq_true_eq];omega
 have hke:i=14:=by omega
 subst hke;have g1:¬ ((14:Nat):Int)<14:=by omega
 have hda:=hall.out;rw [aaR (by omega)] at hda;have hdv:∀ i,i<14->dX (v.getD i 0)=true:=fun i hi=>by
  refine ZJ.1 hda _ ?_;rw [<- hw.out];have:v.getD i 0=(v.take 14)[i]'(by simp;omega):=by simp [show i<v.length by omega]
  rw [this];exact aaI _
 have hdate:zZ v=PR v:=by
  simp only [zZ,h15,hz,h90,hw.out,hda];simp
 have ct:∀ i:Nat,i+1<14->∀ (z:Int) (K:AV->List Blk->Prop),z=(i:Int)->K (.int .i64 (two v i:Nat)) (L++[.cells [.str v]])->Zx 141 [.int .i64 z,.ptr L.length 0] (L++[.cells [.str v]]) K:=fun i hi z K hz h =>
  YU hz (by omega) (by omega) (hdv i (by omega)) (hdv (i+1) hi) (lY _ _ _) h
 have b0:=fQ (hdv 0 (by omega)) (hdv 1 (by omega));have b2:=fQ (hdv 2 (by omega)) (hdv 3 (by omega));have b4:=fQ (hdv 4 (by omega)) (hdv 5 (by omega));have b6:=fQ (hdv 6 (by omega)) (hdv 7 (by omega));have b8:=fQ (hdv 8 (by omega)) (hdv 9 (by omega));have b10:=fQ (hdv 10 (by omega)) (hdv 11 (by omega));have b12:=fQ (hdv 12 (by omega)) (hdv 13 (by omega));have kk1:=@hid _ (fun {K:Zy}=>ct 0 (by omega) 0 K rfl);have kk2:=@hid _ (fun {K:Zy}=>ct 2 (by omega) 2 K rfl);have kk3:=@hid _ (fun {K:Zy}=>ct 4 (by omega) 4 K rfl);have kk4:=@hid _ (fun {K:Zy}=>ct 6 (by omega) 6 K rfl);have kk5:=@hid _ (fun {K:Zy}=>ct 8 (by omega) 8 K rfl);have kk6:=@hid _ (fun {K:Zy}=>ct 10 (by omega) 10 K rfl);have kk7:=@hid _ (fun {K:Zy}=>ct 12 (by omega) 12 K rfl);have hfin:=h.out;rw [hdate] at hfin;unfold PR at hfin;obtain ⟨Y,hY⟩:=Zt (two v 0);obtain ⟨Y2,hY2⟩:=Zt (two v 2);obtain ⟨M,hM⟩:=Zt (two v 4);obtain ⟨D,hD⟩:=Zt (two v 6);obtain ⟨H,hH⟩:=Zt (two v 8);obtain ⟨I,hI⟩:=Zt (two v 10);obtain ⟨S,hS⟩:=Zt (two v 12);rw [hY] at b0 hfin kk1;rw [hY2] at b2 hfin kk2;rw [hM] at b4 hfin kk3;rw [hD] at b6 hfin kk4;rw [hH] at b8 hfin kk5;rw [hI] at b10 hfin kk6;rw [hS] at b12 hfin kk7;clear hY hY2 hM hD hH hI hS ct hdate hdv hda hall hw' hw hdall h15 hwl hul hi hlt f1 f2 f3 f4 hv h90 hz no h;have w1:IntKind.i64.wrap ((Y:Int) * 100)=(Y:Int) * 100:=ac (by omega) (by omega);have w2:IntKind.i64.wrap ((Y:Int) * 100+(Y2:Int))=(Y:Int) * 100+(Y2:Int):=ac (by omega) (by omega);have hbad:¬ ((1<=M/\M<=12)/\1<=D/\H<=23/\I<=59/\S<=59)->K (.bool false) L:=fun e=>by
  rw [decide_eq_false e] at hfin;simpa using hfin
 replace hbad:=hid hbad;replace hfin:=hid hfin;by_cases m1:(M:Int)<1
 ·refine wk ?_;exact ae rfl (hbad.out (by omega))
 by_cases m2:(12:Int)<(M:Int)
 ·refine wk ?_;exact ae rfl (hbad.out (by omega))
 by_cases m3:(D:Int)<1
 ·refine wk ?_;exact ae rfl (hbad.out (by omega))
 by_cases m4:(23:Int)<(H:Int)
 ·refine wk ?_;exact ae rfl (hbad.out (by omega))
 by_cases m5:(59:Int)<(I:Int)
 ·refine wk ?_;exact ae rfl (hbad.out (by omega))
 by_cases m6:(59:Int)<(S:Int)
 ·refine wk ?_;exact ae rfl (hbad.out (by omega))
 have hgood:=hid (show decide (D<=Ny (Y * 100+Y2) M)=true\/decide (D<=Ny (Y * 100+Y2) M)=false by cases decide (D<=Ny (Y * 100+Y2) M)<;>simp);have hfin2:=hfin.out;rw [show decide ((1<=M/\M<=12)/\1<=D/\H<=23/\I<=59/\S<=59)=true by simp;omega,aaw] at hfin2;unfold Ny Vb at hfin2;obtain ⟨dn,hdn⟩:=Zt (OI M);have hdb:dn<=31:=by rw [<- hdn];unfold OI;split<;>(try split)<;>omega
 obtain ⟨r4,hr4⟩:=Zt ((Y * 100+Y2) % 4);obtain ⟨r100,hr100⟩:=Zt ((Y * 100+Y2) % 100);obtain ⟨r400,hr400⟩:=Zt ((Y * 100+Y2) % 400);rw [hr4,hr100,hr400,hdn] at hfin2;have t4:Int.tmod ((Y:Int) * 100+(Y2:Int)) 4=(r4:Int):=by rw [abA (by omega)];omega
 have t100:Int.tmod ((Y:Int) * 100+(Y2:Int)) 100=(r100:Int):=by rw [abA (by omega)];omega
 have t400:Int.tmod ((Y:Int) * 100+(Y2:Int)) 400=(r400:Int):=by rw [abA (by omega)];omega
 have x1:IntKind.i64.wrap ((M:Int) - 1)=(M:Int) - 1:=ac (by omega) (by omega);have x2:((M:Int) - 1).toNat=M - 1:=by omega
 have x3:(0:Int)<=(M:Int) - 1:=by omega
 have x4:(M:Int) - 1<12:=by omega
 obtain ⟨x5,x6⟩:=Xf (m:=M) (by omega) (by omega) PM;rw [hdn] at x5;have x7:=Zv dn (by omega);replace hfin2:=hid hfin2;clear hr4 hr100 hr400 hdn hgood
 repeat' first
  | refine bb ?_
  | (first|refine aU (by kernel_rfl) ?_|refine aA (by kernel_rfl) ?_|refine aD ?_|refine bS ?_|refine bh (fun _=>?_)|refine ay ?_|refine aW ?_|refine kk1.out ?_|refine kk2.out ?_|refine kk3.out ?_|refine kk4.out ?_|refine kk5.out ?_|refine kk6.out ?_|refine kk7.out ?_|refine bg (kk1.out ⟨rfl,rfl⟩) (kk1.out ⟨rfl,rfl⟩) ?_|refine bg (kk2.out ⟨rfl,rfl⟩) (kk2.out ⟨rfl,rfl⟩) ?_|refine bg (kk3.out ⟨rfl,rfl⟩) (kk3.out ⟨rfl,rfl⟩) ?_|refine bg (kk4.out ⟨rfl,rfl⟩) (kk4.out ⟨rfl,rfl⟩) ?_|refine bg (kk5.out ⟨rfl,rfl⟩) (kk5.out ⟨rfl,rfl⟩) ?_|refine bg (kk6.out ⟨rfl,rfl⟩) (kk6.out ⟨rfl,rfl⟩) ?_|refine bg (kk7.out ⟨rfl,rfl⟩) (kk7.out ⟨rfl,rfl⟩) ?_|refine aL (kk1.out ⟨rfl,rfl⟩) ?_|refine aL (kk2.out ⟨rfl,rfl⟩) ?_|refine aL (kk3.out ⟨rfl,rfl⟩) ?_|refine aL (kk4.out ⟨rfl,rfl⟩) ?_|refine aL (kk5.out ⟨rfl,rfl⟩) ?_|refine aL (kk6.out ⟨rfl,rfl⟩) ?_|refine aL (kk7.out ⟨rfl,rfl⟩) ?_)
    refine sm ?_
  | (first|refine aP (by kernel_rfl) ?_|refine aQ ?_|refine aC ?_|refine aV ?_|refine bq (ax ?_))
    refine sl ?_
  | exact bj
  | first|apply bm|apply aR|apply bo|apply aS|apply bp|apply aT
  | refine aG ?_
  | refine aB ?_
  | first|refine aE rfl ?_|refine aF rfl ?_|refine an rfl ?_ ?_|refine aI rfl (fun _=>?_) (fun _=>?_)|refine aH rfl (fun _=>?_) (fun _=>?_)
  | ((first|refine am (fun _=>?_) (fun _=>?_)|refine aw (fun _=>?_) (fun _=>?_))<;>try refine sm ?_)
  | refine And.intro trivial ?_
  | refine And.intro (by omega) ?_
  | refine aM rfl (fun _=>?_) (fun _=>?_)
  | refine And.intro ?_ ?_
 ·rename_i hx
  refine ae rfl ?_;have e:=hfin2.out;rw [if_pos ⟨by omega,by simp;omega⟩] at e
  rwa [show decide (D<=dn+1)=decide ((D:Int)<=(dn:Int)+1) by simp only [decide_eq_decide];omega] at e
 ·rename_i hx
  refine ae rfl ?_;have e:=hfin2.out;rw [if_neg (fun ⟨e1,e2⟩=>hx ⟨by omega,by simp at e2;omega⟩)] at e
  rwa [show decide (D<=dn)=decide ((D:Int)<=(dn:Int)) by simp only [decide_eq_decide];omega] at e
theorem UM:dH 6=some (Lib.pow10Tab.map (AV.int .u64)):=by rfl
theorem SH:Tryz.prog.globalNamed "internal/strconv.uint64pow10" = some 6:=by kernel_rfl
theorem Y3 {n:Int} (hn:I64 n) (h:K (.str (Lib.itoa n)) L):Zx 138 [.int .i64 n,.int .i64 10] L K :=
 d6 Tryz.func138 rfl (by kernel_rfl) (fun w0 S0 E w vs hR hv=>by
  simp only [VRL,VR] at hv;obtain ⟨_,_,rfl,rfl,_,_,rfl,rfl,rfl⟩:=hv;refine (Tryz.strconv_FormatInt_10 n hn.1 hn.2 w (hR.table SH UM (by simp [Lib.pow10Tab]))).mono fun e w' ⟨he,k,os,hw⟩=>⟨_,he,by simp [VR],by subst hw;exact Dd.of_grow w k os⟩) h
theorem rx {w w':World} (h:RowKit.Below w.heap.size w w'):Dd w w':=⟨fun b hb=>h.block b hb,h.size,h.os,h.tape,h.output⟩
theorem PQ {w0:World} {S0:SB} {E:Env} {L:List Blk} {w:World} (hR:Rel w0 S0 E L w) {g:Nat} {t:TypeId} (hp:dH g=some [.iface t .undef]):∃ x,w.cell? ⟨g,0,none⟩=some (.iface t x):=by
 have hm:=ry hp;obtain ⟨v,h1,h2⟩:=(hR.glob.env hm).get (i:=0) (a:=.iface t .undef) rfl;simp only [VR] at h2;obtain ⟨x,rfl,_⟩:=h2;exact ⟨x,by simpa using hR.mem _ _ _ h1⟩
theorem UP {l:List UInt8} {n:Int} (hl:(l.length:Int)<=1100000) (hp:Lib.parseIntB 64 l=.ok n) (h:K (.tup [.int .i64 n,.nilif]) L):Zx 137 [.str l,.int .i64 10,.int .i64 64] L K :=
 d6 Tryz.func137 rfl (by kernel_rfl) (fun w0 S0 E w vs hR hv=>by
  simp only [VRL,VR] at hv;obtain ⟨_,_,rfl,rfl,_,_,rfl,rfl,_,_,rfl,rfl,rfl⟩:=hv;refine (Tryz.strconv_ParseInt_10_at64_ok ⟨⟨l⟩⟩ (show l.length<=_ by omega) n hp w).mono fun e w' ⟨he,hw⟩=>⟨_,he,by simp [VR,VRL],?_⟩
  rcases hw with rfl|⟨t,rfl⟩
  ·exact Dd.refl _
  ·exact rx (Lib.bytesWorld_below _ _ _)) h
theorem UQ {l:List UInt8} (hl:(l.length:Int)<=1100000) (hp:∀ n,Lib.parseIntB 64 l ≠ .ok n) (h:K (.tup [.int .i64 (MN l),.iface 252 .undef]) L):Zx 137 [.str l,.int .i64 10,.int .i64 64] L K :=
 d6 Tryz.func137 rfl (by kernel_rfl) (fun w0 S0 E w vs hR hv=>by
  simp only [VRL,VR] at hv;obtain ⟨_,_,rfl,rfl,_,_,rfl,rfl,_,_,rfl,rfl,rfl⟩:=hv
  match hq:Lib.parseIntB 64 l with
  | .ok n=>exact absurd hq (hp n)
  | .syntax =>
    obtain ⟨x,hx⟩:=PQ hR (g:=4) rfl;refine (Tryz.strconv_ParseInt_10_at64_syntax ⟨⟨l⟩⟩ (show l.length<=_ by omega) hq _ w hx (.inr ⟨_,_,rfl⟩)).mono fun e w' ⟨N,he,_,_,hw⟩=>⟨_,he,?_,rx hw⟩
    have e0:MN l=0:=by simp [MN,hq]
    rw [e0];simp [VR,VRL];exact ⟨_,_,⟨rfl,rfl⟩,rfl,_,rfl,_,rfl⟩
  | .range =>
    obtain ⟨x,hx⟩:=PQ hR (g:=5) rfl;refine (Tryz.strconv_ParseInt_10_at64_range ⟨⟨l⟩⟩ (show l.length<=_ by omega) hq _ w hx (.inr ⟨_,_,rfl⟩)).mono fun e w' ⟨N,he,_,_,hw⟩=>⟨_,he,?_,rx hw⟩
    have e0:MN l=Lib.intSat 64 l:=by simp [MN,hq]
    rw [e0];simp [VR,VRL];exact ⟨_,_,⟨rfl,rfl⟩,rfl,_,rfl,_,rfl⟩) h
theorem Pj {l:List UInt8} (hl:(l.length:Int)<=1100000) (h:K (.tup [.int .i64 (MN l),.bool (qH l)]) L):Zx 99 [.str l] L K:=by
 replace h:=hid h;refine ad GF (by simp [kX]) ?_;simp only [kX,aq];by_cases hp:∃ n,Lib.parseIntB 64 l=.ok n
 ·obtain ⟨n,hp⟩:=hp;have hr:=hid (Kb hp);have e1:=hid (show MN l=n by simp [MN,hp]);have e2:=hid (show qH l=decide (Lib.itoa n=l) by simp [qH,hp]);replace hp:=hid hp;have kk1:=@hid _ (fun L K=>UP hl hp.out (L:=L) (K:=K));have kk2:=@hid _ (fun L K=>Y3 hr.out (L:=L) (K:=K));refine wk ?_;refine aa ?_;have h:=h.out;rw [e1.out,e2.out] at h;exact h
 ·have hp':=hid (show ∀ n,Lib.parseIntB 64 l ≠ .ok n from fun n e=>hp ⟨n,e⟩);have e2:=hid (show qH l=false by
   unfold qH;split
   ·rename_i n hn;exact absurd ⟨n,hn⟩ hp
   ·rfl)
  clear hp;have kk1:=@hid _ (fun L K=>UQ hl hp'.out (L:=L) (K:=K));refine wk ?_;refine aa ?_;have h:=h.out;rw [e2.out] at h;exact h
theorem Q6:dH 0=some ((List.range 256).map fun c=>AV.int .u8 (Lib.firstT c:Int)):=by kernel_rfl
theorem P0:dH 1=some ((List.range 16).flatMap fun i=>[AV.int .u8 (Lib.accLo i:Int),AV.int .u8 (Lib.accHi i:Int)]):=by kernel_rfl
theorem Jf {w0:World} {S0:SB} {E:Env} {L:List Blk} {w:World} (hR:Rel w0 S0 E L w) {g i:Nat} {l:List AV} {k:IntKind} {z:Int} (hp:dH g=some l) (hi:l[i]?=some (.int k z)):w.cell? ⟨g,i,none⟩=some (.int k z):=by
 have hm:=ry hp;obtain ⟨v,h1,h2⟩:=(hR.glob.env hm).get (i:=i) (a:=.int k z) hi;simp only [VR] at h2;subst h2;simpa using hR.mem _ _ _ h1
theorem Sb {w0:World} {S0:SB} {E:Env} {L:List Blk} {w:World} (hR:Rel w0 S0 E L w):Lib.Utf8Tabs 0 1 w:=by
 refine ⟨fun c hc=>Jf hR Q6 ?_,fun i hi=>⟨Jf hR P0 ?_,Jf hR P0 ?_⟩⟩
 ·simp [hc]
 ·have:∀ i:_root_.Fin 16,((List.range 16).flatMap fun i=>[AV.int .u8 (Lib.accLo i:Int),AV.int .u8 (Lib.accHi i:Int)])[2 * i.val]?=some (.int .u8 (Lib.accLo i.val:Int)):=fun i=>by
   match i with
   | ⟨0,_⟩|⟨1,_⟩|⟨2,_⟩|⟨3,_⟩|⟨4,_⟩|⟨5,_⟩|⟨6,_⟩|⟨7,_⟩|⟨8,_⟩|⟨9,_⟩|⟨10,_⟩|⟨11,_⟩|⟨12,_⟩|⟨13,_⟩|⟨14,_⟩|⟨15,_⟩=>rfl
   | ⟨n+16,h⟩=>omega
  exact this ⟨i,hi⟩
 ·have:∀ i:_root_.Fin 16,((List.range 16).flatMap fun i=>[AV.int .u8 (Lib.accLo i:Int),AV.int .u8 (Lib.accHi i:Int)])[2 * i.val+1]?=some (.int .u8 (Lib.accHi i.val:Int)):=fun i=>by
   match i with
   | ⟨0,_⟩|⟨1,_⟩|⟨2,_⟩|⟨3,_⟩|⟨4,_⟩|⟨5,_⟩|⟨6,_⟩|⟨7,_⟩|⟨8,_⟩|⟨9,_⟩|⟨10,_⟩|⟨11,_⟩|⟨12,_⟩|⟨13,_⟩|⟨14,_⟩|⟨15,_⟩=>rfl
   | ⟨n+16,h⟩=>omega
  exact this ⟨i,hi⟩
theorem Di {l:List UInt8} (hl:l.length<=1100000) (h:K (.bool (Lib.validD l)) L):Zx 96 [.str l] L K :=
 d6 Tryz.func96 rfl (by kernel_rfl) (fun w0 S0 E w vs hR hv=>by
  simp only [VRL,VR] at hv;obtain ⟨_,_,rfl,rfl,rfl⟩:=hv;exact (Any.utf8_ValidString Tryz.lays196 ⟨⟨l⟩⟩ w (show l.length<=_ by omega) (Sb hR)).mono fun e w' ⟨he,hw⟩=>⟨_,he,by simp [VR],rx hw⟩) h
theorem Lb {a b:List UInt8} {L:List Blk} {K:Zy} (h:K (.int .i64 (Lib.compareBytes a b)) L):Zx 126 [.str a,.str b] L K :=
 d6 Tryz.func126 rfl (by kernel_rfl) (fun w0 S0 E w vs hR hv=>by
  simp only [VRL,VR] at hv;obtain ⟨_,_,rfl,rfl,_,_,rfl,rfl,rfl⟩:=hv;exact (Tryz.strings_Compare ⟨⟨a⟩⟩ ⟨⟨b⟩⟩ w).mono fun e w' ⟨he,hw⟩=>⟨_,he,by simp [VR],by subst hw;exact Dd.refl _⟩) h
abbrev V4:List UInt8:=[84,82,85,69]
abbrev Rh:List UInt8:=[70,65,76,83,69]
def vQ (syn:Int) (v:List UInt8):Option (List UInt8) :=
 if syn=1 then (if v=[] then none else if Lib.validD v=true then some (bD v) else none)
 else if syn=2 then (if v=[] then none else if Lib.validD v=true then some v else none)
 else if syn=3 then (if DI v=true then some (bD v) else none)
 else if syn=4 then (if qH v=true then some v else none)
 else if syn=5 then (if v=V4\/v=Rh then some v else none)
 else if syn=6 then (if (CD v).2=0 then some (CD v).1 else none)
 else if syn=7 then some v
 else if syn=8 then (if zZ v=true then some v else none)
 else none
def cW (syn:Int) (v:List UInt8):Option (List UInt8):=if 4096<v.length then none else vQ syn v
def Lz:Option (List UInt8)->AV
 | some n=>.tup [.str n,.bool true]
 | none=>.tup [.str [],.bool false]
theorem Gs {syn:Int} {v:List UInt8} (h:K (Lz (cW syn v)) L):Zx 48 [.int .i64 syn,.str v] L K:=by
 unfold cW at h;refine ad Jr (by simp [nK]) ?_;simp only [nK,aq];by_cases hl:4096<v.length
 ·have f1:(4096:Int)<(v.length:Int):=by omega
  rw [if_pos hl] at h;replace h:=hid h;clear hl;refine wk ?_;exact aa h.out
 have f1:¬ (4096:Int)<(v.length:Int):=by omega
 rw [if_neg hl] at h;have vl1:v.length<=1100000:=by omega
 have vl2:(v.length:Int)<=100000:=by omega
 have vl3:(v.length:Int)<=1100000:=by omega
 unfold vQ at h;clear hl;by_cases s1:syn=1
 ·subst s1;rw [if_pos rfl] at h;by_cases hv:v=[]
  ·rw [if_pos hv] at h;replace h:=hid h;subst hv;have kk1:=@hid _ (fun L K=>rj vl2 (L:=L) (K:=K));have kk2:=@hid _ (fun L K=>Di vl1 (L:=L) (K:=K));refine wk ?_;exact aa h.out
  ·rw [if_neg hv] at h;cases hd:Lib.validD v with
   | true =>
     rw [hd,if_pos rfl] at h;replace h:=hid h;have kk1:=@hid _ (fun L K=>rj vl2 (L:=L) (K:=K));have kk2:=@hid _ (fun L K=>Di vl1 (L:=L) (K:=K));refine wk ?_;exact aa h.out
   | false =>
     rw [hd,if_neg (by simp)] at h;replace h:=hid h;have kk1:=@hid _ (fun L K=>rj vl2 (L:=L) (K:=K));have kk2:=@hid _ (fun L K=>Di vl1 (L:=L) (K:=K));refine wk ?_;exact aa h.out
 rw [if_neg s1] at h;by_cases s2:syn=2
 ·subst s2;rw [if_pos rfl] at h;by_cases hv:v=[]
  ·rw [if_pos hv] at h;replace h:=hid h;have kk1:=@hid _ (fun L K=>Di vl1 (L:=L) (K:=K));refine wk ?_;exact aa h.out
  ·rw [if_neg hv] at h;cases hd:Lib.validD v with
   | true =>
     rw [hd,if_pos rfl] at h;replace h:=hid h;have kk1:=@hid _ (fun L K=>Di vl1 (L:=L) (K:=K));refine wk ?_;exact aa h.out
   | false =>
     rw [hd,if_neg (by simp)] at h;replace h:=hid h;have kk1:=@hid _ (fun L K=>Di vl1 (L:=L) (K:=K));refine wk ?_;exact aa h.out
 rw [if_neg s2] at h;by_cases s3:syn=3
 ·subst s3;rw [if_pos rfl] at h;replace h:=hid h;have kk1:=@hid _ (fun L K=>rj vl2 (L:=L) (K:=K));refine wk ?_;refine Vi vl1 (fun e=>?_) (fun k e=>?_)
  ·have h':=h.out;rw [if_pos e] at h';replace h':=hid h';refine sk ?_;refine wk ?_;exact aa h'.out
  ·have h':=h.out;rw [if_neg (by rw [e];simp)] at h';replace h':=hid h';have k0:¬ (k:Int)<0:=by omega
   refine sk ?_;refine wk ?_;exact aa h'.out
 rw [if_neg s3] at h;by_cases s4:syn=4
 ·subst s4;rw [if_pos rfl] at h;cases hd:qH v with
  | true =>
    rw [hd,if_pos rfl] at h;replace h:=hid h;have kk1:=@hid _ (fun L K=>Pj vl3 (L:=L) (K:=K));refine wk ?_;exact aa h.out
  | false =>
    rw [hd,if_neg (by simp)] at h;replace h:=hid h;have kk1:=@hid _ (fun L K=>Pj vl3 (L:=L) (K:=K));refine wk ?_;exact aa h.out
 rw [if_neg s4] at h;by_cases s5:syn=5
 ·subst s5;rw [if_pos rfl] at h;by_cases t1:v=V4
  ·rw [if_pos (.inl t1)] at h;replace h:=hid h;have c1:(decide (v=[84,82,85,69]):Bool)=true:=decide_eq_true t1;subst t1;refine wk ?_;exact aa h.out
  ·by_cases t2:v=Rh
   ·rw [if_pos (.inr t2)] at h;replace h:=hid h;subst t2;have t3:¬ ([70,65,76,83,69]:List UInt8)=[84,82,85,69]:=by decide
    clear t1;refine wk ?_;exact aa h.out
   ·rw [if_neg (fun e=>e.elim t1 t2)] at h;replace h:=hid h;refine wk ?_;exact aa h.out
 rw [if_neg s5] at h;by_cases s6:syn=6
 ·subst s6;rw [if_pos rfl] at h;obtain ⟨⟨k,e⟩,hk⟩:∃ p,CD v=p:=⟨_,rfl⟩;rw [hk] at h;simp only at h;by_cases he:e=0
  ·subst he;rw [if_pos rfl] at h;replace h:=hid h;refine wk ?_;refine XF ?_;rw [hk];simp only [oa];refine sk ?_;refine wk ?_;exact aa h.out
  ·rw [if_neg he] at h;replace h:=hid h;refine wk ?_;refine XF ?_;rw [hk];simp only [oa];refine sk ?_;refine wk ?_;exact aa h.out
 rw [if_neg s6] at h;by_cases s7:syn=7
 ·subst s7;rw [if_pos rfl] at h;replace h:=hid h;refine wk ?_;exact aa h.out
 rw [if_neg s7] at h;by_cases s8:syn=8
 ·subst s8;rw [if_pos rfl] at h;cases hd:zZ v with
  | true =>
    rw [hd,if_pos rfl] at h;replace h:=hid h;have kk1:=@hid _ (fun L K=>Pm vl1 (L:=L) (K:=K));refine wk ?_;exact aa h.out
  | false =>
    rw [hd,if_neg (by simp)] at h;replace h:=hid h;have kk1:=@hid _ (fun L K=>Pm vl1 (L:=L) (K:=K));refine wk ?_;exact aa h.out
 rw [if_neg s8] at h;replace h:=hid h;refine wk ?_;exact aa h.out
theorem SP {syn:Int} {v x:List UInt8} (h:cW syn v=some x):v.length<=4096:=by
 unfold cW at h;split at h
 ·cases h
 ·omega
theorem OJ:∀ a b:List UInt8,Lib.compareBytes a b=if a<b then -1 else if b<a then 1 else 0
 | [],[]=>by simp [Lib.compareBytes]
 | [],b::bs=>by simp [Lib.compareBytes]
 | a::xs,[]=>by simp [Lib.compareBytes]
 | a::xs,b::bs=>by
   rw [Lib.compareBytes,OJ xs bs];simp only [List.cons_lt_cons_iff];by_cases h1:a<b
   ·rw [if_pos h1,if_pos (.inl h1)]
   ·rw [if_neg h1];by_cases h2:b<a
    ·rw [if_pos h2,if_neg,if_pos (.inl h2)];rintro (e|⟨e,_⟩)
     ·exact h1 e
     ·subst e;exact h1 h2
    ·rw [if_neg h2];have e:a=b:=by
      rcases Nat.lt_trichotomy a.toNat b.toNat with h|h|h
      ·exact absurd h h1
      ·exact abb.1 h
      ·exact absurd h h2
     subst e;simp
end Go.Proofs.YtcmfcpjnhephaaaGreatDoor.Av
