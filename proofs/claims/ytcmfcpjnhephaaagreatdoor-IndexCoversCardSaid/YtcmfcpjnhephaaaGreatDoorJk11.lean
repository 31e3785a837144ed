/- Joined texts of the walk, made small by a program. -/
import Derived.Test.YtcmfcpjnhephaaaGreatDoorJk4
import Derived.Test.YtcmfcpjnhephaaaGreatDoorRows
import Derived.KernelRfl
import Derived.Test.YtcmfcpjnhephaaaGreatDoorJk9
import Derived.Test.YtcmfcpjnhephaaaGreatDoorJk6
import Derived.Test.YtcmfcpjnhephaaaGreatDoorJk5
import Derived.Sort.Walk0
import Derived.Test.YtcmfcpjnhephaaaGreatDoorJk10
set_option linter.unusedSimpArgs false
set_option linter.unusedVariables false
set_option maxRecDepth 100000
namespace Go.Proofs.YtcmfcpjnhephaaaGreatDoor.Av
open Go
def nu:LSO:=[A3 1 0,Ae 2]
def nr:LSO:=[Ac 10 1 1,Ap 11 10,AC 12 11 15,Aa 13 12,.grp none 13 false
 [AB 14 13 1 1,BQ 15 13 14 14,og 16 13 false (.bin .neq (tm 15) (.av (.int .u8 90)))]
 17 (tm 16)]
def nq:LSO:=[Ae 2]
def np:LSO:=[Ac 18 1 1,o1 19 (.slS (tm 18) none (some (iv 14))),o1 20 (.s2b (tm 19)),Ai 21 20,Ab 22 0]
def nl:LSO:=[Aj 23 22 21]
def nk:LSO:=[Am 24 1 20 22,Ac 25 1 24,Aa 4 25]
def nj:LSO:=[Aa 26 4,o1 27 (.bin .lss (tm 26) (.av (.int .u8 48))),Aa 28 27,.grp none 28 false
 [Ag 29 28 4,og 30 28 false (.bin .gtr (tm 29) (.av (.int .u8 57)))]
 31 (tm 30)]
def ni:LSO:=[Ae 2]
def nh:LSO:=[Ah 32 22 1,Aa 22 32]
def ng:LSO:=[o1 33 (.mkfn 141 [(tm 1)]),Aa 5 33]
def mB:LSO:=[Aa 34 5,B4 35 34 0,o1 36 (.bin .mul (tm 35) (iv 100)),Aa 37 5,B4 38 37 2,AE 39 36 38,Aa 40 5,B4 41 40 4,Aa 42 5,B4 43 42 6,Aa 6 39,Aa 7 41,Aa 8 43]
def mA:LSO:=[Aa 44 7,AK 45 44 1,Aa 46 45,.grp none 46 false
 [Ag 47 46 7,A8 48 46 47 12]
 49 (tm 48),Aa 50 49,.grp none 50 false
 [Ag 51 50 8,BR 52 50 51 1]
 53 (tm 52),Aa 54 53,.grp none 54 false
 [Ag 55 54 5,BS 56 54 55 8,A8 57 54 56 23]
 58 (tm 57),Aa 59 58,.grp none 59 false
 [Ag 60 59 5,BS 61 59 60 10,A8 62 59 61 59]
 63 (tm 62),Aa 64 63,.grp none 64 false
 [Ag 65 64 5,BS 66 64 65 12,A8 67 64 66 59]
 68 (tm 67)]
def mz:LSO:=[Ae 2]
def my:LSO:=[Aa 69 7,Bd 70 69 1,o1 71 (.iaddrA 12 1 (.av (.gptr 2 0)) (tm 70)),Ac 72 1 71,Aa 9 72]
def mw:LSO:=[Aa 73 7,Au 74 73 2,Aa 75 74,.grp none 75 true
 [Af 76 75 6,B5 77 75 76 4,Bp 78 75 77 0,Af 79 75 78,.grp (some (75,true)) 79 true
 [Af 80 79 6,B5 81 79 80 100,BT 82 79 81 0]
 83 (tm 82),Af 84 75 83,.grp (some (75,true)) 84 false
 [Ag 85 84 6,og 86 84 false (.bin .rem (tm 85) (iv 400)),AA 87 84 86 0]
 88 (tm 87)]
 89 (tm 88)]
def mu:LSO:=[Aa 90 9,Ah 91 90 1,Aa 9 91]
def mt:LSO:=[Aa 92 8,Aa 93 9,B6 94 92 93,Aa 2 94]
def lm:be:=⟨95,(.seq (.sreg nu [])
 (.seq (.seq (.sreg nr Ck)
 (.cond (tm 17) (.seq (.sreg nq [])
 .ret)
 .skip))
 (.seq (.seq (.sreg np C3)
 (.block 0 (.loop (.seq (.sreg nl [])
 (.seq (.cond (tm 23) .skip
 (.exit 0))
 (.seq (.block 1 (.seq (.sreg nk Ci)
 (.seq (.sreg nj Cj)
 (.cond (tm 31) (.seq (.sreg ni [])
 .ret)
 .skip))))
 (.sreg nh Ch)))))))
 (.seq (.sreg ng Ch)
 (.seq (.sreg mB [true,true,true,false,false,false,false,false,false,false,false,false,false])
 (.seq (.seq (.sreg mA C0)
 (.cond (tm 68) (.seq (.sreg mz [])
 .ret)
 .skip))
 (.seq (.sreg my Ck)
 (.seq (.seq (.sreg mw Cj)
 (.cond (tm 89) (.sreg mu Ci)
 .skip))
 (.seq (.sreg mt Cj)
 .ret))))))))),[(.tmp 2)]⟩
attribute [push_cast] nu nr nq np nl nk nj ni nh ng mB mA mz my mw mu mt
theorem Ie:br Tryz.prog (fun _ _=>1) 101=some lm.raw:=by kernel_rfl
def lv:LSO:=[Ab 3 0]
def lu:LSO:=[Ac 4 1 1,Aa 5 0,A6 6 4 5,B7 7 6,Bh 8 7,o1 9 (.bin .mul (tm 8) (iv 10)),Ac 10 1 1,Aa 11 0,Ah 12 11 1,A6 13 10 12,B7 14 13,Bh 15 14,AE 16 9 15,
 Aa 3 16]
def gK:be:=⟨17,(.seq (.sreg lv [])
 (.seq (.sdreg lu [(.read 0 0),.pure,(.read 0 0),.pure,.pure,.pure,(.read 0 0),.pure,.pure,(.read 0 0),.pure,.pure] [true,false,false,false,false,false,false,false,false,false,false,false,false,false])
 .ret)),[(.tmp 3)]⟩
attribute [push_cast] lv lu
theorem Er:br Tryz.prog (fun _ _=>1) 141=some gK.raw:=by kernel_rfl
def nf:LSO:=[Ab 2 0,Ae 3]
def nb:LSO:=[Aa 7 0,o1 8 (.call 137 [(tm 7),(iv 10),(iv 64)]),Aa 6 8,Ar 9 6,Aw 10 6,Aa 4 9,Aa 5 10]
def na:LSO:=[Aa 11 4,Aa 12 5,o1 13 (.eqk false .iface (tm 12) (.av .nilif)),Aa 14 13,.grp none 14 true
 [Af 15 14 4,og 16 14 true (.call 138 [(tm 15),(iv 10)]),Af 17 14 0,og 18 14 true (.bin .eql (tm 16) (tm 17))]
 19 (tm 18),Aa 2 11,Aa 3 19]
def ll:be:=⟨20,(.seq (.sreg nf [])
 (.seq (.sreg nb Cw)
 (.seq (.sreg na Cw)
 .ret))),[(.tmp 2),(.tmp 3)]⟩
attribute [push_cast] nf nb na
theorem Ic:br Tryz.prog (fun _ _=>1) 99=some ll.raw:=by kernel_rfl
def nw:LSO:=[Ae 2]
def nv:LSO:=[Aa 3 0,o1 4 (.bin .geq (tm 3) (.av (.int .i32 128))),Aa 2 4]
def ln:be:=⟨5,(.seq (.sreg nw [])
 (.seq (.sreg nv Ci)
 .ret)),[(.tmp 2)]⟩
attribute [push_cast] nw nv
theorem If:br Tryz.prog (fun _ _=>1) 98=some ln.raw:=by kernel_rfl
def ia:LSO:=[Ab 4 0]
def hZ:LSO:=[Aa 5 0,Aa 6 1,o1 7 (.call 136 [(tm 5),(tm 6),(.av (.bool true))]),Aa 4 7]
def eY:be:=⟨8,(.seq (.sreg ia [])
 (.seq (.sreg hZ Cj)
 .ret)),[(.tmp 4)]⟩
attribute [push_cast] ia hZ
theorem sF:br Tryz.prog (fun _ _=>1) 97=some eY.raw:=by kernel_rfl
def hU:LSO:=[Ab 6 0]
def hP:LSO:=[Aa 9 0,o1 10 (.rangeS (tm 9))]
def hG:LSO:=[o1 11 (.nextS (tm 10)),Ar 12 11]
def gZ:LSO:=[Aw 13 11,Be 14 11,Aa 7 13,Aa 8 14]
def gY:LSO:=[Aa 15 1,Aa 16 8,Bo 17 15 16,Aa 18 2,o1 19 (.eqk false .bool (tm 17) (tm 18))]
def gX:LSO:=[Aa 20 7,Aa 6 20]
def gW:LSO:=[Ab 6 (-1)]
def eX:be:=⟨21,(.seq (.sreg hU [])
 (.seq (.seq (.sreg hP Ch)
 (.block 0 (.loop (.seq (.sreg hG [])
 (.seq (.cond (tm 12) .skip
 (.exit 0))
 (.block 1 (.seq (.sreg gZ Cs)
 (.seq (.sreg gY Ck)
 (.cond (tm 19) (.seq (.sreg gX Ch)
 .ret)
 .skip)))))))))
 (.seq (.sreg gW [])
 .ret))),[(.tmp 6)]⟩
attribute [push_cast] hU hP hG gZ gY gX gW
theorem sE:br Tryz.prog (fun _ _=>1) 136=some eX.raw:=by kernel_rfl
def F9:LSO:=[Ae 2]
def F8:LSO:=[Aa 7 0,Ap 8 7,A0 9 8 0]
def F7:LSO:=[Aa 10 0,B8 11 10 0,Bh 12 11,Aa 3 12]
def F6:LSO:=[Ab 4 1]
def F5:LSO:=[Aa 13 3,Bf 14 13 240]
def F4:LSO:=[Ab 4 4]
def F3:LSO:=[Aa 15 3,Bd 16 15 240,Aa 3 16]
def F2:LSO:=[Aa 17 3,Bf 18 17 224]
def F1:LSO:=[Ab 4 3]
def F0:LSO:=[Aa 19 3,Bd 20 19 224,Aa 3 20]
def yW:LSO:=[Aa 21 3,Bf 22 21 192]
def yV:LSO:=[Ab 4 2]
def yU:LSO:=[Aa 23 3,Bd 24 23 192,Aa 3 24]
def yT:LSO:=[Aa 25 3,Bf 26 25 128]
def yS:LSO:=[Ae 2]
def yR:LSO:=[Aa 27 0,Ap 28 27,Aa 29 4,Aj 30 28 29]
def yQ:LSO:=[Ae 2]
def yP:LSO:=[Ab 5 1]
def yO:LSO:=[Aa 31 5,Aa 32 4,Aj 33 31 32]
def yN:LSO:=[Aa 36 0,Aa 37 5,A6 38 36 37,Bh 39 38,Aa 6 39]
def yM:LSO:=[Aa 40 6,AK 41 40 128,Aa 42 41,.grp none 42 false
 [Ag 43 42 6,B9 44 42 43 192]
 45 (tm 44)]
def yL:LSO:=[Ae 2]
def yK:LSO:=[Aa 46 3,o1 47 (.bin .mul (tm 46) (iv 64)),Aa 48 6,AE 49 47 48,Bd 50 49 128,Aa 3 50]
def yJ:LSO:=[Aa 34 5,Ah 35 34 1,Aa 5 35]
def yI:LSO:=[Aa 51 4,Au 52 51 2,Aa 53 52,.grp none 53 true
 [Af 54 53 3,Bq 55 53 54 128]
 56 (tm 55),Aa 57 56,.grp none 57 false
 [Ag 58 57 4,AA 59 57 58 3,Ag 60 57 59,.grp (some (57,false)) 60 true
 [Af 61 60 3,Bq 62 60 61 2048]
 63 (tm 62)]
 64 (tm 63),Aa 65 64,.grp none 65 false
 [Ag 66 65 4,AA 67 65 66 4,Ag 68 65 67,.grp (some (65,false)) 68 true
 [Af 69 68 3,Bq 70 68 69 65536]
 71 (tm 70)]
 72 (tm 71),Aa 73 72,.grp none 73 false
 [Ag 74 73 3,A8 75 73 74 1114111]
 76 (tm 75),Aa 77 76,.grp none 77 false
 [Ag 78 77 3,B9 79 77 78 55296,Ag 80 77 79,.grp (some (77,false)) 80 true
 [Af 81 80 3,Bq 82 80 81 57344]
 83 (tm 82)]
 84 (tm 83)]
def yH:LSO:=[Ae 2]
def yG:LSO:=[Aa 85 0,Aa 86 4,BA 87 85 86,Aa 0 87]
def yF:LSO:=[Ax 2]
def Ex:be:=⟨88,(.seq (.sreg F9 [])
 (.seq (.block 0 (.loop (.seq (.seq (.sreg F8 Ci)
 (.cond (tm 9) .skip
 (.exit 0)))
 (.block 1 (.seq (.sreg F7 Cj)
 (.seq (.sreg F6 [])
 (.seq (.seq (.sreg F5 Ch)
 (.cond (tm 14) (.seq (.sreg F4 [])
 (.sreg F3 Ci))
 (.seq (.sreg F2 Ch)
 (.cond (tm 18) (.seq (.sreg F1 [])
 (.sreg F0 Ci))
 (.seq (.sreg yW Ch)
 (.cond (tm 22) (.seq (.sreg yV [])
 (.sreg yU Ci))
 (.seq (.sreg yT Ch)
 (.cond (tm 26) (.seq (.sreg yS [])
 .ret)
 .skip))))))))
 (.seq (.seq (.sreg yR Cj)
 (.cond (tm 30) (.seq (.sreg yQ [])
 .ret)
 .skip))
 (.seq (.seq (.sreg yP [])
 (.block 2 (.loop (.seq (.seq (.sreg yO Ci)
 (.cond (tm 33) .skip
 (.exit 2)))
 (.seq (.block 3 (.seq (.sreg yN Ck)
 (.seq (.seq (.sreg yM Cj)
 (.cond (tm 45) (.seq (.sreg yL [])
 .ret)
 .skip))
 (.sreg yK Cl))))
 (.sreg yJ Ci))))))
 (.seq (.seq (.sreg yI C0)
 (.cond (tm 84) (.seq (.sreg yH [])
 .ret)
 .skip))
 (.sreg yG Cj)))))))))))
 (.seq (.sreg yF [])
 .ret))),[(.tmp 2)]⟩
attribute [push_cast] F9 F8 F7 F6 F5 F4 F3 F2 F1 F0 yW yV yU yT yS yR yQ yP yO yN yM yL yK yJ yI yH yG yF
theorem NW:br Tryz.prog (fun _ _=>1) 89=some Ex.raw:=by kernel_rfl
def pE:LSO:=[Ae 2]
def pD:LSO:=[Ab 3 0]
def pB:LSO:=[Aa 4 3,Aa 5 0,Ap 6 5,Aj 7 4 6]
def pA:LSO:=[Aa 10 0,Aa 11 3,A6 12 10 11,o1 13 (.bin .lss (tm 12) (.av (.int .u8 48))),Aa 14 13,.grp none 14 false
 [Ag 15 14 0,Ag 16 14 3,Bi 17 14 15 16,og 18 14 false (.bin .gtr (tm 17) (.av (.int .u8 57)))]
 19 (tm 18)]
def pz:LSO:=[Ae 2]
def py:LSO:=[Aa 8 3,Ah 9 8 1,Aa 3 9]
def pw:LSO:=[Aa 20 0,Ap 21 20,A0 22 21 0,Aa 2 22]
def mS:be:=⟨23,(.seq (.sreg pE [])
 (.seq (.seq (.sreg pD [])
 (.block 0 (.loop (.seq (.seq (.sreg pB Cj)
 (.cond (tm 7) .skip
 (.exit 0)))
 (.seq (.block 1 (.seq (.sreg pA Cl)
 (.cond (tm 19) (.seq (.sreg pz [])
 .ret)
 .skip)))
 (.sreg py Ci))))))
 (.seq (.sreg pw Cj)
 .ret))),[(.tmp 2)]⟩
attribute [push_cast] pE pD pB pA pz py pw
theorem Kv:br Tryz.prog (fun _ _=>1) 130=some mS.raw:=by kernel_rfl
def pg:LSO:=[Ae 2]
def pf:LSO:=[Aa 4 0,o1 5 (.bin .eql (tm 4) (.av (.str [48])))]
def o9:LSO:=[Ax 2]
def o8:LSO:=[o1 3 (.mv (.av (.str [57,50,50,51,51,55,50,48,51,54,56,53,52,55,55,53,56,48,55])))]
def o7:LSO:=[Aa 6 0,Ap 7 6,A0 8 7 0,Aa 9 8,.grp none 9 true
 [Af 10 9 0,og 11 9 true (.idxS (tm 10) (iv 0)),og 12 9 true (.bin .eql (tm 11) (.av (.int .u8 45)))]
 13 (tm 12)]
def o6:LSO:=[Aa 14 0,o1 15 (.slS (tm 14) (some (iv 1)) none),Aa 0 15]
def o5:LSO:=[o1 3 (.mv (.av (.str [57,50,50,51,51,55,50,48,51,54,56,53,52,55,55,53,56,48,56])))]
def o4:LSO:=[Aa 16 0,Ak 17 130 16,Aa 18 17,.grp none 18 true
 [Af 19 18 0,og 20 18 true (.idxS (tm 19) (iv 0)),og 21 18 true (.bin .neq (tm 20) (.av (.int .u8 48)))]
 22 (tm 21),Aa 23 22,.grp none 23 true
 [Af 24 23 0,BB 25 23 24,Bq 26 23 25 19,Af 27 23 26,.grp (some (23,true)) 27 false
 [Ag 28 27 0,Bg 29 27 28,AA 30 27 29 19,Ag 31 27 30,.grp (some (27,false)) 31 true
 [Af 32 31 0,Af 33 31 3,og 34 31 true (.bin .leq (tm 32) (tm 33))]
 35 (tm 34)]
 36 (tm 35)]
 37 (tm 36),Aa 2 37]
def mQ:be:=⟨38,(.seq (.sreg pg [])
 (.seq (.seq (.sreg pf Ch)
 (.cond (tm 5) (.seq (.sreg o9 [])
 .ret)
 .skip))
 (.seq (.sreg o8 [])
 (.seq (.seq (.sreg o7 Ck)
 (.cond (tm 13) (.seq (.sreg o6 Ci)
 (.sreg o5 []))
 .skip))
 (.seq (.sreg o4 Co)
 .ret))))),[(.tmp 2)]⟩
attribute [push_cast] pg pf o9 o8 o7 o6 o5 o4
theorem Kt:br Tryz.prog (fun _ _=>1) 91=some mQ.raw:=by kernel_rfl
def Gg:LSO:=[Ab 2 0]
def Gf:LSO:=[Ab 3 0]
def Ge:LSO:=[Ab 4 0]
def Gd:LSO:=[Aa 5 4,Aa 6 0,Ap 7 6,Aj 8 5 7]
def Gc:LSO:=[Aa 11 3,o1 12 (.bin .mul (iv 10) (tm 11)),Aa 13 0,Aa 14 4,A6 15 13 14,B7 16 15,Bh 17 16,AE 18 12 17,Aa 3 18]
def Gb:LSO:=[Aa 9 4,Ah 10 9 1,Aa 4 10]
def Ga:LSO:=[Aa 19 3,Aa 2 19]
def Ey:be:=⟨20,(.seq (.sreg Gg [])
 (.seq (.sreg Gf [])
 (.seq (.seq (.sreg Ge [])
 (.block 0 (.loop (.seq (.seq (.sreg Gd Cj)
 (.cond (tm 8) .skip
 (.exit 0)))
 (.seq (.block 1 (.sreg Gc Cu))
 (.sreg Gb Ci))))))
 (.seq (.sreg Ga Ch)
 .ret)))),[(.tmp 2)]⟩
attribute [push_cast] Gg Gf Ge Gd Gc Gb Ga
theorem NX:br Tryz.prog (fun _ _=>1) 133=some Ey.raw:=by kernel_rfl
def pu:LSO:=[Ae 2]
def pt:LSO:=[Aa 7 0,Ap 8 7,AC 9 8 15,Aa 10 9,.grp none 10 false
 [Ag 11 10 0,og 12 10 false (.slS (tm 11) none (some (iv 14))),AL 13 10 130 12,AU 14 10 13]
 15 (tm 14),Aa 16 15,.grp none 16 false
 [Ag 17 16 0,BQ 18 16 17 14,og 19 16 false (.bin .neq (tm 18) (.av (.int .u8 90)))]
 20 (tm 19)]
def pq:LSO:=[Ae 2]
def pp:LSO:=[Aa 21 0,o1 22 (.slS (tm 21) none (some (iv 4))),Ak 23 133 22,Aa 24 0,o1 25 (.slS (tm 24) (some (iv 4)) (some (iv 6))),Ak 26 133 25,Aa 27 0,
 o1 28 (.slS (tm 27) (some (iv 6)) (some (iv 8))),Ak 29 133 28,Aa 3 23,Aa 4 26,Aa 5 29]
def po:LSO:=[Aa 30 4,AK 31 30 1,Aa 32 31,.grp none 32 false
 [Ag 33 32 4,A8 34 32 33 12]
 35 (tm 34),Aa 36 35,.grp none 36 false
 [Ag 37 36 5,BR 38 36 37 1]
 39 (tm 38),Aa 40 39,.grp none 40 false
 [Ag 41 40 0,BU 42 40 41 8 10,AL 43 40 133 42,A8 44 40 43 23]
 45 (tm 44),Aa 46 45,.grp none 46 false
 [Ag 47 46 0,BU 48 46 47 10 12,AL 49 46 133 48,A8 50 46 49 59]
 51 (tm 50),Aa 52 51,.grp none 52 false
 [Ag 53 52 0,BU 54 52 53 12 14,AL 55 52 133 54,A8 56 52 55 59]
 57 (tm 56)]
def pn:LSO:=[Ae 2]
def pl:LSO:=[Ab 6 31]
def pj:LSO:=[Aa 58 4,Au 59 58 4,Aa 60 59,.grp none 60 false
 [Ag 61 60 4,AA 62 60 61 6]
 63 (tm 62),Aa 64 63,.grp none 64 false
 [Ag 65 64 4,AA 66 64 65 9]
 67 (tm 66),Aa 68 67,.grp none 68 false
 [Ag 69 68 4,AA 70 68 69 11]
 71 (tm 70)]
def pi:LSO:=[Ab 6 30]
def ph:LSO:=[Aa 72 4,Au 73 72 2]
def nA:LSO:=[Ab 6 28]
def nz:LSO:=[Aa 74 3,o1 75 (.bin .rem (tm 74) (iv 400)),Au 76 75 0,Aa 77 76,.grp none 77 false
 [Ag 78 77 3,og 79 77 false (.bin .rem (tm 78) (iv 4)),AA 80 77 79 0,Ag 81 77 80,.grp (some (77,false)) 81 true
 [Af 82 81 3,B5 83 81 82 100,BT 84 81 83 0]
 85 (tm 84)]
 86 (tm 85)]
def ny:LSO:=[Ab 6 29]
def nx:LSO:=[Aa 87 5,Aa 88 6,B6 89 87 88,Aa 2 89]
def mR:be:=⟨90,(.seq (.sreg pu [])
 (.seq (.seq (.sreg pt Co)
 (.cond (tm 20) (.seq (.sreg pq [])
 .ret)
 .skip))
 (.seq (.sdreg pp [.pure,(.read 0 0),(.read 0 0),.pure,(.read 0 0),(.read 0 0),.pure,(.read 0 0)] CF)
 (.seq (.seq (.sreg po C0)
 (.cond (tm 57) (.seq (.sreg pn [])
 .ret)
 .skip))
 (.seq (.sreg pl [])
 (.seq (.seq (.sreg pj Cr)
 (.cond (tm 71) (.sreg pi [])
 .skip))
 (.seq (.seq (.sreg ph Ch)
 (.cond (tm 73) (.seq (.sreg nA [])
 (.seq (.sreg nz Ck)
 (.cond (tm 86) (.sreg ny [])
 .skip)))
 .skip))
 (.seq (.sreg nx Cj)
 .ret)))))))),[(.tmp 2)]⟩
attribute [push_cast] pu pt pq pp po pn pl pj pi ph nA nz ny nx
theorem Ku:br Tryz.prog (fun _ _=>1) 93=some mR.raw:=by kernel_rfl
def zk:LSO:=[An 4,Ae 5]
def zj:LSO:=[Aa 9 1,Ap 10 9,A0 11 10 4096]
def zi:LSO:=[An 4,Ae 5]
def zh:LSO:=[Aa 12 0]
def zg:LSO:=[Au 14 12 1,Aa 13 14]
def zf:LSO:=[Aa 15 1,Ap 16 15,A0 17 16 0,Aa 18 17,.grp none 18 true
 [Af 19 18 1,AX 20 18 89 19]
 21 (tm 20)]
def ze:LSO:=[Aa 22 1,Ak 23 90 22,Aa 4 23,Ax 5]
def zd:LSO:=[Au 25 12 2,Aa 24 25]
def zc:LSO:=[Aa 26 1,Ap 27 26,A0 28 27 0,Aa 29 28,.grp none 29 true
 [Af 30 29 1,AX 31 29 89 30]
 32 (tm 31)]
def zb:LSO:=[Aa 33 1,Aa 4 33,Ax 5]
def uL:LSO:=[Au 35 12 3,Aa 34 35]
def uK:LSO:=[Ab 6 0]
def uJ:LSO:=[Aa 36 6,Aa 37 1,Ap 38 37,Aj 39 36 38]
def uI:LSO:=[Aa 42 1,Aa 43 6,A6 44 42 43,o1 45 (.bin .geq (tm 44) (.av (.int .u8 128)))]
def uH:LSO:=[An 4,Ae 5]
def uG:LSO:=[Aa 40 6,Ah 41 40 1,Aa 6 41]
def uF:LSO:=[Aa 46 1,Ak 47 90 46,Aa 4 47,Ax 5]
def uE:LSO:=[Au 49 12 4,Aa 48 49]
def uD:LSO:=[Aa 50 1,Ak 51 91 50]
def uC:LSO:=[Aa 52 1,Aa 4 52,Ax 5]
def uB:LSO:=[Au 54 12 5,Aa 53 54]
def uA:LSO:=[Aa 55 1,o1 56 (.bin .eql (tm 55) (.av (.str [84,82,85,69]))),Aa 57 56,.grp none 57 false
 [Ag 58 57 1,og 59 57 false (.bin .eql (tm 58) (.av (.str [70,65,76,83,69])))]
 60 (tm 59)]
def uz:LSO:=[Aa 61 1,Aa 4 61,Ax 5]
def uy:LSO:=[Au 63 12 6,Aa 62 63]
def ux:LSO:=[Aa 65 1,Ak 66 92 65,Aa 64 66,Ar 67 64,Aw 68 64,Aa 7 67,Aa 8 68]
def uw:LSO:=[Aa 69 8,Au 70 69 0]
def uv:LSO:=[Aa 71 7,Aa 4 71,Ax 5]
def uu:LSO:=[Au 73 12 7,Aa 72 73]
def ut:LSO:=[Aa 74 1,Aa 4 74,Ax 5]
def ur:LSO:=[Au 76 12 8,Aa 75 76]
def uq:LSO:=[Aa 77 1,Ak 78 93 77]
def uo:LSO:=[Aa 79 1,Aa 4 79,Ax 5]
def um:LSO:=[An 4,Ae 5]
def sL:be:=⟨80,(.seq (.sreg zk [])
 (.seq (.seq (.sreg zj Ci)
 (.cond (tm 11) (.seq (.sreg zi [])
 .ret)
 .skip))
 (.seq (.seq (.sreg zh [])
 (.block 0 (.seq (.sreg zg Ch)
 (.cond (tm 13) (.seq (.sreg zf Ck)
 (.cond (tm 21) (.seq (.sreg ze Cs)
 .ret)
 .skip))
 (.seq (.sreg zd Ch)
 (.cond (tm 24) (.seq (.sreg zc Ck)
 (.cond (tm 32) (.seq (.sreg zb Cm)
 .ret)
 .skip))
 (.seq (.sreg uL Ch)
 (.cond (tm 34) (.seq (.seq (.sreg uK [])
 (.block 1 (.loop (.seq (.seq (.sreg uJ Cj)
 (.cond (tm 39) .skip
 (.exit 1)))
 (.seq (.block 2 (.seq (.sreg uI Cj)
 (.cond (tm 45) (.seq (.sreg uH [])
 .ret)
 .skip)))
 (.sreg uG Ci))))))
 (.seq (.sreg uF Cs)
 .ret))
 (.seq (.sreg uE Ch)
 (.cond (tm 48) (.seq (.sreg uD Ch)
 (.cond (tm 51) (.seq (.sreg uC Cm)
 .ret)
 .skip))
 (.seq (.sreg uB Ch)
 (.cond (tm 53) (.seq (.sreg uA Cj)
 (.cond (tm 60) (.seq (.sreg uz Cm)
 .ret)
 .skip))
 (.seq (.sreg uy Ch)
 (.cond (tm 62) (.seq (.sreg ux Cw)
 (.seq (.sreg uw Ch)
 (.cond (tm 70) (.seq (.sreg uv Cm)
 .ret)
 .skip)))
 (.seq (.sreg uu Ch)
 (.cond (tm 72) (.seq (.sreg ut Cm)
 .ret)
 (.seq (.sreg ur Ch)
 (.cond (tm 75) (.seq (.sreg uq Ch)
 (.cond (tm 78) (.seq (.sreg uo Cm)
 .ret)
 .skip))
 .skip))))))))))))))))))
 (.seq (.sreg um [])
 .ret)))),[(.tmp 4),(.tmp 5)]⟩
attribute [push_cast] zk zj zi zh zg zf ze zd zc zb uL uK uJ uI uH uG uF uE uD uC uB uA uz uy ux uw uv uu ut ur uq uo um
theorem Mi:br Tryz.prog (fun _ _=>1) 45=some sL.raw:=by kernel_rfl
def tq:LSO:=[An 4,Ae 5]
def tn:LSO:=[Aa 10 1,Ap 11 10,A0 12 11 4096]
def tj:LSO:=[An 4,Ae 5]
def ti:LSO:=[Aa 13 1,Aa 6 13,Ae 7]
def th:LSO:=[Aa 14 0]
def tf:LSO:=[Au 16 14 1,Aa 15 16]
def td:LSO:=[Aa 17 1,Ak 18 95 17,Aa 19 1,o1 20 (.bin .neq (tm 19) (.av (.str []))),Aa 21 20,.grp none 21 true
 [Af 22 21 1,AX 23 21 96 22]
 24 (tm 23),Aa 6 18,Aa 7 24]
def ta:LSO:=[Au 26 14 2,Aa 25 26]
def sZ:LSO:=[Aa 27 1,o1 28 (.bin .neq (tm 27) (.av (.str []))),Aa 29 28,.grp none 29 true
 [Af 30 29 1,AX 31 29 96 30]
 32 (tm 31),Aa 7 32]
def sY:LSO:=[Au 34 14 3,Aa 33 34]
def oS:LSO:=[Aa 35 1,Ak 36 95 35,Aa 37 1,o1 38 (.call 97 [(tm 37),(.av (.func 98 []))]),AK 39 38 0,Aa 6 36,Aa 7 39]
def oR:LSO:=[Au 41 14 4,Aa 40 41]
def oQ:LSO:=[Aa 43 1,Ak 44 99 43,Aa 42 44,Ar 45 42,Aw 46 42,Aa 7 46]
def oP:LSO:=[Au 48 14 5,Aa 47 48]
def oO:LSO:=[Aa 49 1,o1 50 (.bin .eql (tm 49) (.av (.str [84,82,85,69]))),Aa 51 50,.grp none 51 false
 [Ag 52 51 1,og 53 51 false (.bin .eql (tm 52) (.av (.str [70,65,76,83,69])))]
 54 (tm 53),Aa 7 54]
def oN:LSO:=[Au 56 14 6,Aa 55 56]
def oM:LSO:=[Aa 58 1,Ak 59 100 58,Aa 57 59,Ar 60 57,Aw 61 57,Aa 8 60,Aa 9 61]
def oL:LSO:=[Aa 62 8,Aa 63 9,Au 64 63 0,Aa 6 62,Aa 7 64]
def oK:LSO:=[Au 66 14 7,Aa 65 66]
def oJ:LSO:=[Ax 7]
def oI:LSO:=[Au 68 14 8,Aa 67 68]
def oH:LSO:=[Aa 69 1,Ak 70 101 69,Aa 7 70]
def oG:LSO:=[Aa 71 7,Az 72 71]
def oF:LSO:=[An 4,Ae 5]
def oE:LSO:=[Aa 73 6,Aa 4 73,Ax 5]
def ob:be:=⟨74,(.seq (.sreg tq [])
 (.seq (.seq (.sreg tn Ci)
 (.cond (tm 12) (.seq (.sreg tj [])
 .ret)
 .skip))
 (.seq (.sreg ti Cm)
 (.seq (.seq (.sreg th [])
 (.block 0 (.seq (.sreg tf Ch)
 (.cond (tm 15) (.sreg td Ct)
 (.seq (.sreg ta Ch)
 (.cond (tm 25) (.sreg sZ Ck)
 (.seq (.sreg sY Ch)
 (.cond (tm 33) (.sreg oS Cw)
 (.seq (.sreg oR Ch)
 (.cond (tm 40) (.sreg oQ Cl)
 (.seq (.sreg oP Ch)
 (.cond (tm 47) (.sreg oO Ck)
 (.seq (.sreg oN Ch)
 (.cond (tm 55) (.seq (.sreg oM Cw)
 (.sreg oL Cp))
 (.seq (.sreg oK Ch)
 (.cond (tm 65) (.sreg oJ [])
 (.seq (.sreg oI Ch)
 (.cond (tm 67) (.sreg oH Ci)
 .skip))))))))))))))))))
 (.seq (.seq (.sreg oG Ch)
 (.cond (tm 72) (.seq (.sreg oF [])
 .ret)
 .skip))
 (.seq (.sreg oE Cm)
 .ret)))))),[(.tmp 4),(.tmp 5)]⟩
attribute [push_cast] tq tn tj ti th tf td ta sZ sY oS oR oQ oP oO oN oM oL oK oJ oI oH oG oF oE
theorem K1:br Tryz.prog (fun _ _=>1) 48=some ob.raw:=by kernel_rfl
attribute [push_cast] gK ln eY eX Ex mS Ey
variable {L:List Blk} {K:abD}
set_option maxHeartbeats 8000000
set_option maxRecDepth 100000
theorem TB {x:Int} {L:List Blk} {K:abD} (h:K (.bool (decide ((128:Int)<=x))) L):abC 98 [.int .i32 x] L K:=by
 replace h:=hid h;refine abB If ?_;exact aa h.out
def Fk (s:List UInt8):Bool:=s.all fun c=>decide (c.toNat<128)
theorem aan {s:List UInt8} (hs:s.length<=1100000) (hno:Fk s=true->K (.int .i64 (-1)) L) (hyes:∀ k:Nat,Fk s=false->K (.int .i64 (k:Int)) L) :
  abC 136 [.str s,.func 98 [],.bool true] L K:=by
 replace hno:=hid hno;replace hyes:=hid hyes;refine abB sE ?_;refine ak (fun n T' L'=>∃ p,n=s.length - p/\p<=s.length/\Hid (Fk (s.take p)=true)/\T'=[(10,.ptr L.length 0),(1,.func 98 []),(2,.bool true)]/\L'=L++[.siter s p]) (CutS (b:=by simp)) ⟨0,rfl,abL _,hid rfl,rfl,rfl⟩ ?_;rintro _ _ _ ⟨p,rfl,hp,hall,rfl,rfl⟩;by_cases hlt:p<s.length
 ·obtain ⟨c,hc⟩:=aby (s.getD p 0);have hr:=c.toNat_lt;have htk:s.take (p+1)=s.take p++[c]:=by rw [ab2 hlt,<- hc];simp [hlt]
  have hnext:Fk (s.take (p+1))=decide (c.toNat<128):=by
   have:=hall.out;unfold Fk at this ⊢;rw [htk,ael,this];simp
  by_cases ha:c.toNat<128
  ·have hd:=NK hlt (by rw [hc];exact ha);rw [hc] at hd;have w0:IntKind.i32.wrap (c.toNat:Int)=(c.toNat:Int):=MJ (by omega) (by omega);have f1:¬ (128:Int)<=(c.toNat:Int):=by omega
   replace hnext:=hid (hnext.trans (decide_eq_true ha));clear hc ha htk;have kk1:=@hid _ @TB;refine wk ?_;exact ai _ _ _ (by omega) (CutS (b:=by simp)) ⟨p+1,rfl,hlt,hnext,rfl,rfl⟩
  ·have hh:=Pw hlt (by rw [hc];omega);obtain ⟨⟨x,wd⟩,hd⟩:∃ q,Mc s p=q:=⟨_,rfl⟩;rw [hd] at hh;simp only at hh;have f1:(128:Int)<=(x:Int):=by omega
   have hbad:Fk s=false:=by
    rw [<- ac7];intro e;have hm:c∈s:=by rw [<- hc];simp [hlt]
    have:=abO.1 e c hm;simp at this;omega
   have h':=hid (hyes.out p hbad);clear hc ha htk hnext hbad;have kk1:=@hid _ @TB;refine wk ?_;exact ae rfl h'.out
 ·have hke:p=s.length:=by omega
  subst hke;have h1:=hall.out;rw [abY] at h1;have h':=hid (hno.out h1);clear h1;refine wk ?_;exact ae rfl h'.out
theorem Xb {s:List UInt8} (hs:s.length<=1100000) (hno:Fk s=true->K (.int .i64 (-1)) L) (hyes:∀ k:Nat,Fk s=false->K (.int .i64 (k:Int)) L) :
  abC 97 [.str s,.func 98 []] L K:=by
 replace hno:=hid hno;replace hyes:=hid hyes;refine abB sF ?_;refine aan hs (fun e=>?_) (fun k e=>?_)
 ·have h':=hid (hno.out e);refine sk ?_;refine wk ?_;exact aa h'.out
 ·have h':=hid (hyes.out k e);refine sk ?_;refine wk ?_;exact aa h'.out
def dig (v:List UInt8) (i:Nat):Nat:=(v.getD i 0).toNat - 48
def two (v:List UInt8) (i:Nat):Nat:=10 * dig v i+dig v (i+1)
def dZ (c:UInt8):Bool:=decide (48<=c.toNat) && decide (c.toNat<=57)
def W3 (y:Nat):Bool:=decide (y % 4=0) && !decide (y % 100=0) || decide (y % 400=0)
def Qm (m:Nat):Nat:=if m=2 then 28 else if m=4\/m=6\/m=9\/m=11 then 30 else 31
def Pf (y m:Nat):Nat:=if m=2/\W3 y=true then Qm m+1 else Qm m
def RE (v:List UInt8):Bool:=decide ((1<=two v 4/\two v 4<=12)/\1<=two v 6/\two v 8<=23/\two v 10<=59/\two v 12<=59) && decide (two v 6<=Pf (two v 0 * 100+two v 2) (two v 4))
def Ec (v:List UInt8):Bool:=decide (v.length=15) && decide (v.getD 14 0=90) && (v.take 14).all dZ && RE v
theorem aaX {v:List UInt8} {i p:Nat} {z:Int} (hz:z=(i:Int)) (hi:i+1<v.length) (hv:v.length<=1000) (h1:dZ (v.getD i 0)=true) (h2:dZ (v.getD (i+1) 0)=true) (hL:L[p]?=some (.cells [.str v])) (h:K (.int .i64 (two v i:Nat)) L) :
  abC 141 [.int .i64 z,.ptr p 0] L K:=by
 subst hz;unfold two dig at h;obtain ⟨a,ha⟩:=aby (v.getD i 0);obtain ⟨b,hb⟩:=aby (v.getD (i+1) 0);rw [ha] at h1 h;rw [hb] at h2 h;simp only [dZ,abK,decide_eq_true_eq] at h1 h2;obtain ⟨x,hx⟩:∃ x:Nat,a.toNat=48+x:=⟨a.toNat - 48,by omega⟩;obtain ⟨y,hy⟩:∃ y:Nat,b.toNat=48+y:=⟨b.toNat - 48,by omega⟩;have hx9:x<=9:=by omega
 have hy9:y<=9:=by omega
 rw [show 10 * (a.toNat - 48)+(b.toNat - 48)=10 * x+y by omega] at h;have hxa:(a.toNat:Int)=48+(x:Int):=by omega
 have hyb:(b.toNat:Int)=48+(y:Int):=by omega
 have g1:(i:Int)<(v.length:Int):=by omega
 have g2:=abA i (by omega);have g3:(i:Int)+1<(v.length:Int):=by omega
 have g4:((i:Int)+1).toNat=i+1:=by omega
 have g5:(0:Int)<=(i:Int)+1:=by omega
 have w1:IntKind.u8.wrap (48+(x:Int) - 48)=(x:Int):=by rw [cx (by omega) (by omega)];omega
 have w2:IntKind.u8.wrap (48+(y:Int) - 48)=(y:Int):=by rw [cx (by omega) (by omega)];omega
 have w3:IntKind.i64.wrap (x:Int)=(x:Int):=ac (by omega) (by omega);have w4:IntKind.i64.wrap (y:Int)=(y:Int):=ac (by omega) (by omega);have w5:IntKind.i64.wrap ((x:Int) * 10)=(x:Int) * 10:=ac (by omega) (by omega);have w6:IntKind.i64.wrap ((x:Int) * 10+(y:Int))=(x:Int) * 10+(y:Int):=ac (by omega) (by omega);have hfin:K (.int .i64 ((x:Int) * 10+(y:Int))) L:=by
  rwa [show ((10 * x+y:Nat):Int)=(x:Int) * 10+(y:Int) by omega] at h
 replace hfin:=hid hfin;clear h h1 h2 hx hy;refine abB Er ?_;exact aa hfin.out
theorem Zg {m:Nat} (h1:1<=m) (h2:m<=12) {l:List AV} (hl:dI 2=some l):l.getD (m - 1) .undef=.int .i64 (Qm m:Nat)/\l.length=12:=by
 have e:dI 2=some [.int .i64 31,.int .i64 28,.int .i64 31,.int .i64 30,.int .i64 31,.int .i64 30,.int .i64 31,.int .i64 31,.int .i64 30,.int .i64 31,.int .i64 30,.int .i64 31]:=by rfl
 rw [e] at hl;cases hl;have:m=1\/m=2\/m=3\/m=4\/m=5\/m=6\/m=7\/m=8\/m=9\/m=10\/m=11\/m=12:=by omega
 rcases this with rfl|rfl|rfl|rfl|rfl|rfl|rfl|rfl|rfl|rfl|rfl|rfl<;>exact ⟨rfl,rfl⟩
theorem fN {v:List UInt8} {i:Nat} (h1:dZ (v.getD i 0)=true) (h2:dZ (v.getD (i+1) 0)=true):two v i<=99:=by
 simp only [dZ,abK,decide_eq_true_eq] at h1 h2;unfold two dig;omega
theorem Q1 {v:List UInt8} (hv:v.length<=1100000) (h:K (.bool (Ec v)) L):abC 101 [.str v] L K:=by
 have no:Ec v=false->K (.bool false) L:=fun e=>by rw [<- e];exact h
 replace no:=hid no;replace h:=hid h;refine ad Ie (by simp [lm]) ?_;simp only [lm,ao];by_cases h15:v.length=15;rotate_left
 ·have f1:¬ (v.length:Int)=15:=by omega
  have h':=hid (no.out (by simp [Ec,h15]));clear h15;refine wk ?_;exact ae rfl h'.out
 have f1:(v.length:Int)=15:=by omega
 obtain ⟨z,hz⟩:=aby (v.getD 14 0);by_cases h90:z=90;rotate_left
 ·have f2:¬ (z.toNat:Int)=90:=fun e=>h90 ((bu z 90).1 e)
  have h':=hid (no.out (by simp [Ec,<- hz] at h90 ⊢;simp [h90]));clear h90;refine wk ?_;exact ae rfl h'.out
 have f2:(z.toNat:Int)=90:=by rw [h90];rfl
 obtain ⟨w,hw⟩:=aby (v.take 14);have hwl:w.length=14:=by rw [<- hw];simp [h15]
 have f3:(14:Int)<=(v.length:Int):=by omega
 have hul:(u8s w).length=14:=by simp [u8s,hwl]
 have hdall:=hid (show w.all dZ=false->K (.bool false) L from fun e=>no.out (by simp [Ec,hw,e]));replace hw:=hid hw;have hw':v.take 14=w:=hw.out;have f4:(0:Int)<=14:=by omega
 refine wk ?_;refine ak (fun n T' L'=>∃ i:Nat,n=14 - i/\i<=14/\Hid ((w.take i).all dZ=true)/\T'=[(22,.int .i64 (i:Int)),(21,.int .i64 14),(20,.sl (u8s w) 14 none),(1,.ptr L.length 0)]/\L'=L++[.cells [.str v]]) (CutS (b:=by simp)) ⟨0,rfl,abL _,hid rfl,rfl,rfl⟩ ?_;rintro _ _ _ ⟨i,rfl,hi,hall,rfl,rfl⟩;by_cases hlt:i<14
 ·have g1:(i:Int)<14:=by omega
  have g2:=abA i (by omega);obtain ⟨c,hc⟩:=aby (w.getD i 0);have g3:(u8s w).getD i .undef=.int .u8 c.toNat:=by rw [<- hc];simp [u8s,show i<w.length by omega]
  have hm:c∈w:=by rw [<- hc];simp [show i<w.length by omega]
  have htk:w.take (i+1)=w.take i++[c]:=by rw [ab2 (by omega),<- hc];simp [show i<w.length by omega]
  have bad:=hid fun (e:dZ c=false)=>hdall.out (aej.2 ⟨c,hm,by rw [e];simp⟩)
  have good:=hid fun (e:dZ c=true)=>show (w.take (i+1)).all dZ=true by rw [htk,ael,hall.out];simp [e]
  clear hc hm htk hw' h15 hwl
  repeat' first
   | refine a8 ?_
   | (first|refine aU (by kernel_rfl) ?_|refine aB (by kernel_rfl) ?_|refine aE ?_|refine bI ?_|refine bf (fun _=>?_)|refine ay ?_|refine aW ?_)
     refine sm ?_
   | (first|refine aO (by kernel_rfl) ?_|refine aP ?_|refine aD ?_|refine aV ?_|refine bp (ax ?_))
     refine sl ?_
   | exact bg
   | first|apply bh|apply aR|apply bj|apply aS|apply bm|apply aT
   | refine aH ?_
   | refine aC ?_
   | first|refine aF rfl ?_|refine aG rfl ?_|refine an rfl ?_ ?_|refine aJ rfl (fun _=>?_) (fun _=>?_)|refine aI rfl (fun _=>?_) (fun _=>?_)
   | ((first|refine am (fun _=>?_) (fun _=>?_)|refine aw (fun _=>?_) (fun _=>?_))<;>try refine sm ?_)
   | refine And.intro trivial ?_
   | refine And.intro (by omega) ?_
   | refine aM rfl (fun _=>?_) (fun _=>?_)
   | refine And.intro ?_ ?_
  ·rename_i hx
   refine ae rfl (bad.out ?_);simp only [dZ,ad2,decide_eq_false_iff_not];omega
  ·rename_i hx
   refine ai _ _ _ (by omega) (CutL (b:=by simp)) ⟨i+1,rfl,by omega,hid (good.out ?_),rfl,rfl⟩;simp only [dZ,abK,decide_eq_true_eq];omega
 have hke:i=14:=by omega
 subst hke;have g1:¬ ((14:Nat):Int)<14:=by omega
 have hda:=hall.out;rw [acW (by omega)] at hda;have hdv:∀ i,i<14->dZ (v.getD i 0)=true:=fun i hi=>by
  refine abO.1 hda _ ?_;rw [<- hw.out];have:v.getD i 0=(v.take 14)[i]'(by simp;omega):=by simp [show i<v.length by omega]
  rw [this];exact acN _
 have hdate:Ec v=RE v:=by
  simp only [Ec,h15,hz,h90,hw.out,hda];simp
 have ct:∀ i:Nat,i+1<14->∀ (z:Int) (K:AV->List Blk->Prop),z=(i:Int)->K (.int .i64 (two v i:Nat)) (L++[.cells [.str v]])->abC 141 [.int .i64 z,.ptr L.length 0] (L++[.cells [.str v]]) K:=fun i hi z K hz h =>
  aaX hz (by omega) (by omega) (hdv i (by omega)) (hdv (i+1) hi) (l9 _ _ _) h
 have b0:=fN (hdv 0 (by omega)) (hdv 1 (by omega));have b2:=fN (hdv 2 (by omega)) (hdv 3 (by omega));have b4:=fN (hdv 4 (by omega)) (hdv 5 (by omega));have b6:=fN (hdv 6 (by omega)) (hdv 7 (by omega));have b8:=fN (hdv 8 (by omega)) (hdv 9 (by omega));have b10:=fN (hdv 10 (by omega)) (hdv 11 (by omega));have b12:=fN (hdv 12 (by omega)) (hdv 13 (by omega));have kk1:=@hid _ (fun {K:abD}=>ct 0 (by omega) 0 K rfl);have kk2:=@hid _ (fun {K:abD}=>ct 2 (by omega) 2 K rfl);have kk3:=@hid _ (fun {K:abD}=>ct 4 (by omega) 4 K rfl);have kk4:=@hid _ (fun {K:abD}=>ct 6 (by omega) 6 K rfl);have kk5:=@hid _ (fun {K:abD}=>ct 8 (by omega) 8 K rfl);have kk6:=@hid _ (fun {K:abD}=>ct 10 (by omega) 10 K rfl);have kk7:=@hid _ (fun {K:abD}=>ct 12 (by omega) 12 K rfl);have hfin:=h.out;rw [hdate] at hfin;unfold RE at hfin;obtain ⟨Y,hY⟩:=aby (two v 0);obtain ⟨Y2,hY2⟩:=aby (two v 2);obtain ⟨M,hM⟩:=aby (two v 4);obtain ⟨D,hD⟩:=aby (two v 6);obtain ⟨H,hH⟩:=aby (two v 8);obtain ⟨I,hI⟩:=aby (two v 10);obtain ⟨S,hS⟩:=aby (two v 12);rw [hY] at b0 hfin kk1;rw [hY2] at b2 hfin kk2;rw [hM] at b4 hfin kk3;rw [hD] at b6 hfin kk4;rw [hH] at b8 hfin kk5;rw [hI] at b10 hfin kk6;rw [hS] at b12 hfin kk7;clear hY hY2 hM hD hH hI hS ct hdate hdv hda hall hw' hw hdall h15 hwl hul hi hlt f1 f2 f3 f4 hv h90 hz no h;have w1:IntKind.i64.wrap ((Y:Int) * 100)=(Y:Int) * 100:=ac (by omega) (by omega);have w2:IntKind.i64.wrap ((Y:Int) * 100+(Y2:Int))=(Y:Int) * 100+(Y2:Int):=ac (by omega) (by omega);have hbad:¬ ((1<=M/\M<=12)/\1<=D/\H<=23/\I<=59/\S<=59)->K (.bool false) L:=fun e=>by
  rw [decide_eq_false e] at hfin;simpa using hfin
 replace hbad:=hid hbad;replace hfin:=hid hfin;by_cases m1:(M:Int)<1
 ·refine wk ?_;exact ae rfl (hbad.out (by omega))
 by_cases m2:(12:Int)<(M:Int)
 ·refine wk ?_;exact ae rfl (hbad.out (by omega))
 by_cases m3:(D:Int)<1
 ·refine wk ?_;exact ae rfl (hbad.out (by omega))
 by_cases m4:(23:Int)<(H:Int)
 ·refine wk ?_;exact ae rfl (hbad.out (by omega))
 by_cases m5:(59:Int)<(I:Int)
 ·refine wk ?_;exact ae rfl (hbad.out (by omega))
 by_cases m6:(59:Int)<(S:Int)
 ·refine wk ?_;exact ae rfl (hbad.out (by omega))
 have hgood:=hid (show decide (D<=Pf (Y * 100+Y2) M)=true\/decide (D<=Pf (Y * 100+Y2) M)=false by cases decide (D<=Pf (Y * 100+Y2) M)<;>simp);have hfin2:=hfin.out;rw [show decide ((1<=M/\M<=12)/\1<=D/\H<=23/\I<=59/\S<=59)=true by simp;omega,acy] at hfin2;unfold Pf W3 at hfin2;obtain ⟨dn,hdn⟩:=aby (Qm M);have hdb:dn<=31:=by rw [<- hdn];unfold Qm;split<;>(try split)<;>omega
 obtain ⟨r4,hr4⟩:=aby ((Y * 100+Y2) % 4);obtain ⟨r100,hr100⟩:=aby ((Y * 100+Y2) % 100);obtain ⟨r400,hr400⟩:=aby ((Y * 100+Y2) % 400);rw [hr4,hr100,hr400,hdn] at hfin2;have t4:Int.tmod ((Y:Int) * 100+(Y2:Int)) 4=(r4:Int):=by rw [adC (by omega)];omega
 have t100:Int.tmod ((Y:Int) * 100+(Y2:Int)) 100=(r100:Int):=by rw [adC (by omega)];omega
 have t400:Int.tmod ((Y:Int) * 100+(Y2:Int)) 400=(r400:Int):=by rw [adC (by omega)];omega
 have x1:IntKind.i64.wrap ((M:Int) - 1)=(M:Int) - 1:=ac (by omega) (by omega);have x2:((M:Int) - 1).toNat=M - 1:=by omega
 have x3:(0:Int)<=(M:Int) - 1:=by omega
 have x4:(M:Int) - 1<12:=by omega
 obtain ⟨x5,x6⟩:=Zg (m:=M) (by omega) (by omega) Rx;rw [hdn] at x5;have x7:=abA dn (by omega);replace hfin2:=hid hfin2;clear hr4 hr100 hr400 hdn hgood
 repeat' first
  | refine a8 ?_
  | (first|refine aU (by kernel_rfl) ?_|refine aB (by kernel_rfl) ?_|refine aE ?_|refine bI ?_|refine bf (fun _=>?_)|refine ay ?_|refine aW ?_|refine kk1.out ?_|refine kk2.out ?_|refine kk3.out ?_|refine kk4.out ?_|refine kk5.out ?_|refine kk6.out ?_|refine kk7.out ?_|refine bo (kk1.out ⟨rfl,rfl⟩) (kk1.out ⟨rfl,rfl⟩) ?_|refine bo (kk2.out ⟨rfl,rfl⟩) (kk2.out ⟨rfl,rfl⟩) ?_|refine bo (kk3.out ⟨rfl,rfl⟩) (kk3.out ⟨rfl,rfl⟩) ?_|refine bo (kk4.out ⟨rfl,rfl⟩) (kk4.out ⟨rfl,rfl⟩) ?_|refine bo (kk5.out ⟨rfl,rfl⟩) (kk5.out ⟨rfl,rfl⟩) ?_|refine bo (kk6.out ⟨rfl,rfl⟩) (kk6.out ⟨rfl,rfl⟩) ?_|refine bo (kk7.out ⟨rfl,rfl⟩) (kk7.out ⟨rfl,rfl⟩) ?_|refine aN (kk1.out ⟨rfl,rfl⟩) ?_|refine aN (kk2.out ⟨rfl,rfl⟩) ?_|refine aN (kk3.out ⟨rfl,rfl⟩) ?_|refine aN (kk4.out ⟨rfl,rfl⟩) ?_|refine aN (kk5.out ⟨rfl,rfl⟩) ?_|refine aN (kk6.out ⟨rfl,rfl⟩) ?_|refine aN (kk7.out ⟨rfl,rfl⟩) ?_)
    refine sm ?_
  | (first|refine aO (by kernel_rfl) ?_|refine aP ?_|refine aD ?_|refine aV ?_|refine bp (ax ?_))
    refine sl ?_
  | exact bg
  | first|apply bh|apply aR|apply bj|apply aS|apply bm|apply aT
  | refine aH ?_
  | refine aC ?_
  | first|refine aF rfl ?_|refine aG rfl ?_|refine an rfl ?_ ?_|refine aJ rfl (fun _=>?_) (fun _=>?_)|refine aI rfl (fun _=>?_) (fun _=>?_)
  | ((first|refine am (fun _=>?_) (fun _=>?_)|refine aw (fun _=>?_) (fun _=>?_))<;>try refine sm ?_)
  | refine And.intro trivial ?_
  | refine And.intro (by omega) ?_
  | refine aM rfl (fun _=>?_) (fun _=>?_)
  | refine And.intro ?_ ?_
 ·rename_i hx
  refine ae rfl ?_;have e:=hfin2.out;rw [if_pos ⟨by omega,by simp;omega⟩] at e
  rwa [show decide (D<=dn+1)=decide ((D:Int)<=(dn:Int)+1) by simp only [decide_eq_decide];omega] at e
 ·rename_i hx
  refine ae rfl ?_;have e:=hfin2.out;rw [if_neg (fun ⟨e1,e2⟩=>hx ⟨by omega,by simp at e2;omega⟩)] at e
  rwa [show decide (D<=dn)=decide ((D:Int)<=(dn:Int)) by simp only [decide_eq_decide];omega] at e
theorem WC:dI 6=some (Lib.pow10Tab.map (AV.int .u64)):=by rfl
theorem UK:Tryz.prog.globalNamed "internal/strconv.uint64pow10" = some 6:=by kernel_rfl
theorem aa5 {n:Int} (hn:I64 n) (h:K (.str (Lib.itoa n)) L):abC 138 [.int .i64 n,.int .i64 10] L K :=
 d8 Tryz.func138 rfl (by kernel_rfl) (fun w0 S0 E w vs hR hv=>by
  simp only [VRL,VR] at hv;obtain ⟨_,_,rfl,rfl,_,_,rfl,rfl,rfl⟩:=hv;refine (Tryz.strconv_FormatInt_10 n hn.1 hn.2 w (hR.table UK WC (by simp [Lib.pow10Tab]))).mono fun e w' ⟨he,k,os,hw⟩=>⟨_,he,by simp [VR],by subst hw;exact EH.of_grow w k os⟩) h
theorem sy {w w':World} (h:RowKit.Below w.heap.size w w'):EH w w':=⟨fun b hb=>h.block b hb,h.size,h.os,h.tape,h.output⟩
theorem RC {w0:World} {S0:SB} {E:Env} {L:List Blk} {w:World} (hR:Rel w0 S0 E L w) {g:Nat} {t:TypeId} (hp:dI g=some [.iface t .undef]):∃ x,w.cell? ⟨g,0,none⟩=some (.iface t x):=by
 have hm:=sA hp;obtain ⟨v,h1,h2⟩:=(hR.glob.env hm).get (i:=0) (a:=.iface t .undef) rfl;simp only [VR] at h2;obtain ⟨x,rfl,_⟩:=h2;exact ⟨x,by simpa using hR.mem _ _ _ h1⟩
theorem WG {l:List UInt8} {n:Int} (hl:(l.length:Int)<=1100000) (hp:Lib.parseIntB 64 l=.ok n) (h:K (.tup [.int .i64 n,.nilif]) L):abC 137 [.str l,.int .i64 10,.int .i64 64] L K :=
 d8 Tryz.func137 rfl (by kernel_rfl) (fun w0 S0 E w vs hR hv=>by
  simp only [VRL,VR] at hv;obtain ⟨_,_,rfl,rfl,_,_,rfl,rfl,_,_,rfl,rfl,rfl⟩:=hv;refine (Tryz.strconv_ParseInt_10_at64_ok ⟨⟨l⟩⟩ (show l.length<=_ by omega) n hp w).mono fun e w' ⟨he,hw⟩=>⟨_,he,by simp [VR,VRL],?_⟩
  rcases hw with rfl|⟨t,rfl⟩
  ·exact EH.refl _
  ·exact sy (Lib.bytesWorld_below _ _ _)) h
theorem WH {l:List UInt8} (hl:(l.length:Int)<=1100000) (hp:∀ n,Lib.parseIntB 64 l ≠ .ok n) (h:K (.tup [.int .i64 (On l),.iface 252 .undef]) L):abC 137 [.str l,.int .i64 10,.int .i64 64] L K :=
 d8 Tryz.func137 rfl (by kernel_rfl) (fun w0 S0 E w vs hR hv=>by
  simp only [VRL,VR] at hv;obtain ⟨_,_,rfl,rfl,_,_,rfl,rfl,_,_,rfl,rfl,rfl⟩:=hv
  match hq:Lib.parseIntB 64 l with
  | .ok n=>exact absurd hq (hp n)
  | .syntax =>
    obtain ⟨x,hx⟩:=RC hR (g:=4) rfl;refine (Tryz.strconv_ParseInt_10_at64_syntax ⟨⟨l⟩⟩ (show l.length<=_ by omega) hq _ w hx (.inr ⟨_,_,rfl⟩)).mono fun e w' ⟨N,he,_,_,hw⟩=>⟨_,he,?_,sy hw⟩
    have e0:On l=0:=by simp [On,hq]
    rw [e0];simp [VR,VRL];exact ⟨_,_,⟨rfl,rfl⟩,rfl,_,rfl,_,rfl⟩
  | .range =>
    obtain ⟨x,hx⟩:=RC hR (g:=5) rfl;refine (Tryz.strconv_ParseInt_10_at64_range ⟨⟨l⟩⟩ (show l.length<=_ by omega) hq _ w hx (.inr ⟨_,_,rfl⟩)).mono fun e w' ⟨N,he,_,_,hw⟩=>⟨_,he,?_,sy hw⟩
    have e0:On l=Lib.intSat 64 l:=by simp [On,hq]
    rw [e0];simp [VR,VRL];exact ⟨_,_,⟨rfl,rfl⟩,rfl,_,rfl,_,rfl⟩) h
theorem QX {l:List UInt8} (hl:(l.length:Int)<=1100000) (h:K (.tup [.int .i64 (On l),.bool (rE l)]) L):abC 99 [.str l] L K:=by
 replace h:=hid h;refine ad Ic (by simp [ll]) ?_;simp only [ll,ao];by_cases hp:∃ n,Lib.parseIntB 64 l=.ok n
 ·obtain ⟨n,hp⟩:=hp;have hr:=hid (LL hp);have e1:=hid (show On l=n by simp [On,hp]);have e2:=hid (show rE l=decide (Lib.itoa n=l) by simp [rE,hp]);replace hp:=hid hp;have kk1:=@hid _ (fun L K=>WG hl hp.out (L:=L) (K:=K));have kk2:=@hid _ (fun L K=>aa5 hr.out (L:=L) (K:=K));refine wk ?_;refine aa ?_;have h:=h.out;rw [e1.out,e2.out] at h;exact h
 ·have hp':=hid (show ∀ n,Lib.parseIntB 64 l ≠ .ok n from fun n e=>hp ⟨n,e⟩);have e2:=hid (show rE l=false by
   unfold rE;split
   ·rename_i n hn;exact absurd ⟨n,hn⟩ hp
   ·rfl)
  clear hp;have kk1:=@hid _ (fun L K=>WH hl hp'.out (L:=L) (K:=K));refine wk ?_;refine aa ?_;have h:=h.out;rw [e2.out] at h;exact h
theorem S5:dI 0=some ((List.range 256).map fun c=>AV.int .u8 (Lib.firstT c:Int)):=by kernel_rfl
theorem RN:dI 1=some ((List.range 16).flatMap fun i=>[AV.int .u8 (Lib.accLo i:Int),AV.int .u8 (Lib.accHi i:Int)]):=by kernel_rfl
theorem KV {w0:World} {S0:SB} {E:Env} {L:List Blk} {w:World} (hR:Rel w0 S0 E L w) {g i:Nat} {l:List AV} {k:IntKind} {z:Int} (hp:dI g=some l) (hi:l[i]?=some (.int k z)):w.cell? ⟨g,i,none⟩=some (.int k z):=by
 have hm:=sA hp;obtain ⟨v,h1,h2⟩:=(hR.glob.env hm).get (i:=i) (a:=.int k z) hi;simp only [VR] at h2;subst h2;simpa using hR.mem _ _ _ h1
theorem Ug {w0:World} {S0:SB} {E:Env} {L:List Blk} {w:World} (hR:Rel w0 S0 E L w):Lib.Utf8Tabs 0 1 w:=by
 refine ⟨fun c hc=>KV hR S5 ?_,fun i hi=>⟨KV hR RN ?_,KV hR RN ?_⟩⟩
 ·simp [hc]
 ·have:∀ i:_root_.Fin 16,((List.range 16).flatMap fun i=>[AV.int .u8 (Lib.accLo i:Int),AV.int .u8 (Lib.accHi i:Int)])[2 * i.val]?=some (.int .u8 (Lib.accLo i.val:Int)):=fun i=>by
   match i with
   | ⟨0,_⟩|⟨1,_⟩|⟨2,_⟩|⟨3,_⟩|⟨4,_⟩|⟨5,_⟩|⟨6,_⟩|⟨7,_⟩|⟨8,_⟩|⟨9,_⟩|⟨10,_⟩|⟨11,_⟩|⟨12,_⟩|⟨13,_⟩|⟨14,_⟩|⟨15,_⟩=>rfl
   | ⟨n+16,h⟩=>omega
  exact this ⟨i,hi⟩
 ·have:∀ i:_root_.Fin 16,((List.range 16).flatMap fun i=>[AV.int .u8 (Lib.accLo i:Int),AV.int .u8 (Lib.accHi i:Int)])[2 * i.val+1]?=some (.int .u8 (Lib.accHi i.val:Int)):=fun i=>by
   match i with
   | ⟨0,_⟩|⟨1,_⟩|⟨2,_⟩|⟨3,_⟩|⟨4,_⟩|⟨5,_⟩|⟨6,_⟩|⟨7,_⟩|⟨8,_⟩|⟨9,_⟩|⟨10,_⟩|⟨11,_⟩|⟨12,_⟩|⟨13,_⟩|⟨14,_⟩|⟨15,_⟩=>rfl
   | ⟨n+16,h⟩=>omega
  exact this ⟨i,hi⟩
theorem EM {l:List UInt8} (hl:l.length<=1100000) (h:K (.bool (Lib.validD l)) L):abC 96 [.str l] L K :=
 d8 Tryz.func96 rfl (by kernel_rfl) (fun w0 S0 E w vs hR hv=>by
  simp only [VRL,VR] at hv;obtain ⟨_,_,rfl,rfl,rfl⟩:=hv;exact (Any.utf8_ValidString Tryz.lays196 ⟨⟨l⟩⟩ w (show l.length<=_ by omega) (Ug hR)).mono fun e w' ⟨he,hw⟩=>⟨_,he,by simp [VR],sy hw⟩) h
theorem MP {a b:List UInt8} {L:List Blk} {K:abD} (h:K (.int .i64 (Lib.compareBytes a b)) L):abC 126 [.str a,.str b] L K :=
 d8 Tryz.func126 rfl (by kernel_rfl) (fun w0 S0 E w vs hR hv=>by
  simp only [VRL,VR] at hv;obtain ⟨_,_,rfl,rfl,_,_,rfl,rfl,rfl⟩:=hv;exact (Tryz.strings_Compare ⟨⟨a⟩⟩ ⟨⟨b⟩⟩ w).mono fun e w' ⟨he,hw⟩=>⟨_,he,by simp [VR],by subst hw;exact EH.refl _⟩) h
abbrev XZ:List UInt8:=[84,82,85,69]
abbrev Tg:List UInt8:=[70,65,76,83,69]
def rF (syn:Int) (v:List UInt8):Option (List UInt8) :=
 if syn=1 then (if v=[] then none else if Lib.validD v=true then some (bE v) else none)
 else if syn=2 then (if v=[] then none else if Lib.validD v=true then some v else none)
 else if syn=3 then (if Fk v=true then some (bE v) else none)
 else if syn=4 then (if rE v=true then some v else none)
 else if syn=5 then (if v=XZ\/v=Tg then some v else none)
 else if syn=6 then (if (Eh v).2=0 then some (Eh v).1 else none)
 else if syn=7 then some v
 else if syn=8 then (if Ec v=true then some v else none)
 else none
def bY (syn:Int) (v:List UInt8):Option (List UInt8):=if 4096<v.length then none else rF syn v
def J8:Option (List UInt8)->AV
 | some n=>.tup [.str n,.bool true]
 | none=>.tup [.str [],.bool false]
theorem HY {syn:Int} {v:List UInt8} (h:K (J8 (bY syn v)) L):abC 48 [.int .i64 syn,.str v] L K:=by
 unfold bY at h;refine ad K1 (by simp [ob]) ?_;simp only [ob,ao];by_cases hl:4096<v.length
 ·have f1:(4096:Int)<(v.length:Int):=by omega
  rw [if_pos hl] at h;replace h:=hid h;clear hl;refine wk ?_;exact aa h.out
 have f1:¬ (4096:Int)<(v.length:Int):=by omega
 rw [if_neg hl] at h;have vl1:v.length<=1100000:=by omega
 have vl2:(v.length:Int)<=100000:=by omega
 have vl3:(v.length:Int)<=1100000:=by omega
 unfold rF at h;clear hl;by_cases s1:syn=1
 ·subst s1;rw [if_pos rfl] at h;by_cases hv:v=[]
  ·rw [if_pos hv] at h;replace h:=hid h;subst hv;have kk1:=@hid _ (fun L K=>sg vl2 (L:=L) (K:=K));have kk2:=@hid _ (fun L K=>EM vl1 (L:=L) (K:=K));refine wk ?_;exact aa h.out
  ·rw [if_neg hv] at h;cases hd:Lib.validD v with
   | true =>
     rw [hd,if_pos rfl] at h;replace h:=hid h;have kk1:=@hid _ (fun L K=>sg vl2 (L:=L) (K:=K));have kk2:=@hid _ (fun L K=>EM vl1 (L:=L) (K:=K));refine wk ?_;exact aa h.out
   | false =>
     rw [hd,if_neg (by simp)] at h;replace h:=hid h;have kk1:=@hid _ (fun L K=>sg vl2 (L:=L) (K:=K));have kk2:=@hid _ (fun L K=>EM vl1 (L:=L) (K:=K));refine wk ?_;exact aa h.out
 rw [if_neg s1] at h;by_cases s2:syn=2
 ·subst s2;rw [if_pos rfl] at h;by_cases hv:v=[]
  ·rw [if_pos hv] at h;replace h:=hid h;have kk1:=@hid _ (fun L K=>EM vl1 (L:=L) (K:=K));refine wk ?_;exact aa h.out
  ·rw [if_neg hv] at h;cases hd:Lib.validD v with
   | true =>
     rw [hd,if_pos rfl] at h;replace h:=hid h;have kk1:=@hid _ (fun L K=>EM vl1 (L:=L) (K:=K));refine wk ?_;exact aa h.out
   | false =>
     rw [hd,if_neg (by simp)] at h;replace h:=hid h;have kk1:=@hid _ (fun L K=>EM vl1 (L:=L) (K:=K));refine wk ?_;exact aa h.out
 rw [if_neg s2] at h;by_cases s3:syn=3
 ·subst s3;rw [if_pos rfl] at h;replace h:=hid h;have kk1:=@hid _ (fun L K=>sg vl2 (L:=L) (K:=K));refine wk ?_;refine Xb vl1 (fun e=>?_) (fun k e=>?_)
  ·have h':=h.out;rw [if_pos e] at h';replace h':=hid h';refine sk ?_;refine wk ?_;exact aa h'.out
  ·have h':=h.out;rw [if_neg (by rw [e];simp)] at h';replace h':=hid h';have k0:¬ (k:Int)<0:=by omega
   refine sk ?_;refine wk ?_;exact aa h'.out
 rw [if_neg s3] at h;by_cases s4:syn=4
 ·subst s4;rw [if_pos rfl] at h;cases hd:rE v with
  | true =>
    rw [hd,if_pos rfl] at h;replace h:=hid h;have kk1:=@hid _ (fun L K=>QX vl3 (L:=L) (K:=K));refine wk ?_;exact aa h.out
  | false =>
    rw [hd,if_neg (by simp)] at h;replace h:=hid h;have kk1:=@hid _ (fun L K=>QX vl3 (L:=L) (K:=K));refine wk ?_;exact aa h.out
 rw [if_neg s4] at h;by_cases s5:syn=5
 ·subst s5;rw [if_pos rfl] at h;by_cases t1:v=XZ
  ·rw [if_pos (.inl t1)] at h;replace h:=hid h;have c1:(decide (v=[84,82,85,69]):Bool)=true:=decide_eq_true t1;subst t1;refine wk ?_;exact aa h.out
  ·by_cases t2:v=Tg
   ·rw [if_pos (.inr t2)] at h;replace h:=hid h;subst t2;have t3:¬ ([70,65,76,83,69]:List UInt8)=[84,82,85,69]:=by decide
    clear t1;refine wk ?_;exact aa h.out
   ·rw [if_neg (fun e=>e.elim t1 t2)] at h;replace h:=hid h;refine wk ?_;exact aa h.out
 rw [if_neg s5] at h;by_cases s6:syn=6
 ·subst s6;rw [if_pos rfl] at h;obtain ⟨⟨k,e⟩,hk⟩:∃ p,Eh v=p:=⟨_,rfl⟩;rw [hk] at h;simp only at h;by_cases he:e=0
  ·subst he;rw [if_pos rfl] at h;replace h:=hid h;refine wk ?_;refine ZI ?_;rw [hk];simp only [oC];refine sk ?_;refine wk ?_;exact aa h.out
  ·rw [if_neg he] at h;replace h:=hid h;refine wk ?_;refine ZI ?_;rw [hk];simp only [oC];refine sk ?_;refine wk ?_;exact aa h.out
 rw [if_neg s6] at h;by_cases s7:syn=7
 ·subst s7;rw [if_pos rfl] at h;replace h:=hid h;refine wk ?_;exact aa h.out
 rw [if_neg s7] at h;by_cases s8:syn=8
 ·subst s8;rw [if_pos rfl] at h;cases hd:Ec v with
  | true =>
    rw [hd,if_pos rfl] at h;replace h:=hid h;have kk1:=@hid _ (fun L K=>Q1 vl1 (L:=L) (K:=K));refine wk ?_;exact aa h.out
  | false =>
    rw [hd,if_neg (by simp)] at h;replace h:=hid h;have kk1:=@hid _ (fun L K=>Q1 vl1 (L:=L) (K:=K));refine wk ?_;exact aa h.out
 rw [if_neg s8] at h;replace h:=hid h;refine wk ?_;exact aa h.out
theorem O8 {syn:Int} {v x:List UInt8} (h:bY syn v=some x):v.length<=4096:=by
 unfold bY at h;split at h
 ·cases h
 ·omega
theorem Qn:∀ a b:List UInt8,Lib.compareBytes a b=if a<b then -1 else if b<a then 1 else 0
 | [],[]=>by simp [Lib.compareBytes]
 | [],b::bs=>by simp [Lib.compareBytes]
 | a::xs,[]=>by simp [Lib.compareBytes]
 | a::xs,b::bs=>by
   rw [Lib.compareBytes,Qn xs bs];simp only [List.cons_lt_cons_iff];by_cases h1:a<b
   ·rw [if_pos h1,if_pos (.inl h1)]
   ·rw [if_neg h1];by_cases h2:b<a
    ·rw [if_pos h2,if_neg,if_pos (.inl h2)];rintro (e|⟨e,_⟩)
     ·exact h1 e
     ·subst e;exact h1 h2
    ·rw [if_neg h2];have e:a=b:=by
      rcases aed a.toNat b.toNat with h|h|h
      ·exact absurd h h1
      ·exact adm.1 h
      ·exact absurd h h2
     subst e;simp
end Go.Proofs.YtcmfcpjnhephaaaGreatDoor.Av
