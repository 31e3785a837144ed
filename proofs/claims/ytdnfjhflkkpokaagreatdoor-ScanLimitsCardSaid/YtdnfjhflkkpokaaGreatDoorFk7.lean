/- Joined texts of the walk, made small by a program. -/
import Derived.Test.YtdnfjhflkkpokaaGreatDoorFk4
import Derived.Test.YtdnfjhflkkpokaaGreatDoorRows
import Derived.KernelRfl
import Derived.Test.YtdnfjhflkkpokaaGreatDoorFk6
import Derived.Test.YtdnfjhflkkpokaaGreatDoorFk5
import Derived.Sort.Walk0
set_option linter.unusedSimpArgs false
set_option linter.unusedVariables false
set_option maxRecDepth 100000
namespace Go.Proofs.YtdnfjhflkkpokaaGreatDoor.Av
open Go
def uR:LSO:=[Az 1 0,Af 2]
def uQ:LSO:=[Ab 10 1 1,Ax 11 10,AB 12 11 15,Aa 13 12,.grp none 13 false
 [Ay 14 13 1 1,Cf 15 13 14 14,og 16 13 false (.bin .neq (tm 15) (.av (.int .u8 90)))]
 17 (tm 16)]
def uP:LSO:=[Af 2]
def uO:LSO:=[Ab 18 1 1,o1 19 (.slS (tm 18) none (some (iv 14))),o1 20 (.s2b (tm 19)),Ah 21 20,Ac 22 0]
def uN:LSO:=[Al 23 22 21]
def uM:LSO:=[Am 24 1 20 22,Ab 25 1 24,Aa 4 25]
def uL:LSO:=[Aa 26 4,o1 27 (.bin .lss (tm 26) (.av (.int .u8 48))),Aa 28 27,.grp none 28 false
 [Ag 29 28 4,og 30 28 false (.bin .gtr (tm 29) (.av (.int .u8 57)))]
 31 (tm 30)]
def uK:LSO:=[Af 2]
def uJ:LSO:=[Ai 32 22 1,Aa 22 32]
def uI:LSO:=[o1 33 (.mkfn 164 [(tm 1)]),Aa 5 33]
def sN:LSO:=[Aa 34 5,BL 35 34 0,o1 36 (.bin .mul (tm 35) (iv 100)),Aa 37 5,BL 38 37 2,AX 39 36 38,Aa 40 5,BL 41 40 4,Aa 42 5,BL 43 42 6,Aa 6 39,Aa 7 41,Aa 8 43]
def sM:LSO:=[Aa 44 7,AJ 45 44 1,Aa 46 45,.grp none 46 false
 [Ag 47 46 7,AC 48 46 47 12]
 49 (tm 48),Aa 50 49,.grp none 50 false
 [Ag 51 50 8,Bh 52 50 51 1]
 53 (tm 52),Aa 54 53,.grp none 54 false
 [Ag 55 54 5,Cg 56 54 55 8,AC 57 54 56 23]
 58 (tm 57),Aa 59 58,.grp none 59 false
 [Ag 60 59 5,Cg 61 59 60 10,AC 62 59 61 59]
 63 (tm 62),Aa 64 63,.grp none 64 false
 [Ag 65 64 5,Cg 66 64 65 12,AC 67 64 66 59]
 68 (tm 67)]
def sL:LSO:=[Af 2]
def sK:LSO:=[Aa 69 7,Bb 70 69 1,o1 71 (.iaddrA 12 1 (.av (.gptr 2 0)) (tm 70)),Ab 72 1 71,Aa 9 72]
def sJ:LSO:=[Aa 73 7,An 74 73 2,Aa 75 74,.grp none 75 true
 [Ae 76 75 6,BM 77 75 76 4,AP 78 75 77 0,Ae 79 75 78,.grp (some (75,true)) 79 true
 [Ae 80 79 6,BM 81 79 80 100,Br 82 79 81 0]
 83 (tm 82),Ae 84 75 83,.grp (some (75,true)) 84 false
 [Ag 85 84 6,og 86 84 false (.bin .rem (tm 85) (iv 400)),AH 87 84 86 0]
 88 (tm 87)]
 89 (tm 88)]
def sI:LSO:=[Aa 90 9,Ai 91 90 1,Aa 9 91]
def sH:LSO:=[Aa 92 8,Aa 93 9,o1 94 (.bin .leq (tm 92) (tm 93)),Aa 2 94]
def pr:aK:=⟨95,(asI uR [] (.seq (asI uQ CA (asK 17 (.sreg uP []))) (.seq (asI uO CW (asL 0 (asI uN [] (.seq (asM 23 0) (.seq (.block 1 (asI uM C6 (asI uL C7 (asK 31 (.sreg uK []))))) (.sreg uJ C4)))))) (asI uI C4 (asI sN [true,true,true,false,false,false,false,false,false,false,false,false,false] (.seq (asI sM CK (asK 68 (.sreg sL []))) (asI sK CA (.seq (asI sJ C7 (asJ 89 (.sreg sI C6) .skip)) (asI sH C7 .ret))))))))),[(.tmp 2)]⟩
attribute [push_cast] uR uQ uP uO uN uM uL uK uJ uI sN sM sL sK sJ sI sH
theorem S4:asN 110=asO pr:=asR
def qB:LSO:=[Ac 3 0]
def qA:LSO:=[Ab 4 1 1,Aa 5 0,AK 6 4 5,BN 7 6,Bz 8 7,o1 9 (.bin .mul (tm 8) (iv 10)),Ab 10 1 1,Aa 11 0,Ai 12 11 1,AK 13 10 12,BN 14 13,Bz 15 14,AX 16 9 15,
 Aa 3 16]
def lS:aK:=⟨17,(asI qB [] (.seq (.sdreg qA [(.read 0 0),.pure,(.read 0 0),.pure,.pure,.pure,(.read 0 0),.pure,.pure,(.read 0 0),.pure,.pure] Da) .ret)),[(.tmp 3)]⟩
attribute [push_cast] qB qA
theorem Oj:asN 164=asO lS:=asR
def uH:LSO:=[Ac 2 0,Af 3]
def uG:LSO:=[Aa 7 0,o1 8 (.call 162 [(tm 7),(iv 10),(iv 64)]),Aa 6 8,Ao 9 6,Aq 10 6,Aa 4 9,Aa 5 10]
def uF:LSO:=[Aa 11 4,Aa 12 5,o1 13 (.eqk false .iface (tm 12) (.av .nilif)),Aa 14 13,.grp none 14 true
 [Ae 15 14 4,og 16 14 true (.call 163 [(tm 15),(iv 10)]),Ae 17 14 0,B0 18 14 16 17]
 19 (tm 18),Aa 2 11,Aa 3 19]
def pq:aK:=⟨20,(asI uH [] (asI uG CH (asI uF CH .ret))),[(.tmp 2),(.tmp 3)]⟩
attribute [push_cast] uH uG uF
theorem SZ:asN 108=asO pq:=asR
def uT:LSO:=[Af 2]
def uS:LSO:=[Aa 3 0,o1 4 (.bin .geq (tm 3) (.av (.int .i32 128))),Aa 2 4]
def pu:aK:=⟨5,(asI uT [] (asI uS C6 .ret)),[(.tmp 2)]⟩
attribute [push_cast] uT uS
theorem S5:asN 107=asO pu:=asR
def mC:LSO:=[Ac 4 0]
def mB:LSO:=[Aa 5 0,Aa 6 1,o1 7 (.call 161 [(tm 5),(tm 6),(.av (.bool true))]),Aa 4 7]
def jp:aK:=⟨8,(asI mC [] (asI mB C7 .ret)),[(.tmp 4)]⟩
attribute [push_cast] mC mB
theorem E5:asN 106=asO jp:=asR
def mA:LSO:=[Ac 6 0]
def mz:LSO:=[Aa 9 0,o1 10 (.rangeS (tm 9))]
def mw:LSO:=[o1 11 (.nextS (tm 10)),Ao 12 11]
def mu:LSO:=[Aq 13 11,Ba 14 11,Aa 7 13,Aa 8 14]
def mr:LSO:=[Aa 15 1,Aa 16 8,B1 17 15 16,Aa 18 2,o1 19 (.eqk false .bool (tm 17) (tm 18))]
def mq:LSO:=[Aa 20 7,Aa 6 20]
def mo:LSO:=[Ac 6 (-1)]
def jo:aK:=⟨21,(asI mA [] (.seq (asI mz C4 (asL 0 (asI mw [] (.seq (asM 12 0) (.block 1 (asI mu CL (asI mr CA (asK 19 (.sreg mq C4))))))))) (asI mo [] .ret))),[(.tmp 6)]⟩
attribute [push_cast] mA mz mw mu mr mq mo
theorem EZ:asN 161=asO jo:=asR
def QS:LSO:=[Af 2]
def QR:LSO:=[Aa 7 0,Ax 8 7,A8 9 8 0]
def QQ:LSO:=[Aa 10 0,BO 11 10 0,Bz 12 11,Aa 3 12]
def QP:LSO:=[Ac 4 1]
def QO:LSO:=[Aa 13 3,AL 14 13 240]
def QN:LSO:=[Ac 4 4]
def QM:LSO:=[Aa 15 3,Bb 16 15 240,Aa 3 16]
def QL:LSO:=[Aa 17 3,AL 18 17 224]
def QK:LSO:=[Ac 4 3]
def QJ:LSO:=[Aa 19 3,Bb 20 19 224,Aa 3 20]
def LV:LSO:=[Aa 21 3,AL 22 21 192]
def LU:LSO:=[Ac 4 2]
def LT:LSO:=[Aa 23 3,Bb 24 23 192,Aa 3 24]
def LS:LSO:=[Aa 25 3,AL 26 25 128]
def LR:LSO:=[Af 2]
def LQ:LSO:=[Aa 27 0,Ax 28 27,Aa 29 4,Al 30 28 29]
def LP:LSO:=[Af 2]
def LO:LSO:=[Ac 5 1]
def LN:LSO:=[Aa 31 5,Aa 32 4,Al 33 31 32]
def LM:LSO:=[Aa 36 0,Aa 37 5,AK 38 36 37,Bz 39 38,Aa 6 39]
def LL:LSO:=[Aa 40 6,AJ 41 40 128,Aa 42 41,.grp none 42 false
 [Ag 43 42 6,BP 44 42 43 192]
 45 (tm 44)]
def LK:LSO:=[Af 2]
def LJ:LSO:=[Aa 46 3,o1 47 (.bin .mul (tm 46) (iv 64)),Aa 48 6,AX 49 47 48,Bb 50 49 128,Aa 3 50]
def LI:LSO:=[Aa 34 5,Ai 35 34 1,Aa 5 35]
def LH:LSO:=[Aa 51 4,An 52 51 2,Aa 53 52,.grp none 53 true
 [Ae 54 53 3,B8 55 53 54 128]
 56 (tm 55),Aa 57 56,.grp none 57 false
 [Ag 58 57 4,AH 59 57 58 3,Ag 60 57 59,.grp (some (57,false)) 60 true
 [Ae 61 60 3,B8 62 60 61 2048]
 63 (tm 62)]
 64 (tm 63),Aa 65 64,.grp none 65 false
 [Ag 66 65 4,AH 67 65 66 4,Ag 68 65 67,.grp (some (65,false)) 68 true
 [Ae 69 68 3,B8 70 68 69 65536]
 71 (tm 70)]
 72 (tm 71),Aa 73 72,.grp none 73 false
 [Ag 74 73 3,AC 75 73 74 1114111]
 76 (tm 75),Aa 77 76,.grp none 77 false
 [Ag 78 77 3,BP 79 77 78 55296,Ag 80 77 79,.grp (some (77,false)) 80 true
 [Ae 81 80 3,B8 82 80 81 57344]
 83 (tm 82)]
 84 (tm 83)]
def LG:LSO:=[Af 2]
def LF:LSO:=[Aa 85 0,Aa 86 4,BQ 87 85 86,Aa 0 87]
def LE:LSO:=[A0 2]
def Oo:aK:=⟨88,(asI QS [] (.seq (asL 0 (.seq (asI QR C6 (asM 9 0)) (.block 1 (asI QQ C7 (asI QP [] (.seq (asI QO C4 (asJ 14 (asI QN [] (.sreg QM C6)) (asI QL C4 (asJ 18 (asI QK [] (.sreg QJ C6)) (asI LV C4 (asJ 22 (asI LU [] (.sreg LT C6)) (asI LS C4 (asK 26 (.sreg LR []))))))))) (.seq (asI LQ C7 (asK 30 (.sreg LP []))) (.seq (asI LO [] (asL 2 (.seq (asI LN C6 (asM 33 2)) (.seq (.block 3 (asI LM CA (.seq (asI LL C7 (asK 45 (.sreg LK []))) (.sreg LJ CB)))) (.sreg LI C6))))) (.seq (asI LH CK (asK 84 (.sreg LG []))) (.sreg LF C7)))))))))) (asI LE [] .ret))),[(.tmp 2)]⟩
attribute [push_cast] QS QR QQ QP QO QN QM QL QK QJ LV LU LT LS LR LQ LP LO LN LM LL LK LJ LI LH LG LF LE
theorem aat:asN 138=asO Oo:=asR
def yV:LSO:=[Af 2]
def yU:LSO:=[Ac 3 0]
def yT:LSO:=[Aa 4 3,Aa 5 0,Ax 6 5,Al 7 4 6]
def yS:LSO:=[Aa 10 0,Aa 11 3,AK 12 10 11,o1 13 (.bin .lss (tm 12) (.av (.int .u8 48))),Aa 14 13,.grp none 14 false
 [Ag 15 14 0,Ag 16 14 3,B3 17 14 15 16,og 18 14 false (.bin .gtr (tm 17) (.av (.int .u8 57)))]
 19 (tm 18)]
def yR:LSO:=[Af 2]
def yQ:LSO:=[Aa 8 3,Ai 9 8 1,Aa 3 9]
def yP:LSO:=[Aa 20 0,Ax 21 20,A8 22 21 0,Aa 2 22]
def tF:aK:=⟨23,(asI yV [] (.seq (asI yU [] (asL 0 (.seq (asI yT C7 (asM 7 0)) (.seq (.block 1 (asI yS CB (asK 19 (.sreg yR [])))) (.sreg yQ C6))))) (asI yP C7 .ret))),[(.tmp 2)]⟩
attribute [push_cast] yV yU yT yS yR yQ yP
theorem Wl:asN 189=asO tF:=asR
def yE:LSO:=[Af 2]
def yD:LSO:=[Aa 4 0,o1 5 (.bin .eql (tm 4) (.av (.str [48])))]
def yC:LSO:=[A0 2]
def yB:LSO:=[o1 3 (.mv (.av (.str [57,50,50,51,51,55,50,48,51,54,56,53,52,55,55,53,56,48,55])))]
def yA:LSO:=[Aa 6 0,Ax 7 6,A8 8 7 0,Aa 9 8,.grp none 9 true
 [Ae 10 9 0,og 11 9 true (.idxS (tm 10) (iv 0)),og 12 9 true (.bin .eql (tm 11) (.av (.int .u8 45)))]
 13 (tm 12)]
def yz:LSO:=[Aa 14 0,o1 15 (.slS (tm 14) (some (iv 1)) none),Aa 0 15]
def yy:LSO:=[o1 3 (.mv (.av (.str [57,50,50,51,51,55,50,48,51,54,56,53,52,55,55,53,56,48,56])))]
def yx:LSO:=[Aa 16 0,Aj 17 189 16,Aa 18 17,.grp none 18 true
 [Ae 19 18 0,og 20 18 true (.idxS (tm 19) (iv 0)),og 21 18 true (.bin .neq (tm 20) (.av (.int .u8 48)))]
 22 (tm 21),Aa 23 22,.grp none 23 true
 [Ae 24 23 0,og 25 23 true (.len true (tm 24)),B8 26 23 25 19,Ae 27 23 26,.grp (some (23,true)) 27 false
 [Ag 28 27 0,Bt 29 27 28,AH 30 27 29 19,Ag 31 27 30,.grp (some (27,false)) 31 true
 [Ae 32 31 0,Ae 33 31 3,og 34 31 true (.bin .leq (tm 32) (tm 33))]
 35 (tm 34)]
 36 (tm 35)]
 37 (tm 36),Aa 2 37]
def tD:aK:=⟨38,(asI yE [] (.seq (asI yD C4 (asK 5 (.sreg yC []))) (asI yB [] (.seq (asI yA CA (asJ 13 (asI yz C6 (.sreg yy [])) .skip)) (asI yx CC .ret))))),[(.tmp 2)]⟩
attribute [push_cast] yE yD yC yB yA yz yy yx
theorem Wj:asN 139=asO tD:=asR
def QZ:LSO:=[Ac 2 0]
def QY:LSO:=[Ac 3 0]
def QX:LSO:=[Ac 4 0]
def QW:LSO:=[Aa 5 4,Aa 6 0,Ax 7 6,Al 8 5 7]
def QV:LSO:=[Aa 11 3,o1 12 (.bin .mul (iv 10) (tm 11)),Aa 13 0,Aa 14 4,AK 15 13 14,BN 16 15,Bz 17 16,AX 18 12 17,Aa 3 18]
def QU:LSO:=[Aa 9 4,Ai 10 9 1,Aa 4 10]
def QT:LSO:=[Aa 19 3,Aa 2 19]
def Oq:aK:=⟨20,(asI QZ [] (asI QY [] (.seq (asI QX [] (asL 0 (.seq (asI QW C7 (asM 8 0)) (.seq (.block 1 (.sreg QV CM)) (.sreg QU C6))))) (asI QT C4 .ret)))),[(.tmp 2)]⟩
attribute [push_cast] QZ QY QX QW QV QU QT
theorem aau:asN 190=asO Oq:=asR
def yO:LSO:=[Af 2]
def yN:LSO:=[Aa 7 0,Ax 8 7,AB 9 8 15,Aa 10 9,.grp none 10 false
 [Ag 11 10 0,og 12 10 false (.slS (tm 11) none (some (iv 14))),AN 13 10 189 12,AZ 14 10 13]
 15 (tm 14),Aa 16 15,.grp none 16 false
 [Ag 17 16 0,Cf 18 16 17 14,og 19 16 false (.bin .neq (tm 18) (.av (.int .u8 90)))]
 20 (tm 19)]
def yM:LSO:=[Af 2]
def yL:LSO:=[Aa 21 0,o1 22 (.slS (tm 21) none (some (iv 4))),Aj 23 190 22,Aa 24 0,o1 25 (.slS (tm 24) (some (iv 4)) (some (iv 6))),Aj 26 190 25,Aa 27 0,
 o1 28 (.slS (tm 27) (some (iv 6)) (some (iv 8))),Aj 29 190 28,Aa 3 23,Aa 4 26,Aa 5 29]
def yK:LSO:=[Aa 30 4,AJ 31 30 1,Aa 32 31,.grp none 32 false
 [Ag 33 32 4,AC 34 32 33 12]
 35 (tm 34),Aa 36 35,.grp none 36 false
 [Ag 37 36 5,Bh 38 36 37 1]
 39 (tm 38),Aa 40 39,.grp none 40 false
 [Ag 41 40 0,Ch 42 40 41 8 10,AN 43 40 190 42,AC 44 40 43 23]
 45 (tm 44),Aa 46 45,.grp none 46 false
 [Ag 47 46 0,Ch 48 46 47 10 12,AN 49 46 190 48,AC 50 46 49 59]
 51 (tm 50),Aa 52 51,.grp none 52 false
 [Ag 53 52 0,Ch 54 52 53 12 14,AN 55 52 190 54,AC 56 52 55 59]
 57 (tm 56)]
def yJ:LSO:=[Af 2]
def yI:LSO:=[Ac 6 31]
def yH:LSO:=[Aa 58 4,An 59 58 4,Aa 60 59,.grp none 60 false
 [Ag 61 60 4,AH 62 60 61 6]
 63 (tm 62),Aa 64 63,.grp none 64 false
 [Ag 65 64 4,AH 66 64 65 9]
 67 (tm 66),Aa 68 67,.grp none 68 false
 [Ag 69 68 4,AH 70 68 69 11]
 71 (tm 70)]
def yG:LSO:=[Ac 6 30]
def yF:LSO:=[Aa 72 4,An 73 72 2]
def vA:LSO:=[Ac 6 28]
def vz:LSO:=[Aa 74 3,o1 75 (.bin .rem (tm 74) (iv 400)),An 76 75 0,Aa 77 76,.grp none 77 false
 [Ag 78 77 3,og 79 77 false (.bin .rem (tm 78) (iv 4)),AH 80 77 79 0,Ag 81 77 80,.grp (some (77,false)) 81 true
 [Ae 82 81 3,BM 83 81 82 100,Br 84 81 83 0]
 85 (tm 84)]
 86 (tm 85)]
def vy:LSO:=[Ac 6 29]
def vx:LSO:=[Aa 87 5,Aa 88 6,o1 89 (.bin .leq (tm 87) (tm 88)),Aa 2 89]
def tE:aK:=⟨90,(asI yO [] (.seq (asI yN CC (asK 20 (.sreg yM []))) (.seq (.sdreg yL [.pure,(.read 0 0),(.read 0 0),.pure,(.read 0 0),(.read 0 0),.pure,(.read 0 0)] Dk) (.seq (asI yK CK (asK 57 (.sreg yJ []))) (asI yI [] (.seq (asI yH CE (asJ 71 (.sreg yG []) .skip)) (.seq (asI yF C4 (asJ 73 (asI vA [] (asI vz CA (asJ 86 (.sreg vy []) .skip))) .skip)) (asI vx C7 .ret)))))))),[(.tmp 2)]⟩
attribute [push_cast] yO yN yM yL yK yJ yI yH yG yF vA vz vy vx
theorem Wk:asN 141=asO tE:=asR
def Mb:LSO:=[Aw 4,Af 5]
def Ma:LSO:=[Aa 9 1,Ax 10 9,A8 11 10 4096]
def L9:LSO:=[Aw 4,Af 5]
def L8:LSO:=[Aa 12 0]
def L7:LSO:=[An 14 12 1,Aa 13 14]
def L6:LSO:=[Aa 15 1,Ax 16 15,A8 17 16 0,Aa 18 17,.grp none 18 true
 [Ae 19 18 1,Bc 20 18 138 19]
 21 (tm 20)]
def LZ:LSO:=[Aa 22 1,Aj 23 135 22,Aa 4 23,A0 5]
def LY:LSO:=[An 25 12 2,Aa 24 25]
def LX:LSO:=[Aa 26 1,Ax 27 26,A8 28 27 0,Aa 29 28,.grp none 29 true
 [Ae 30 29 1,Bc 31 29 138 30]
 32 (tm 31)]
def LW:LSO:=[Aa 33 1,Aa 4 33,A0 5]
def Hj:LSO:=[An 35 12 3,Aa 34 35]
def Hi:LSO:=[Ac 6 0]
def Hh:LSO:=[Aa 36 6,Aa 37 1,Ax 38 37,Al 39 36 38]
def Hg:LSO:=[Aa 42 1,Aa 43 6,AK 44 42 43,o1 45 (.bin .geq (tm 44) (.av (.int .u8 128)))]
def Hf:LSO:=[Aw 4,Af 5]
def He:LSO:=[Aa 40 6,Ai 41 40 1,Aa 6 41]
def Hd:LSO:=[Aa 46 1,Aj 47 135 46,Aa 4 47,A0 5]
def Hc:LSO:=[An 49 12 4,Aa 48 49]
def Hb:LSO:=[Aa 50 1,Aj 51 139 50]
def Ha:LSO:=[Aa 52 1,Aa 4 52,A0 5]
def G9:LSO:=[An 54 12 5,Aa 53 54]
def G8:LSO:=[Aa 55 1,o1 56 (.bin .eql (tm 55) (.av (.str [84,82,85,69]))),Aa 57 56,.grp none 57 false
 [Ag 58 57 1,og 59 57 false (.bin .eql (tm 58) (.av (.str [70,65,76,83,69])))]
 60 (tm 59)]
def G7:LSO:=[Aa 61 1,Aa 4 61,A0 5]
def G6:LSO:=[An 63 12 6,Aa 62 63]
def G5:LSO:=[Aa 65 1,Aj 66 140 65,Aa 64 66,Ao 67 64,Aq 68 64,Aa 7 67,Aa 8 68]
def G4:LSO:=[Aa 69 8,An 70 69 0]
def G3:LSO:=[Aa 71 7,Aa 4 71,A0 5]
def G2:LSO:=[An 73 12 7,Aa 72 73]
def G1:LSO:=[Aa 74 1,Aa 4 74,A0 5]
def G0:LSO:=[An 76 12 8,Aa 75 76]
def GZ:LSO:=[Aa 77 1,Aj 78 141 77]
def GY:LSO:=[Aa 79 1,Aa 4 79,A0 5]
def GX:LSO:=[Aw 4,Af 5]
def Fc:aK:=⟨80,(asI Mb [] (.seq (asI Ma C6 (asK 11 (.sreg L9 []))) (.seq (asI L8 [] (.block 0 (asI L7 C4 (asJ 13 (asI L6 CA (asK 21 (.sreg LZ CL))) (asI LY C4 (asJ 24 (asI LX CA (asK 32 (.sreg LW CD))) (asI Hj C4 (asJ 34 (.seq (asI Hi [] (asL 1 (.seq (asI Hh C7 (asM 39 1)) (.seq (.block 2 (asI Hg C7 (asK 45 (.sreg Hf [])))) (.sreg He C6))))) (asI Hd CL .ret)) (asI Hc C4 (asJ 48 (asI Hb C4 (asK 51 (.sreg Ha CD))) (asI G9 C4 (asJ 53 (asI G8 C7 (asK 60 (.sreg G7 CD))) (asI G6 C4 (asJ 62 (asI G5 CH (asI G4 C4 (asK 70 (.sreg G3 CD)))) (asI G2 C4 (asJ 72 (asI G1 CD .ret) (asI G0 C4 (asJ 75 (asI GZ C4 (asK 78 (.sreg GY CD))) .skip)))))))))))))))))) (asI GX [] .ret)))),[(.tmp 4),(.tmp 5)]⟩
attribute [push_cast] Mb Ma L9 L8 L7 L6 LZ LY LX LW Hj Hi Hh Hg Hf He Hd Hc Hb Ha G9 G8 G7 G6 G5 G4 G3 G2 G1 G0 GZ GY GX
theorem YA:asN 92=asO Fc:=asR
def FE:LSO:=[Aw 4,Af 5]
def FD:LSO:=[Aa 10 1,Ax 11 10,A8 12 11 4096]
def FC:LSO:=[Aw 4,Af 5]
def FB:LSO:=[Aa 13 1,Aa 6 13,Af 7]
def FA:LSO:=[Aa 14 0]
def Fz:LSO:=[An 16 14 1,Aa 15 16]
def Fy:LSO:=[Aa 17 1,Aj 18 104 17,Aa 19 1,Ci 20 19,Aa 21 20,.grp none 21 true
 [Ae 22 21 1,Bc 23 21 105 22]
 24 (tm 23),Aa 6 18,Aa 7 24]
def Fx:LSO:=[An 26 14 2,Aa 25 26]
def Fw:LSO:=[Aa 27 1,Ci 28 27,Aa 29 28,.grp none 29 true
 [Ae 30 29 1,Bc 31 29 105 30]
 32 (tm 31),Aa 7 32]
def Fv:LSO:=[An 34 14 3,Aa 33 34]
def xF:LSO:=[Aa 35 1,Aj 36 104 35,Aa 37 1,o1 38 (.call 106 [(tm 37),(.av (.func 107 []))]),AJ 39 38 0,Aa 6 36,Aa 7 39]
def xE:LSO:=[An 41 14 4,Aa 40 41]
def xD:LSO:=[Aa 43 1,Aj 44 108 43,Aa 42 44,Ao 45 42,Aq 46 42,Aa 7 46]
def xC:LSO:=[An 48 14 5,Aa 47 48]
def xB:LSO:=[Aa 49 1,o1 50 (.bin .eql (tm 49) (.av (.str [84,82,85,69]))),Aa 51 50,.grp none 51 false
 [Ag 52 51 1,og 53 51 false (.bin .eql (tm 52) (.av (.str [70,65,76,83,69])))]
 54 (tm 53),Aa 7 54]
def xA:LSO:=[An 56 14 6,Aa 55 56]
def xz:LSO:=[Aa 58 1,Aj 59 109 58,Aa 57 59,Ao 60 57,Aq 61 57,Aa 8 60,Aa 9 61]
def xy:LSO:=[Aa 62 8,Aa 63 9,An 64 63 0,Aa 6 62,Aa 7 64]
def xx:LSO:=[An 66 14 7,Aa 65 66]
def xw:LSO:=[A0 7]
def xu:LSO:=[An 68 14 8,Aa 67 68]
def xt:LSO:=[Aa 69 1,Aj 70 110 69,Aa 7 70]
def xr:LSO:=[Aa 71 7,A7 72 71]
def xq:LSO:=[Aw 4,Af 5]
def xo:LSO:=[Aa 73 6,Aa 4 73,A0 5]
def wo:aK:=⟨74,(asI FE [] (.seq (asI FD C6 (asK 12 (.sreg FC []))) (asI FB CD (.seq (asI FA [] (.block 0 (asI Fz C4 (asJ 15 (.sreg Fy CI) (asI Fx C4 (asJ 25 (.sreg Fw CA) (asI Fv C4 (asJ 33 (.sreg xF CH) (asI xE C4 (asJ 40 (.sreg xD CB) (asI xC C4 (asJ 47 (.sreg xB CA) (asI xA C4 (asJ 55 (asI xz CH (.sreg xy CF)) (asI xx C4 (asJ 65 (.sreg xw []) (asI xu C4 (asJ 67 (.sreg xt C6) .skip)))))))))))))))))) (.seq (asI xr C4 (asK 72 (.sreg xq []))) (asI xo CD .ret)))))),[(.tmp 4),(.tmp 5)]⟩
attribute [push_cast] FE FD FC FB FA Fz Fy Fx Fw Fv xF xE xD xC xB xA xz xy xx xw xu xt xr xq xo
theorem WV:asN 68=asO wo:=asR
def xm:LSO:=[Ac 6 0,Af 7]
def xl:LSO:=[Aa 17 0,Aa 18 1,As 19 68 17 18,Aa 16 19,Ao 20 16,Aq 21 16,Aa 8 20,Aa 9 21]
def xk:LSO:=[Aa 23 0,Aa 24 2,As 25 68 23 24,Aa 22 25,Ao 26 22,Aq 27 22,Aa 10 26,Aa 11 27]
def xj:LSO:=[Aa 28 9,A7 29 28,Aa 30 29,.grp none 30 false
 [Ag 31 30 11,AZ 32 30 31]
 33 (tm 32),Aa 34 33,.grp none 34 false
 [Ag 35 34 0,AH 36 34 35 5]
 37 (tm 36),Aa 38 37,.grp none 38 false
 [Ag 39 38 0,AH 40 38 39 6]
 41 (tm 40),Aa 42 41,.grp none 42 false
 [Ag 43 42 0,AH 44 42 43 7]
 45 (tm 44)]
def xh:LSO:=[Ac 6 0,Af 7]
def xg:LSO:=[Aa 46 0,An 47 46 4]
def xf:LSO:=[Aa 49 8,Aj 50 108 49,Aa 48 50,Ao 51 48,Aq 52 48,Aa 12 51,Aa 13 52]
def xe:LSO:=[Aa 54 10,Aj 55 108 54,Aa 53 55,Ao 56 53,Aq 57 53,Aa 14 56,Aa 15 57]
def xd:LSO:=[Aa 58 12,Aa 59 14,As 60 117 58 59,Aa 6 60,A0 7]
def xc:LSO:=[Aa 61 8,Aa 62 10,As 63 118 61 62,Aa 6 63,A0 7]
def tx:aK:=⟨64,(asI xm [] (asI xl CI (asI xk CI (.seq (asI xj CG (asK 45 (.sreg xh []))) (.seq (asI xg C4 (asJ 47 (asI xf Db (asI xe Db (asI xd CF .ret))) .skip)) (asI xc CF .ret)))))),[(.tmp 6),(.tmp 7)]⟩
attribute [push_cast] xm xl xk xj xh xg xf xe xd xc
theorem Wh:asN 75=asO tx:=asR
attribute [push_cast] lS pu jp jo Oo tF Oq tx
variable {L:List Blk}{K:apr}
set_option maxHeartbeats 8000000
set_option maxRecDepth 100000
theorem agz{x:Int}{L:List Blk}{K:apr}(h:K (.bool (decide ((128:Int)<=x))) L):apq 107 [.int .i32 x] L K:=by replace h:=hid h;refine apo S5 ?_;exact aa h.o
def Xl(s:List UInt8):Bool:=s.all λc=>decide (c.toNat<128)
theorem anz{s:List UInt8}(C:s.length<=1100000)(h:Xl s=true->K (.int .i64 (-1)) L)(d:∀k:Nat,Xl s=false->K (.int .i64 (k:Int)) L):
  apq 161 [.str s,.func 107 [],.bool true] L K:=by
 replace h:=hid h;replace d:=hid d;refine apo EZ ?_;refine aj (λn T' L'=>∃p,n=s.length-p/\p<=s.length/\Hid (Xl (s.take p)=true)/\T'=[(10,.ptr L.length 0),(1,.func 107 []),(2,.bool true)]/\L'=L++[.siter s p]) asT ⟨0,rfl,apv _,hid rfl,rfl,rfl⟩ ?_;rintro _ _ _ ⟨p,rfl,A,g,rfl,rfl⟩;by_cases b:p<s.length;obtain⟨c,i⟩:=apl (s.getD p 0);have B:=c.toNat_lt;have j:s.take (p+1)=s.take p++[c]:=by rw[apK b,<- i];simp[b]
 have a:Xl (s.take (p+1))=decide (c.toNat<128):=by have:=g.o;unfold Xl at this⊢;rw[j,asn,this];simp
 by_cases l:c.toNat<128;have u:=aac b (by rw[i];exact l);rw[i]at u;have w0:IntKind.i32.wrap (c.toNat:Int)=(c.toNat:Int):=Y7 asP asP;have w:¬(128:Int)<=(c.toNat:Int):=asP;replace a:=hid (a.trans (decide_eq_true l));clear i l j;have kk1:=@hid _ @agz;refine wk ?_;exact asU asP asT ⟨p+1,rfl,b,a,rfl,rfl⟩;have v:=abW b (by rw[i];omega);obtain⟨⟨x,z⟩,u⟩:∃q,Yr s p=q:=⟨_,rfl⟩;rw[u]at v;simp only at v;have w:(128:Int)<=(x:Int):=asP;have f:Xl s=false:=by rw[<- aq7];intro e;have y:c∈s:=(by rw[<- i];simp[b]);have:=apF.1 e c y;simp at this;omega
 have r:=hid (d.o p f);clear i l j a f;have kk1:=@hid _ @agz;refine wk ?_;exact ac rfl r.o;have m:p=s.length:=asP;subst m;have t:=g.o;rw[apJ]at t;have r:=hid (h.o t);clear t;refine wk ?_;exact ac rfl r.o
theorem ajS{s:List UInt8}(d:s.length<=1100000)(b:Xl s=true->K (.int .i64 (-1)) L)(a:∀k:Nat,Xl s=false->K (.int .i64 (k:Int)) L):
  apq 106 [.str s,.func 107 []] L K:=by
 replace b:=hid b;replace a:=hid a;refine apo E5 ?_;refine anz d (λe=>?_) (λk e=>?_);have c:=hid (b.o e);refine asX ?_;exact aa c.o;have c:=hid (a.o k e);refine asX ?_;exact aa c.o
def dig(v:List UInt8)(i:Nat):Nat:=(v.getD i 0).toNat-48
def two(v:List UInt8)(i:Nat):Nat:=10*dig v i+dig v (i+1)
def ia(c:UInt8):Bool:=decide (48<=c.toNat)&&decide (c.toNat<=57)
def ajJ(y:Nat):Bool:=decide (y%4=0) && !decide (y%100=0) ||decide (y%400=0)
def acV(m:Nat):Nat:=if m=2 then 28 else if m=4\/m=6\/m=9\/m=11 then 30 else 31
def abE(y m:Nat):Nat:=if m=2/\ajJ y=true then acV m+1 else acV m
def aes(v:List UInt8):Bool:=decide ((1<=two v 4/\two v 4<=12)/\1<=two v 6/\two v 8<=23/\two v 10<=59/\two v 12<=59)&&decide (two v 6<=abE (two v 0*100+two v 2) (two v 4))
def N1(v:List UInt8):Bool:=decide (v.length=15)&&decide (v.getD 14 0=90)&&(v.take 14).all ia&&aes v
theorem aog{v:List UInt8}{i p:Nat}{z:Int}(n:z=(i:Int))(u:i+1<v.length)(C:v.length<=1000)(d:ia (v.getD i 0)=true)(e:ia (v.getD (i+1) 0)=true)(A:L[p]?=some (.cells [.str v]))(h:K (.int .i64 (two v i:Nat)) L):
  apq 164 [.int .i64 z,.ptr p 0] L K:=by
 subst n;unfold two dig at h;obtain⟨a,m⟩:=apl (v.getD i 0);obtain⟨b,k⟩:=apl (v.getD (i+1) 0);rw[m]at d h;rw[k]at e h;simp only[ia,apw,decide_eq_true_eq]at d e;obtain⟨x,g⟩:∃x:Nat,a.toNat=48+x:=⟨a.toNat-48,asP⟩;obtain⟨y,q⟩:∃y:Nat,b.toNat=48+y:=⟨b.toNat-48,asP⟩;have f:x<=9:=asP;have j:y<=9:=asP;rw[show 10*(a.toNat-48)+(b.toNat-48)=10*x+y by omega]at h;have r:(a.toNat:Int)=48+(x:Int):=asP;have l:(b.toNat:Int)=48+(y:Int):=asP;have g1:(i:Int)<(v.length:Int):=asP;have G:=apn i asP;have g3:(i:Int)+1<(v.length:Int):=asP;have g4:((i:Int)+1).toNat=i+1:=asP;have E:(0:Int)<=(i:Int)+1:=asP;have D:IntKind.u8.wrap (48+(x:Int)-48)=(x:Int):=by rw[dx asP asP];omega
 have F:IntKind.u8.wrap (48+(y:Int)-48)=(y:Int):=by rw[dx asP asP];omega
 have t:IntKind.i64.wrap (x:Int)=(x:Int):=ae asP asP;have B:IntKind.i64.wrap (y:Int)=(y:Int):=ae asP asP;have w:IntKind.i64.wrap ((x:Int)*10)=(x:Int)*10:=ae asP asP;have s:IntKind.i64.wrap ((x:Int)*10+(y:Int))=(x:Int)*10+(y:Int):=ae asP asP;have c:K (.int .i64 ((x:Int)*10+(y:Int))) L:=by rwa[show((10*x+y:Nat):Int)=(x:Int)*10+(y:Int)by omega]at h
 replace c:=hid c;clear h d e g q;refine apo Oj ?_;exact aa c.o
theorem ama{m:Nat}(c:1<=m)(b:m<=12){l:List AV}(a:gb 2=some l):l.getD (m-1) .undef=.int .i64 (acV m:Nat)/\l.length=12:=by
 have e:gb 2=some [.int .i64 31,.int .i64 28,.int .i64 31,.int .i64 30,.int .i64 31,.int .i64 30,.int .i64 31,.int .i64 31,.int .i64 30,.int .i64 31,.int .i64 30,.int .i64 31]:=by rfl
 rw[e]at a;cases a;have:m=1\/m=2\/m=3\/m=4\/m=5\/m=6\/m=7\/m=8\/m=9\/m=10\/m=11\/m=12:=asP;rcases this with rfl|rfl|rfl|rfl|rfl|rfl|rfl|rfl|rfl|rfl|rfl|rfl<;>exact⟨rfl,rfl⟩
theorem kF{v:List UInt8}{i:Nat}(a:ia (v.getD i 0)=true)(b:ia (v.getD (i+1) 0)=true):two v i<=99:=by simp only[ia,apw,decide_eq_true_eq]at a b;unfold two dig;omega
theorem adW{v:List UInt8}(hv:v.length<=1100000)(h:K (.bool (N1 v)) L):apq 110 [.str v] L K:=by
 have no:N1 v=false->K (.bool false) L:=λe=>by rw[<- e];exact h
 replace no:=hid no;replace h:=hid h;refine ab S4 (by simp[pr]) ?_;simp only[pr,ag];by_cases j:v.length=15;rotate_left;have f1:¬(v.length:Int)=15:=asP;have V:=hid (no.o (by simp[N1,j]));clear j;refine wk ?_;exact ac rfl V.o;have f1:(v.length:Int)=15:=asP;obtain⟨z,P⟩:=apl (v.getD 14 0);by_cases g:z=90;rotate_left;have f2:¬(z.toNat:Int)=90:=λe=>g ((bQ z 90).1 e)
 have V:=hid (no.o (by simp[N1,<- P]at g⊢;simp[g]));clear g;refine wk ?_;exact ac rfl V.o;have f2:(z.toNat:Int)=90:=by rw[g];rfl
 obtain⟨w,y⟩:=apl (v.take 14);have B:w.length=14:=by rw[<- y];simp[j]
 have f3:(14:Int)<=(v.length:Int):=asP;have Z:(u8s w).length=14:=by simp[u8s,B]
 have s:=hid (show w.all ia=false->K (.bool false) L from λe=>no.o (by simp[N1,y,e]));replace y:=hid y;have E:v.take 14=w:=y.o;have f4:(0:Int)<=14:=asP;refine wk ?_;refine aj (λn T' L'=>∃i:Nat,n=14-i/\i<=14/\Hid ((w.take i).all ia=true)/\T'=[(22,.int .i64 (i:Int)),(21,.int .i64 14),(20,.sl (u8s w) 14 none),(1,.ptr L.length 0)]/\L'=L++[.cells [.str v]]) asT ⟨0,rfl,apv _,hid rfl,rfl,rfl⟩ ?_;rintro _ _ _ ⟨i,rfl,R,q,rfl,rfl⟩;by_cases X:i<14
 .have g1:(i:Int)<14:=asP;have g2:=apn i asP;obtain⟨c,T⟩:=apl (w.getD i 0);have g3:(u8s w).getD i .undef=.int .u8 c.toNat:=(by rw[<- T];simp[u8s,show i<w.length by omega]);have hm:c∈w:=(by rw[<- T];simp[show i<w.length by omega]);have N:w.take (i+1)=w.take i++[c]:=(by rw[apK asP,<- T];simp[show i<w.length by omega]);have U:=hid λ(e:ia c=false)=>s.o (List.all_eq_false.2 ⟨c,hm,by rw[e];simp⟩)
  have F:=hid λ(e:ia c=true)=>show(w.take (i+1)).all ia=true by rw[N,asn,q.o];simp[e]
  clear T hm N E j B
  repeat' first
   |refine bG ?_
   | (first|refine bw asR ?_|refine aN asR ?_|refine aQ ?_|refine cS ?_|refine bJ (fun _=>?_)|refine aF ?_|refine bA ?_)
     refine sm ?_
   | (first|refine bq asR ?_|refine bm ?_|refine aP ?_|refine bz ?_|refine bO (aE ?_))
     refine sl ?_
   |exact bK
   |first|apply bL|apply br|apply bM|apply bu|apply bN|apply bv
   |refine aT ?_
   |refine aO ?_
   |first|refine aR rfl ?_|refine aS rfl ?_|refine aB rfl ?_ ?_|refine aW rfl (λ_=>?_) (λ_=>?_)|refine aV rfl (λ_=>?_) (λ_=>?_)
   |((first|refine aA (λ_=>?_) (λ_=>?_)|refine aD (λ_=>?_) (λ_=>?_))<;>try refine sm ?_)
   |refine And.intro trivial ?_
   |refine And.intro asP ?_
   |refine bd rfl (λ_=>?_) (λ_=>?_)
   |refine And.intro ?_ ?_
  rename_i Q;refine ac rfl (U.o ?_);simp only[ia,ar3,decide_eq_false_iff_not];omega;rename_i Q;refine asU asP asS ⟨i+1,rfl,asP,hid (F.o ?_),rfl,rfl⟩;simp only[ia,apw,decide_eq_true_eq];omega
 have ad:i=14:=asP;subst ad;have g1:¬((14:Nat):Int)<14:=asP;have u:=q.o;rw[ap2 asP]at u;have b:∀i,i<14->ia (v.getD i 0)=true:=λi R=>by refine apF.1 u _ ?_;rw[<- y.o];have:v.getD i 0=(v.take 14)[i]'(by simp;omega):=(by simp[show i<v.length by omega]);rw[this];exact aqr _
 have p:N1 v=aes v:=by simp only[N1,j,P,g,y.o,u];simp
 have x:∀i:Nat,i+1<14->∀(z:Int) (K:AV->List Blk->Prop),z=(i:Int)->K (.int .i64 (two v i:Nat)) (L++[.cells [.str v]])->apq 164 [.int .i64 z,.ptr L.length 0] (L++[.cells [.str v]]) K:=λi R z K P h =>
  aog P asP asP (b i asP) (b (i+1) R) (YX _ _ _) h
 have b0:=kF (b 0 asP) (b 1 asP);have b2:=kF (b 2 asP) (b 3 asP);have b4:=kF (b 4 asP) (b 5 asP);have b6:=kF (b 6 asP) (b 7 asP);have b8:=kF (b 8 asP) (b 9 asP);have ai:=kF (b 10 asP) (b 11 asP);have W:=kF (b 12 asP) (b 13 asP);have kk1:=@hid _ (λ{K:apr}=>x 0 asP 0 K rfl);have kk2:=@hid _ (λ{K:apr}=>x 2 asP 2 K rfl);have kk3:=@hid _ (λ{K:apr}=>x 4 asP 4 K rfl);have kk4:=@hid _ (λ{K:apr}=>x 6 asP 6 K rfl);have kk5:=@hid _ (λ{K:apr}=>x 8 asP 8 K rfl);have kk6:=@hid _ (λ{K:apr}=>x 10 asP 10 K rfl);have kk7:=@hid _ (λ{K:apr}=>x 12 asP 12 K rfl);have a:=h.o;rw[p]at a;unfold aes at a;obtain⟨Y,hY⟩:=apl (two v 0);obtain⟨r,J⟩:=apl (two v 2);obtain⟨M,hM⟩:=apl (two v 4);obtain⟨D,hD⟩:=apl (two v 6);obtain⟨H,hH⟩:=apl (two v 8);obtain⟨I,hI⟩:=apl (two v 10);obtain⟨S,hS⟩:=apl (two v 12);rw[hY]at b0 a kk1;rw[J]at b2 a kk2;rw[hM]at b4 a kk3;rw[hD]at b6 a kk4;rw[hH]at b8 a kk5;rw[hI]at ai a kk6;rw[hS]at W a kk7;clear hY J hM hD hH hI hS x p b u q E y s j B Z R X f1 f2 f3 f4 hv g P no h;have w1:IntKind.i64.wrap ((Y:Int)*100)=(Y:Int)*100:=ae asP asP;have w2:IntKind.i64.wrap ((Y:Int)*100+(r:Int))=(Y:Int)*100+(r:Int):=ae asP asP;have f:¬((1<=M/\M<=12)/\1<=D/\H<=23/\I<=59/\S<=59)->K (.bool false) L:=λe=>by rw[decide_eq_false e]at a;simpa using a
 replace f:=hid f;replace a:=hid a;by_cases m1:(M:Int)<1;refine wk ?_;exact ac rfl (f.o asP);by_cases m2:(12:Int)<(M:Int);refine wk ?_;exact ac rfl (f.o asP);by_cases m3:(D:Int)<1;refine wk ?_;exact ac rfl (f.o asP);by_cases m4:(23:Int)<(H:Int);refine wk ?_;exact ac rfl (f.o asP);by_cases m5:(59:Int)<(I:Int);refine wk ?_;exact ac rfl (f.o asP);by_cases m6:(59:Int)<(S:Int);refine wk ?_;exact ac rfl (f.o asP);have A:=hid (show decide (D<=abE (Y*100+r) M)=true\/decide (D<=abE (Y*100+r) M)=false by cases decide (D<=abE (Y*100+r) M)<;>simp);have d:=a.o;rw[show decide ((1<=M/\M<=12)/\1<=D/\H<=23/\I<=59/\S<=59)=true by simp;omega,ap0]at d;unfold abE ajJ at d;obtain⟨dn,t⟩:=apl (acV M);have ap:dn<=31:=by rw[<- t];unfold acV;split<;>(try split)<;>omega
 obtain⟨r4,G⟩:=apl ((Y*100+r)%4);obtain⟨O,k⟩:=apl ((Y*100+r)%100);obtain⟨C,l⟩:=apl ((Y*100+r)%400);rw[G,k,l,t]at d;have t4:Int.tmod ((Y:Int)*100+(r:Int)) 4=(r4:Int):=by rw[ary asP];omega
 have al:Int.tmod ((Y:Int)*100+(r:Int)) 100=(O:Int):=by rw[ary asP];omega
 have an:Int.tmod ((Y:Int)*100+(r:Int)) 400=(C:Int):=by rw[ary asP];omega
 have x1:IntKind.i64.wrap ((M:Int)-1)=(M:Int)-1:=ae asP asP;have x2:((M:Int)-1).toNat=M-1:=asP;have x3:(0:Int)<=(M:Int)-1:=asP;have x4:(M:Int)-1<12:=asP;obtain⟨x5,x6⟩:=ama (m:=M) asP asP aem;rw[t]at x5;have x7:=apn dn asP;replace d:=hid d;clear G k l t A
 repeat' first
  |refine bG ?_
  | (first|refine bw asR ?_|refine aN asR ?_|refine aQ ?_|refine cS ?_|refine bJ (fun _=>?_)|refine aF ?_|refine bA ?_|refine kk1.o ?_|refine kk2.o ?_|refine kk3.o ?_|refine kk4.o ?_|refine kk5.o ?_|refine kk6.o ?_|refine kk7.o ?_|refine bf (kk1.o ⟨rfl,rfl⟩) (kk1.o ⟨rfl,rfl⟩) ?_|refine bf (kk2.o ⟨rfl,rfl⟩) (kk2.o ⟨rfl,rfl⟩) ?_|refine bf (kk3.o ⟨rfl,rfl⟩) (kk3.o ⟨rfl,rfl⟩) ?_|refine bf (kk4.o ⟨rfl,rfl⟩) (kk4.o ⟨rfl,rfl⟩) ?_|refine bf (kk5.o ⟨rfl,rfl⟩) (kk5.o ⟨rfl,rfl⟩) ?_|refine bf (kk6.o ⟨rfl,rfl⟩) (kk6.o ⟨rfl,rfl⟩) ?_|refine bf (kk7.o ⟨rfl,rfl⟩) (kk7.o ⟨rfl,rfl⟩) ?_|refine aM (kk1.o ⟨rfl,rfl⟩) ?_|refine aM (kk2.o ⟨rfl,rfl⟩) ?_|refine aM (kk3.o ⟨rfl,rfl⟩) ?_|refine aM (kk4.o ⟨rfl,rfl⟩) ?_|refine aM (kk5.o ⟨rfl,rfl⟩) ?_|refine aM (kk6.o ⟨rfl,rfl⟩) ?_|refine aM (kk7.o ⟨rfl,rfl⟩) ?_)
    refine sm ?_
  | (first|refine bq asR ?_|refine bm ?_|refine aP ?_|refine bz ?_|refine bO (aE ?_))
    refine sl ?_
  |exact bK
  |first|apply bL|apply br|apply bM|apply bu|apply bN|apply bv
  |refine aT ?_
  |refine aO ?_
  |first|refine aR rfl ?_|refine aS rfl ?_|refine aB rfl ?_ ?_|refine aW rfl (λ_=>?_) (λ_=>?_)|refine aV rfl (λ_=>?_) (λ_=>?_)
  |((first|refine aA (λ_=>?_) (λ_=>?_)|refine aD (λ_=>?_) (λ_=>?_))<;>try refine sm ?_)
  |refine And.intro trivial ?_
  |refine And.intro asP ?_
  |refine bd rfl (λ_=>?_) (λ_=>?_)
  |refine And.intro ?_ ?_
 rename_i Q;refine ac rfl ?_;have e:=d.o;rw[if_pos ⟨asP,by simp;omega⟩]at e;rwa[show decide (D<=dn+1)=decide ((D:Int)<=(dn:Int)+1)by simp only[decide_eq_decide];omega]at e;rename_i Q;refine ac rfl ?_;have e:=d.o;rw[if_neg (λ⟨e1,e2⟩=>Q ⟨asP,by simp at e2;omega⟩)]at e;rwa[show decide (D<=dn)=decide ((D:Int)<=(dn:Int))by simp only[decide_eq_decide];omega]at e
end Go.Proofs.YtdnfjhflkkpokaaGreatDoor.Av
set_option maxRecDepth 100000
namespace Go.Proofs.YtdnfjhflkkpokaaGreatDoor.Av
open Go
variable {w w0:World}{S0:SB}{E:Env}{l a b v n:List UInt8}{syn:Int}
def ri:LSO:=[Af 2]
def rh:LSO:=[Aa 3 0,Aa 4 0,Be 5 3 4,Aa 2 5]
def lW:aK:=⟨6,(asI ri [] (asI rh C7 .ret)),[(.tmp 2)]⟩
attribute [push_cast] ri rh
theorem Oy:asN 171=asO lW:=asR
def ng:LSO:=[Ac 4 0]
def nf:LSO:=[Aa 7 0,Aj 8 171 7,Aa 5 8]
def m9:LSO:=[Aa 9 1,Aj 10 171 9,Aa 6 10]
def m8:LSO:=[Aa 11 5]
def m7:LSO:=[Aa 12 6]
def mZ:LSO:=[Ac 4 0]
def mY:LSO:=[Ac 4 (-1)]
def mX:LSO:=[Aa 13 6]
def mW:LSO:=[Ac 4 1]
def mV:LSO:=[Aa 14 0,Aa 15 1,Al 16 14 15]
def lL:LSO:=[Ac 4 (-1)]
def lK:LSO:=[Aa 17 0,Aa 18 1,o1 19 (.bin .gtr (tm 17) (tm 18))]
def lJ:LSO:=[Ac 4 1]
def lI:LSO:=[Ac 4 0]
def jt:aK:=⟨20,(asI ng [] (asI nf C6 (asI m9 C6 (.seq (asI m8 [] (asJ 11 (.seq (asI m7 [] (asK 12 (.sreg mZ []))) (asI mY [] .ret)) .skip)) (.seq (asI mX [] (asK 13 (.sreg mW []))) (.seq (asI mV C6 (asK 16 (.sreg lL []))) (.seq (asI lK C6 (asK 19 (.sreg lJ []))) (asI lI [] .ret)))))))),[(.tmp 4)]⟩
attribute [push_cast] ng nf m9 m8 m7 mZ mY mX mW mV lL lK lJ lI
theorem Fq:asN 117=asO jt:=asR
def NN:LSO:=[Az 1 0,Ac 2 0]
def NM:LSO:=[Cs 3,Ar 4 5 1,Bv 5 112 3 4 1,Aa 2 5]
def Fo:aK:=⟨6,(asI NN [] (asI NM C7 .ret)),[(.tmp 2)]⟩
attribute [push_cast] NN NM
theorem YL:asN 71=asO Fo:=asR
def lH:LSO:=[Az 4 1,Ac 6 0]
def lG:LSO:=[Aa 10 2,A8 11 10 64]
def lE:LSO:=[Ac 6 6]
def lD:LSO:=[Aa 12 0,Au 13 12,Ad 14 0 13,Ab 15 1 14,Ai 16 15 1,Au 17 12,Ad 18 0 17,Ap 1 18 16]
def lC:LSO:=[Aa 19 0,Au 20 19,Ad 21 0 20,Ab 22 1 21,A8 23 22 1000]
def lB:LSO:=[Ac 6 9]
def lA:LSO:=[Ad 25 0 4,Ab 26 1 25,AJ 27 26 0,Aa 28 27,.grp none 28 false
 [A3 29 28 0 4,Ay 30 28 1 29,AC 31 28 30 8]
 32 (tm 31),Aa 24 32]
def lz:LSO:=[Ac 6 24]
def lw:LSO:=[Ad 34 0 4,Ab 35 1 34,An 36 35 2,Aa 37 36,.grp none 37 true
 [A6 38 37 4 4,A5 39 37 1 38,AE 40 37 39,Br 41 37 40 1]
 42 (tm 41),Aa 33 42]
def lv:LSO:=[Ac 6 2]
def kg:LSO:=[Ad 44 0 4,Ab 45 1 44,o1 46 (.bin .leq (tm 45) (iv 2)),Aa 43 46]
def ke:LSO:=[Ad 47 4 4,Ab 48 1 47,Ah 49 48,Ac 50 0]
def kc:LSO:=[Al 51 50 49]
def kb:LSO:=[Am 52 5 48 50,Ar 53 5 52,BU 8,Ap 5 8 53]
def ka:LSO:=[Aa 54 0,Ar 55 5 8,Aa 56 2,Ai 57 56 1,AI 58 112 54 55 57,Aa 9 58]
def j9:LSO:=[Aa 59 9,AB 60 59 0]
def j8:LSO:=[Aa 61 9,Aa 6 61]
def j7:LSO:=[Ai 62 50 1,Aa 50 62]
def j6:LSO:=[Ad 64 1 4,Ab 65 1 64,Aj 66 120 65,A7 67 66,Aa 63 67]
def jZ:LSO:=[Ac 6 20]
def jY:LSO:=[Ad 69 0 4,Ab 70 1 69,An 71 70 4,Aa 72 71,.grp none 72 true
 [A6 73 72 3 4,A5 74 72 1 73,Bc 75 72 167 74,Bu 76 72 75]
 77 (tm 76),Aa 68 77]
def jX:LSO:=[Ac 6 4]
def jW:LSO:=[Ac 6 0]
def i6:aK:=⟨78,(asI lH [] (.seq (asI lG C4 (asK 11 (.sreg lE []))) (.seq (asI lD CT (asI lC CA (asK 23 (.sreg lB [])))) (.seq (.block 0 (asI lA CB (asJ 24 (asI lz [] .ret) (asI lw CB (asJ 33 (asI lv [] .ret) (asI kg C7 (asJ 43 (asI ke CJ (asL 1 (asI kc [] (.seq (asM 51 1) (.seq (.block 2 (asI kb C6 (asI ka CB (asI j9 C4 (asK 60 (.sreg j8 C4)))))) (.sreg j7 C4)))))) (asI j6 CA (asJ 63 (asI jZ [] .ret) (asI jY CB (asK 68 (.sreg jX [])))))))))))) (asI jW [] .ret))))),[(.tmp 6)]⟩
attribute [push_cast] lH lG lE lD lC lB lA lz lw lv kg ke kc kb ka j9 j8 j7 j6 jZ jY jX jW
theorem Ew:asN 112=asO i6:=asR
def JJ:LSO:=[Af 2]
def JI:LSO:=[Aa 5 0,Ah 6 5,Ac 7 0]
def JH:LSO:=[Al 8 7 6]
def JG:LSO:=[Aa 9 7,Am 10 2 5 7,Ar 11 2 10,Ct 4,Aa 3 9,Ap 2 4 11]
def JF:LSO:=[Ad 13 1 4,Ab 14 1 13,BR 15 14,Aa 16 15,.grp none 16 false
 [A3 17 16 0 4,Ay 18 16 1 17,Bh 19 16 18 0]
 20 (tm 19),Aa 21 20,.grp none 21 false
 [A3 22 21 0 4,Ay 23 21 1 22,AC 24 21 23 2]
 25 (tm 24),Aa 12 25]
def JE:LSO:=[Af 2]
def JD:LSO:=[Ad 27 0 4,Ab 28 1 27,An 29 28 0,Aa 30 29,.grp none 30 true
 [Ae 31 30 3,BD 32 30 31 0]
 33 (tm 32),Aa 34 33,.grp none 34 false
 [A3 35 34 0 4,Ay 36 34 1 35,AH 37 34 36 2,Ag 38 34 37,.grp (some (34,false)) 38 true
 [Ae 39 38 3,Ae 40 38 0,AE 41 38 40,BT 42 38 41 1,Cu 43 38 39 42]
 44 (tm 43)]
 45 (tm 44),Aa 26 45]
def JC:LSO:=[Af 2]
def JB:LSO:=[Ai 46 7 1,Aa 7 46]
def JA:LSO:=[Aa 47 0,Ah 48 47,A8 49 48 0,Aa 2 49]
def wO:aK:=⟨50,(asI JJ [] (.seq (asI JI [] (asL 0 (asI JH [] (.seq (asM 8 0) (.seq (.block 1 (asI JG CF (.block 2 (asI JF CE (asJ 12 (asI JE [] .ret) (asI JD CE (asK 26 (.sreg JC [])))))))) (.sreg JB C4)))))) (asI JA C7 .ret))),[(.tmp 2)]⟩
attribute [push_cast] JJ JI JH JG JF JE JD JC JB JA
theorem Xg:asN 167=asO wO:=asR
def FO:LSO:=[Af 6,Af 7]
def FN:LSO:=[Aa 15 0,Aa 16 1,As 17 68 15 16,Aa 14 17,Ao 18 14,Aq 19 14,Aa 8 18,Aa 9 19]
def FM:LSO:=[Aa 20 9,A7 21 20,Aa 22 21,.grp none 22 false
 [Ag 23 22 0,Bk 24 22 23 1,Ag 25 22 24,.grp (some (22,false)) 25 true
 [Ae 26 25 0,Br 27 25 26 2]
 28 (tm 27),Ag 29 22 28,.grp (some (22,false)) 29 true
 [Ae 30 29 0,Br 31 29 30 3]
 32 (tm 31)]
 33 (tm 32),Aa 34 33,.grp none 34 false
 [Ag 35 34 2,og 36 34 false (.build [(.int .i64 0),(.str []),(.str []),(.sl [] 0 (some 0)),(.sl [] 0 (some 0))] [(0,(1,(iv 4))),(1,(1,(.av (.str [97])))),(3,(1,(tm 35)))]),
 AN 37 34 71 36,Bk 38 34 37 0]
 39 (tm 38)]
def FL:LSO:=[Af 6,Af 7]
def FK:LSO:=[Aa 40 2,Ah 41 40,Ac 42 0]
def FJ:LSO:=[Al 43 42 41]
def FI:LSO:=[Am 44 2 40 42,Ar 45 2 44,Ct 11,Ap 2 11 45]
def FH:LSO:=[Ad 46 1 11,Ab 47 1 46,Aa 12 47]
def FG:LSO:=[Aa 48 0,AB 49 48 2]
def FF:LSO:=[Aa 50 12,Aj 51 46 50,Aa 12 51]
def xN:LSO:=[Aa 52 8,Aa 53 12,As 54 114 52 53,Aa 13 54]
def xM:LSO:=[Ad 56 0 11,Ab 57 1 56,An 58 57 0,Aa 59 58,.grp none 59 true
 [Ae 60 59 8,Ae 61 59 12,AS 62 59 115 60 61,Bu 63 59 62]
 64 (tm 63),Aa 55 64]
def xL:LSO:=[Ad 65 0 11,Ab 66 1 65,An 67 66 2,Aa 68 67,.grp none 68 true
 [Ae 69 68 8,Ae 70 68 12,AS 71 68 116 69 70,Bu 72 68 71]
 73 (tm 72),Aa 55 73]
def xK:LSO:=[Aa 74 13,AJ 75 74 0,Aa 55 75]
def xJ:LSO:=[Af 6,A0 7]
def xI:LSO:=[Aa 76 8,Aa 77 13,Aa 78 12,Ax 79 78,AX 80 77 79,BQ 81 76 80,Aa 8 81]
def xH:LSO:=[Ai 82 42 1,Aa 42 82]
def xG:LSO:=[A0 6,A0 7]
def wp:aK:=⟨83,(asI FO [] (asI FN CI (.seq (asI FM CB (asK 39 (.sreg FL []))) (.seq (asI FK [] (asL 0 (asI FJ [] (.seq (asM 43 0) (.seq (.block 1 (asI FI C6 (asI FH C6 (.seq (asI FG C4 (asJ 49 (.sreg FF C6) .skip)) (asI xN C7 (.seq (.block 2 (.seq (asI xM CB (asJ 55 .skip (asI xL CB (asJ 55 .skip (.sreg xK C6))))) (asK 55 (.sreg xJ [])))) (.sreg xI CC))))))) (.sreg xH C4)))))) (asI xG [] .ret))))),[(.tmp 6),(.tmp 7)]⟩
attribute [push_cast] FO FN FM FL FK FJ FI FH FG FF xN xM xL xK xJ xI xH xG
theorem WW:asN 74=asO wp:=asR
attribute [push_cast] lW Fo i6 wO wp
variable {L:List Blk}{K:apr}
set_option maxHeartbeats 8000000
set_option maxRecDepth 100000
theorem ajh:gb 6=some (Lib.pow10Tab.map (AV.int .u64)):=by rfl
theorem ahu:Tryz.prog.globalNamed "internal/strconv.uint64pow10" = some 6:=asR
theorem aot{n:Int}(b:I64 n)(h:K (.str (Lib.itoa n)) L):apq 163 [.int .i64 n,.int .i64 10] L K :=
 dE Tryz.func163 rfl asR (λw0 S0 E w vs d a=>by simp only[VRL,VR]at a;obtain⟨_,_,rfl,rfl,_,_,rfl,rfl,rfl⟩:=a;refine(Tryz.strconv_FormatInt_10 n b.1 b.2 w (d.table ahu ajh (by simp[Lib.pow10Tab]))).mono λe w' ⟨f,k,os,c⟩=>⟨_,f,by simp[VR],by subst c;exact EC.of_grow w k os⟩) h
theorem ES{w':World}(h:RowKit.Below w.heap.size w w'):EC w w':=⟨λb a=>h.block b a,h.size,h.os,h.tape,h.output⟩
theorem aer{L:List Blk}(b:Rel w0 S0 E L w){g:Nat}{t:TypeId}(e:gb g=some [.iface t .undef]):∃x,w.cell? ⟨g,0,none⟩=some (.iface t x):=by have d:=ET e;obtain⟨v,f,c⟩:=(b.glob.env d).get (i:=0) (a:=.iface t .undef) rfl;simp only[VR]at c;obtain⟨x,rfl,_⟩:=c;exact⟨x,by simpa using b.mem _ _ _ f⟩
theorem ajk{n:Int}(g:(l.length:Int)<=1100000)(d:Lib.parseIntB 64 l=.ok n)(h:K (.tup [.int .i64 n,.nilif]) L):apq 162 [.str l,.int .i64 10,.int .i64 64] L K :=
 dE Tryz.func162 rfl asR (λw0 S0 E w vs f a=>by
  simp only[VRL,VR]at a;obtain⟨_,_,rfl,rfl,_,_,rfl,rfl,_,_,rfl,rfl,rfl⟩:=a;refine(Tryz.strconv_ParseInt_10_at64_ok ⟨⟨l⟩⟩ (show l.length<=_ by omega) n d w).mono λe w' ⟨c,b⟩=>⟨_,c,by simp[VR,VRL],?_⟩
  rcases b with rfl|⟨t,rfl⟩;exact EC.refl _;exact ES (Lib.bytesWorld_below _ _ _)) h
theorem ajl(k:(l.length:Int)<=1100000)(j:∀n,Lib.parseIntB 64 l≠.ok n)(h:K (.tup [.int .i64 (Yq l),.iface 298 .undef]) L):apq 162 [.str l,.int .i64 10,.int .i64 64] L K :=
 dE Tryz.func162 rfl asR (λw0 S0 E w vs f i=>by
  simp only[VRL,VR]at i;obtain⟨_,_,rfl,rfl,_,_,rfl,rfl,_,_,rfl,rfl,rfl⟩:=i
  match hq:Lib.parseIntB 64 l with
  |.ok n=>exact absurd hq (j n)
  | .syntax =>
    obtain⟨x,c⟩:=aer f (g:=4) rfl;refine(Tryz.strconv_ParseInt_10_at64_syntax ⟨⟨l⟩⟩ (show l.length<=_ by omega) hq _ w c (.inr ⟨_,_,rfl⟩)).mono λe w' ⟨N,b,_,_,a⟩=>⟨_,b,?_,ES a⟩
    have d:Yq l=0:=(by simp[Yq,hq]);rw[d];simp[VR,VRL];exact⟨_,_,⟨rfl,rfl⟩,rfl,_,rfl,_,rfl⟩
  | .range =>
    obtain⟨x,c⟩:=aer f (g:=5) rfl;refine(Tryz.strconv_ParseInt_10_at64_range ⟨⟨l⟩⟩ (show l.length<=_ by omega) hq _ w c (.inr ⟨_,_,rfl⟩)).mono λe w' ⟨N,b,_,_,a⟩=>⟨_,b,?_,ES a⟩
    have d:Yq l=Lib.intSat 64 l:=(by simp[Yq,hq]);rw[d];simp[VR,VRL];exact⟨_,_,⟨rfl,rfl⟩,rfl,_,rfl,_,rfl⟩) h
theorem VX(d:(l.length:Int)<=1100000)(h:K (.tup [.int .i64 (Yq l),.bool (tj l)]) L):apq 108 [.str l] L K:=by
 replace h:=hid h;refine ab SZ (by simp[pq]) ?_;simp only[pq,ag];by_cases a:∃n,Lib.parseIntB 64 l=.ok n;obtain⟨n,a⟩:=a;have i:=hid (X9 a);have f:=hid (show Yq l=n by simp[Yq,a]);have c:=hid (show tj l=decide (Lib.itoa n=l)by simp[tj,a]);replace a:=hid a;have kk1:=@asW _ _ _ _ (ajk d a.o);have kk2:=@asW _ _ _ _ (aot i.o);refine wk ?_;refine aa ?_;have h:=h.o;rw[f.o,c.o]at h;exact h;have b:=hid (show ∀n,Lib.parseIntB 64 l≠.ok n from λn e=>a ⟨n,e⟩);have c:=hid (show tj l=false by unfold tj;split;rename_i n g;exact absurd ⟨n,g⟩ a;rfl)
 clear a;have kk1:=@asW _ _ _ _ (ajl d b.o);refine wk ?_;refine aa ?_;have h:=h.o;rw[c.o]at h;exact h
theorem WH{n:Int}{L:List Blk}{K:apr}(h:K (.bool false) L):apq 171 [.int .i64 n] L K:=by replace h:=hid h;refine apo Oy ?_;refine aa ?_;exact h.o
def aez(m n:Int):Int:=if m<n then -1 else if n<m then 1 else 0
theorem amb{m n:Int}{L:List Blk}{K:apr}(h:K (.int .i64 (aez m n)) L):apq 117 [.int .i64 m,.int .i64 n] L K:=by replace h:=hid h;refine ab Fq (by simp[jt]) ?_;simp only[jt,ag];by_cases a:m<n;have e:=hid (show aez m n=-1 by simp[aez,a]);have kk1:=@hid _ @WH;refine wk ?_;refine aa ?_;have h:=h.o;rw[e.o]at h;exact h;by_cases b:n<m;have e:=hid (show aez m n=1 by simp[aez,a,b]);have kk1:=@hid _ @WH;refine wk ?_;refine aa ?_;have h:=h.o;rw[e.o]at h;exact h;have e:=hid (show aez m n=0 by simp[aez,a,b]);have kk1:=@hid _ @WH;refine wk ?_;refine aa ?_;have h:=h.o;rw[e.o]at h;exact h
theorem afQ:gb 0=some ((List.range 256).map λc=>AV.int .u8 (Lib.firstT c:Int)):=asR
theorem aeI:gb 1=some ((List.range 16).flatMap λi=>[AV.int .u8 (Lib.accLo i:Int),AV.int .u8 (Lib.accHi i:Int)]):=asR
theorem WK{L:List Blk}(b:Rel w0 S0 E L w){g i:Nat}{l:List AV}{k:IntKind}{z:Int}(f:gb g=some l)(h:l[i]?=some (.int k z)):w.cell? ⟨g,i,none⟩=some (.int k z):=by have e:=ET f;obtain⟨v,d,c⟩:=(b.glob.env e).get (i:=i) (a:=.int k z) h;simp only[VR]at c;subst c;simpa using b.mem _ _ _ d
theorem ag1{L:List Blk}(a:Rel w0 S0 E L w):Lib.Utf8Tabs 0 1 w:=by
 refine⟨λc d=>WK a afQ ?_,λi b=>⟨WK a aeI ?_,WK a aeI ?_⟩⟩;simp[d];have:∀i:_root_.Fin 16,((List.range 16).flatMap λi=>[AV.int .u8 (Lib.accLo i:Int),AV.int .u8 (Lib.accHi i:Int)])[2*i.val]?=some (.int .u8 (Lib.accLo i.val:Int)):=λi=>by
  match i with
  |⟨0,_⟩|⟨1,_⟩|⟨2,_⟩|⟨3,_⟩|⟨4,_⟩|⟨5,_⟩|⟨6,_⟩|⟨7,_⟩|⟨8,_⟩|⟨9,_⟩|⟨10,_⟩|⟨11,_⟩|⟨12,_⟩|⟨13,_⟩|⟨14,_⟩|⟨15,_⟩=>rfl
  |⟨n+16,h⟩=>omega
 exact this ⟨i,b⟩;have:∀i:_root_.Fin 16,((List.range 16).flatMap λi=>[AV.int .u8 (Lib.accLo i:Int),AV.int .u8 (Lib.accHi i:Int)])[2*i.val+1]?=some (.int .u8 (Lib.accHi i.val:Int)):=λi=>by
  match i with
  |⟨0,_⟩|⟨1,_⟩|⟨2,_⟩|⟨3,_⟩|⟨4,_⟩|⟨5,_⟩|⟨6,_⟩|⟨7,_⟩|⟨8,_⟩|⟨9,_⟩|⟨10,_⟩|⟨11,_⟩|⟨12,_⟩|⟨13,_⟩|⟨14,_⟩|⟨15,_⟩=>rfl
  |⟨n+16,h⟩=>omega
 exact this ⟨i,b⟩
theorem OE(f:l.length<=1100000)(h:K (.bool (Lib.validD l)) L):apq 105 [.str l] L K :=
 dE Tryz.func105 rfl asR (λw0 S0 E w vs c a=>by simp only[VRL,VR]at a;obtain⟨_,_,rfl,rfl,rfl⟩:=a;exact(Any.utf8_ValidString Tryz.lays196 ⟨⟨l⟩⟩ w (show l.length<=_ by omega) (ag1 c)).mono λe w' ⟨d,b⟩=>⟨_,d,by simp[VR],ES b⟩) h
theorem rR{a b:List UInt8}{L:List Blk}{K:apr}(h:K (.int .i64 (Lib.compareBytes a b)) L):apq 118 [.str a,.str b] L K :=
 dE Tryz.func118 rfl asR (λw0 S0 E w vs g c=>by simp only[VRL,VR]at c;obtain⟨_,_,rfl,rfl,_,_,rfl,rfl,rfl⟩:=c;exact(Tryz.strings_Compare ⟨⟨a⟩⟩ ⟨⟨b⟩⟩ w).mono λe w' ⟨f,d⟩=>⟨_,f,by simp[VR],by subst d;exact EC.refl _⟩) h
theorem jU(h:K (.bool (Lib.hasPrefix a b)) L):apq 115 [.str a,.str b] L K :=
 dE Tryz.func115 rfl asR (λw0 S0 E w vs g c=>by simp only[VRL,VR]at c;obtain⟨_,_,rfl,rfl,_,_,rfl,rfl,rfl⟩:=c;exact(Tryz.strings_HasPrefix ⟨⟨a⟩⟩ ⟨⟨b⟩⟩ w).mono λe w' ⟨f,d⟩=>⟨_,f,by simp[VR],by subst d;exact EC.refl _⟩) h
theorem jT(g:a.length<=1100000)(h:K (.bool (Lib.hasSuffix a b)) L):apq 116 [.str a,.str b] L K :=
 dE Tryz.func116 rfl asR (λw0 S0 E w vs i c=>by simp only[VRL,VR]at c;obtain⟨_,_,rfl,rfl,_,_,rfl,rfl,rfl⟩:=c;exact(Tryz.strings_HasSuffix ⟨⟨a⟩⟩ ⟨⟨b⟩⟩ w (show a.length<=_ by omega)).mono λe w' ⟨f,d⟩=>⟨_,f,by simp[VR],by subst d;exact EC.refl _⟩) h
theorem nO(j:a.length<=1100000)(h:K (.int .i64 (Lib.index a b)) L):apq 114 [.str a,.str b] L K :=
 dE Tryz.func114 rfl asR (λw0 S0 E w vs d c=>by simp only[VRL,VR]at c;obtain⟨_,_,rfl,rfl,_,_,rfl,rfl,rfl⟩:=c;obtain⟨z,i⟩:=d.glob.2 3 (by simp[VV]);exact(Tryz.strings_Index ⟨⟨a⟩⟩ ⟨⟨b⟩⟩ z w (show a.length<_ by omega) (d.mem _ _ _ i)).mono λe w' ⟨g,f⟩=>⟨_,g,by simp[VR],by subst f;exact EC.refl _⟩) h
abbrev akG:List UInt8:=[84,82,85,69]
abbrev af6:List UInt8:=[70,65,76,83,69]
def adT(syn:Int)(v:List UInt8):Option (List UInt8):=
 if syn=1 then(if v=[]then none else if Lib.validD v=true then some (cg v)else none)
 else if syn=2 then(if v=[]then none else if Lib.validD v=true then some v else none)
 else if syn=3 then(if Xl v=true then some (cg v)else none)
 else if syn=4 then(if tj v=true then some v else none)
 else if syn=5 then(if v=akG\/v=af6 then some v else none)
 else if syn=6 then(if(ad5 v).2=0 then some (ad5 v).1 else none)
 else if syn=7 then some v
 else if syn=8 then(if N1 v=true then some v else none)
 else none
def dm(syn:Int)(v:List UInt8):Option (List UInt8):=if 4096<v.length then none else adT syn v
def kj:Option (List UInt8)->AV
 |some n=>.tup [.str n,.bool true]
 |none=>.tup [.str [],.bool false]
theorem iT(h:K (kj (dm syn v)) L):apq 68 [.int .i64 syn,.str v] L K:=by
 unfold dm at h;refine ab WV (by simp[wo]) ?_;simp only[wo,ag];by_cases i:4096<v.length;have x:(4096:Int)<(v.length:Int):=asP;rw[if_pos i]at h;replace h:=hid h;clear i;refine wk ?_;exact aa h.o;have x:¬(4096:Int)<(v.length:Int):=asP;rw[if_neg i]at h;have a:v.length<=1100000:=asP;have b:(v.length:Int)<=100000:=asP;have f:(v.length:Int)<=1100000:=asP;unfold adT at h;clear i;by_cases w:syn=1;subst w;rw[if_pos rfl]at h;by_cases d:v=[];rw[if_pos d]at h;replace h:=hid h;subst d;have kk1:=@asW _ _ _ _ (EH b);have kk2:=@asW _ _ _ _ (OE a);refine wk ?_;exact aa h.o;rw[if_neg d]at h;cases hd:Lib.validD v with
 | true =>
   rw[hd,if_pos rfl]at h;replace h:=hid h;have kk1:=@asW _ _ _ _ (EH b);have kk2:=@asW _ _ _ _ (OE a);refine wk ?_;exact aa h.o
 | false =>
   rw[hd,if_neg asQ]at h;replace h:=hid h;have kk1:=@asW _ _ _ _ (EH b);have kk2:=@asW _ _ _ _ (OE a);refine wk ?_;exact aa h.o
 rw[if_neg w]at h;by_cases r:syn=2;subst r;rw[if_pos rfl]at h;by_cases d:v=[];rw[if_pos d]at h;replace h:=hid h;have kk1:=@asW _ _ _ _ (OE a);refine wk ?_;exact aa h.o;rw[if_neg d]at h;cases hd:Lib.validD v with
 | true =>
   rw[hd,if_pos rfl]at h;replace h:=hid h;have kk1:=@asW _ _ _ _ (OE a);refine wk ?_;exact aa h.o
 | false =>
   rw[hd,if_neg asQ]at h;replace h:=hid h;have kk1:=@asW _ _ _ _ (OE a);refine wk ?_;exact aa h.o
 rw[if_neg r]at h;by_cases l:syn=3;subst l;rw[if_pos rfl]at h;replace h:=hid h;have kk1:=@asW _ _ _ _ (EH b);refine wk ?_;refine ajS a (λe=>?_) (λk e=>?_);have c:=h.o;rw[if_pos e]at c;replace c:=hid c;refine asX ?_;exact aa c.o;have c:=h.o;rw[if_neg (by rw[e];simp)]at c;replace c:=hid c;have z:¬(k:Int)<0:=asP;refine asX ?_;exact aa c.o;rw[if_neg l]at h;by_cases t:syn=4;subst t;rw[if_pos rfl]at h;cases hd:tj v with
 | true =>
   rw[hd,if_pos rfl]at h;replace h:=hid h;have kk1:=@asW _ _ _ _ (VX f);refine wk ?_;exact aa h.o
 | false =>
   rw[hd,if_neg asQ]at h;replace h:=hid h;have kk1:=@asW _ _ _ _ (VX f);refine wk ?_;exact aa h.o
 rw[if_neg t]at h;by_cases u:syn=5;subst u;rw[if_pos rfl]at h;by_cases g:v=akG;rw[if_pos (.inl g)]at h;replace h:=hid h;have y:(decide (v=[84,82,85,69]):Bool)=true:=decide_eq_true g;subst g;refine wk ?_;exact aa h.o;by_cases t2:v=af6;rw[if_pos (.inr t2)]at h;replace h:=hid h;subst t2;have t3:¬([70,65,76,83,69]:List UInt8)=[84,82,85,69]:=by decide
 clear g;refine wk ?_;exact aa h.o;rw[if_neg (λe=>e.elim g t2)]at h;replace h:=hid h;refine wk ?_;exact aa h.o;rw[if_neg u]at h;by_cases m:syn=6;subst m;rw[if_pos rfl]at h;obtain⟨⟨k,e⟩,j⟩:∃p,ad5 v=p:=⟨_,rfl⟩;rw[j]at h;simp only at h;by_cases n:e=0;subst n;rw[if_pos rfl]at h;replace h:=hid h;refine wk ?_;refine amM ?_;rw[j];simp only[kG];refine asX ?_;exact aa h.o;rw[if_neg n]at h;replace h:=hid h;refine wk ?_;refine amM ?_;rw[j];simp only[kG];refine asX ?_;exact aa h.o;rw[if_neg m]at h;by_cases s:syn=7;subst s;rw[if_pos rfl]at h;replace h:=hid h;refine wk ?_;exact aa h.o;rw[if_neg s]at h;by_cases q:syn=8;subst q;rw[if_pos rfl]at h;cases hd:N1 v with
 | true =>
   rw[hd,if_pos rfl]at h;replace h:=hid h;have kk1:=@asW _ _ _ _ (adW a);refine wk ?_;exact aa h.o
 | false =>
   rw[hd,if_neg asQ]at h;replace h:=hid h;have kk1:=@asW _ _ _ _ (adW a);refine wk ?_;exact aa h.o
 rw[if_neg q]at h;replace h:=hid h;refine wk ?_;exact aa h.o
def aoI(syn:Int)(x y:List UInt8):Int:=if syn=4 then aez (Yq x) (Yq y)else Lib.compareBytes x y
def ti(syn:Int)(a b:List UInt8):Option Int:=match dm syn a,dm syn b with
 |some x,some y=>if syn=5\/syn=6\/syn=7 then none else some (aoI syn x y)
 |_,_=>none
def afh:Option Int->AV
 |some c=>.tup [.int .i64 c,.bool true]
 |none=>.tup [.int .i64 0,.bool false]
theorem WB{x:List UInt8}(h:dm syn v=some x):v.length<=4096:=by unfold dm at h;split at h;cases h;omega
theorem ZH{x:List UInt8}(h:dm 4 v=some x):x=v/\tj v=true:=by
 unfold dm at h;split at h;cases h;have e:adT 4 v=if tj v=true then some v else none:=rfl
 rw[e]at h;split at h;rename_i a;exact⟨(Option.some.inj h).symm,a⟩;cases h
theorem adM(h:K (afh (ti syn a b)) L):apq 75 [.int .i64 syn,.str a,.str b] L K:=by
 unfold ti at h;refine apo Wh ?_;refine iT ?_;rcases ha:dm syn a with _|x;rw[ha]at h;simp only[afh]at h;replace h:=hid h;simp only[kj];refine asX ?_;refine iT ?_;rcases dm syn b with _|y;simp only[kj];refine asX ?_;exact aa h.o;simp only[kj];refine asX ?_;exact aa h.o;rw[ha]at h;simp only[kj];refine asX ?_;refine iT ?_;rcases hb:dm syn b with _|y;rw[hb]at h;simp only[afh]at h;replace h:=hid h;simp only[kj];refine asX ?_;exact aa h.o;rw[hb]at h;simp only at h;simp only[kj];by_cases j:syn=5;rw[if_pos (.inl j)]at h;simp only[afh]at h;replace h:=hid h;refine asX ?_;exact aa h.o;by_cases e:syn=6;rw[if_pos (.inr (.inl e))]at h;simp only[afh]at h;replace h:=hid h;refine asX ?_;exact aa h.o;by_cases i:syn=7;rw[if_pos (.inr (.inr i))]at h;simp only[afh]at h;replace h:=hid h;refine asX ?_;exact aa h.o;rw[if_neg asP]at h;simp only[afh,aoI]at h;by_cases h4:syn=4;subst h4;rw[if_pos rfl]at h;replace h:=hid h;obtain⟨d,_⟩:=ZH ha;obtain⟨c,_⟩:=ZH hb;have k:=WB ha;have l:=WB hb;have f:(x.length:Int)<=1100000:=by rw[d];omega
 have g:(y.length:Int)<=1100000:=by rw[c];omega
 clear ha hb d c;refine sk ?_;have kk1:=@asW _ _ _ _ (VX f);have kk2:=@asW _ _ _ _ (VX g);have kk3:=@hid _ @amb;refine wk ?_;exact aa h.o;rw[if_neg h4]at h;replace h:=hid h;clear ha hb;refine sk ?_;have kk1:=@hid _ @rR;refine wk ?_;exact aa h.o
theorem acX:∀a b:List UInt8,Lib.compareBytes a b=if a<b then -1 else if b<a then 1 else 0
 |[],[]=>by simp[Lib.compareBytes]
 |[],b::bs=>by simp[Lib.compareBytes]
 |a::xs,[]=>by simp[Lib.compareBytes]
 | a::xs,b::bs=>by
   rw[Lib.compareBytes,acX xs bs];simp only[List.cons_lt_cons_iff]
   grind
abbrev Typ:=List UInt8×Int×Bool×Bool
variable {ts:List Typ}{ty:Typ}
def i8:List Atr->List UInt8->List (List UInt8)
 |[],_=>[]
 |a::t,n=>if ak a.1=ak n then a.2 else i8 t n
def rQ(n:List UInt8)(vs:List (List UInt8)):Bool->List Atr->List Atr
 |done,[]=>if done=true then[]else[(n,vs)]
 |done,a::t=>(if done=false/\¬ak a.1<ak n then[(n,vs)]else[])++(if ak n≠ak a.1 then[a]else[])++rQ n vs (done || !decide (ak a.1<ak n)) t
def gm(syn:Int)(v:List UInt8):List UInt8:=(dm syn v).getD []
def inM(syn:Int)(l:List (List UInt8))(n:List UInt8):Bool:=l.any λv=>decide (gm syn v=n)
def jw(syn:Int)(v:List UInt8):Bool->List (List UInt8)->List (List UInt8)
 |done,[]=>if done=true then[]else[v]
 |done,x::t=>(if done=false/\gm syn v<gm syn x then[v]else[])++x::jw syn v (done ||decide (gm syn v<gm syn x)) t
def ie(syn:Int)(single:Bool):List (List UInt8)->List (List UInt8)->List (List UInt8)×Int
 |l,[]=>if single=true/\1<l.length then([],19)else(l,0)
 | l,v::vs=>match dm syn v with
   |none=>([],21)
   |some n=>if inM syn l n=true then([],20)else ie syn single (jw syn v false l) vs
def gV(ts:List Typ)(n:List UInt8):Option Typ:=ts.find? λt=>decide (ak t.1=ak n)
def wl(ts:List Typ):List Atr->List Atr->List Atr×Int
 |out,[]=>(out,0)
 | out,a::t=>match gV ts a.1 with
   |none=>([],17)
   | some ty=>if a.2=[] then ([],19) else
     if(ie ty.2.1 ty.2.2.1 (i8 out a.1) a.2).2≠0 then([],(ie ty.2.1 ty.2.2.1 (i8 out a.1) a.2).2)
     else wl ts (rQ ty.1 (ie ty.2.1 ty.2.2.1 (i8 out a.1) a.2).1 (ie ty.2.1 ty.2.2.1 (i8 out a.1) a.2).1.isEmpty out) t
section
variable {α:Type}(key:α->List UInt8)
def jg(l:List α)(k:List UInt8):Nat:=(l.takeWhile λa=>decide (key a<k)).length
def ph(l:List α):Prop:=l.Pairwise λa b=>key a<key b
theorem acW(l:List α)(k:List UInt8):jg key l k<=l.length:=by exact(List.takeWhile_sublist _).length_le
theorem rK(a:α)(l:List α)(k:List UInt8):jg key (a::l) k=if key a<k then jg key l k+1 else 0:=by
 unfold jg;rw[List.takeWhile_cons]
 grind
end
theorem SH(syn:Int)(v:List UInt8):∀l,jw syn v true l=l
 |[]=>rfl
 |x::t=>by rw[jw,if_neg asQ];simp[SH syn v t]
theorem ZJ(syn:Int)(v:List UInt8):∀l:List (List UInt8),inM syn l (gm syn v)=false->jw syn v false l=l.take (jg (gm syn) l (gm syn v))++v::l.drop (jg (gm syn) l (gm syn v))
 |[],_=>rfl
 | x::t,h=>by
   simp only[inM,ar5,arO,decide_eq_false_iff_not]at h;rw[jw,rK];by_cases a:gm syn x<gm syn v
   .have hx2:¬gm syn v<gm syn x:=λe=>aq9 _ (List.lt_trans e a)
    rw[if_pos a,if_neg (λe=>hx2 e.2),decide_eq_false hx2];simp only[arv,apZ,aq4,arN,aqa];rw[ZJ syn v t (by simpa[inM]using h.2)]
   .have hx2:gm syn v<gm syn x:=by grind
    rw[if_neg a,if_pos ⟨rfl,hx2⟩,decide_eq_true hx2];simp[SH]
abbrev hG(a:Atr):List UInt8:=ak a.1
theorem acg(n:List UInt8):∀l:List Atr,ph hG l->i8 l n=match l[jg hG l (ak n)]? with
  |some a=>if ak a.1=ak n then a.2 else[]
  |none=>[]
 |[],_=>rfl
 | a::t,h=>by
   obtain⟨k,i⟩:=aq1.1 h;rw[i8,rK];by_cases d:hG a<ak n
   .have hne:¬ak a.1=ak n:=λe=>by grind
    rw[if_pos d,if_neg hne,acg n t i,aqu]
   .rw[if_neg d,aqm];by_cases j:ak a.1=ak n
    .simp[*]
    .have hno:∀u:List Atr,(∀b∈u,hG a<hG b)->i8 u n=[]:=λu=>by
      induction u with
      |nil=>intro _;rfl
      | cons b u ih =>
        intro f;rw[i8,if_neg,ih (λc g=>f c (by simp[g]))]
        grind
     simp_all
theorem abr(n:List UInt8)(vs:List (List UInt8)):∀l:List Atr,(∀a∈l,ak n≠ak a.1)->rQ n vs true l=l
 |[],_=>rfl
 |a::t,h=>by rw[rQ,if_neg asQ,if_pos (h a asQ),ari,abr n vs t (λb c=>h b (by simp[c]))];rfl
theorem agl(n:List UInt8)(vs:List (List UInt8)):∀l:List Atr,ph hG l->rQ n vs false l=match l[jg hG l (ak n)]? with
  |some a=>if ak a.1=ak n then l.set (jg hG l (ak n)) (n,vs)else l.take (jg hG l (ak n))++(n,vs)::l.drop (jg hG l (ak n))
  |none=>l++[(n,vs)]
 |[],_=>rfl
 | a::t,h=>by
   obtain⟨i,g⟩:=aq1.1 h;rw[rQ,rK];by_cases c:hG a<ak n
   .have hx2:ak a.1<ak n:=c;have d:ak n≠ak a.1:=λe=>by grind
    rw[if_pos c,if_neg (λe=>e.2 hx2),if_pos d,decide_eq_true hx2,aqu];simp only[arg,arv,apZ,aqS,aq4,arN,aqa];rw[agl n vs t g]
    grind
   .have hx2:¬ak a.1<ak n:=c;rw[if_neg c,if_pos ⟨rfl,hx2⟩,decide_eq_false hx2,aqm];have f:∀b∈t,ak n≠ak b.1:=λb j e=>by simp_all
    simp only[arW,ar1,List.set_cons_zero,aqX,arw,apZ,aqa];rw[abr n vs t f]
    grind
theorem Zt{α:Type}(l:List α)(c:Nat)(v:α):(l.take c++v::l.drop c).Perm (v::l):=by refine List.perm_middle.trans ?_;simp
theorem acp{α:Type}{l:List α}{c:Nat}{v b:α}:b∈l.take c++v::l.drop c↔b=v\/b∈l:=by rw[(Zt l c v).mem_iff,apP]
theorem OK{α:Type}{key:α->List UInt8}{v:α}:∀{l:List α},ph key l->(∀x∈l,key x≠key v)->ph key (l.take (jg key l (key v))++v::l.drop (jg key l (key v)))
 |[],_,_=>by simp[ph]
 | a::t,h,hn=>by
   obtain⟨g,f⟩:=aq1.1 h;rw[rK];by_cases d:key a<key v
   .rw[if_pos d];simp only[aq4,arN,aqa];refine aq1.2 ⟨λb e=>?_,OK f λx c=>hn x (by simp[c])⟩
    grind
   .rw[if_neg d];refine aq1.2 ⟨λb e=>?_,h⟩
    grind
theorem Wu{m:List UInt8}(h:ak n=ak m):gV ts n=gV ts m:=by unfold gV;rw[h]
def InV(syn:Int)(l:List (List UInt8)):Prop:=ph (gm syn) l/\∀v∈l,(dm syn v).isSome=true
theorem agP{syn:Int}{a:Bool}:∀{vs l:List (List UInt8)},InV syn l->(ie syn a l vs).2=0->InV syn (ie syn a l vs).1
 | [],l,h,h0=>by
   rw[ie]at h0⊢
   grind
 | v::vs,l,h,h0=>by
   rw[ie]at h0⊢;rcases hv:dm syn v with _|n
   .simp_all
   .rw[hv]at h0;simp only at h0⊢;split
    .simp_all
    .rename_i hc;rw[if_neg hc]at h0;have d:gm syn v=n:=(by simp[gm,hv]);have b:inM syn l (gm syn v)=false:=(by rw[d];simpa using hc);refine agP ?_ h0;rw[ZJ syn v l b];refine⟨OK h.1 λx c e=>?_,λx c=>?_⟩
     .simp only[inM,aq0,decide_eq_true_eq]at b;simp_all
     .rcases acp.1 c with rfl|c
      .simp[*]
      .exact h.2 x c
def InA(ts:List Typ)(l:List Atr):Prop:=ph hG l/\∀a∈l,∃ty,gV ts a.1=some ty/\ty.1=a.1/\a.2≠[]/\InV ty.2.1 a.2/\(ty.2.2.1=true->a.2.length<=1)
theorem ak6{l:List Atr}(h:InA ts l)(d:gV ts n=some ty):InV ty.2.1 (i8 l n):=by rw[acg n l h.1];rcases hg:l[jg hG l (ak n)]? with _|a;exact⟨List.Pairwise.nil,λv b=>by cases b⟩;simp only;split;rename_i e;obtain⟨c,f,_,_,h4,_⟩:=h.2 a (aqj hg);rw[Wu e,d]at f;simp_all;exact⟨List.Pairwise.nil,λv b=>by cases b⟩
theorem Kg{α:Type}{key:α->List UInt8}{k:List UInt8}:∀{l:List α},ph key l->(∀a,l[jg key l k]?=some a->key a≠k)->∀x∈l,key x≠k
 |[],_,_,_,c=>by cases c
 | a::t,h,hc,x,c=>by
   obtain⟨g,f⟩:=aq1.1 h;rw[rK]at hc;by_cases e:key a<k
   .rw[if_pos e]at hc;rcases apP.1 c with rfl|c
    .grind
    .exact Kg f (λb d=>hc b (by simpa using d)) x c
   grind
theorem ahh{α:Type}{key:α->List UInt8}{l:List α}{c:Nat}{a x:α}(h:ph key l)(g:l[c]?=some a)(i:key x=key a):ph key (l.set c x):=by
 have e:(l.set c x).map key=l.map key:=by rw[List.map_set,i];obtain⟨b,rfl⟩:=aps.1 g;rw[<- List.getElem_map (f:=key) (h:=by simpa using b),List.set_getElem_self]
 have d:(l.map key).Pairwise (· < ·):=aso.2 h;rw[<- e]at d;exact aso.1 d
theorem aln{l:List Atr}{vs:List (List UInt8)}(h:InA ts l)(r:gV ts n=some ty)(p:ty.1=n)(o:vs≠[])(q:InV ty.2.1 vs)(m:ty.2.2.1=true->vs.length<=1):InA ts (rQ n vs false l):=by
 have j:∃d,gV ts n=some d/\d.1=n/\vs≠[]/\InV d.2.1 vs/\(d.2.2.1=true->vs.length<=1):=⟨ty,r,p,o,q,m⟩;rw[agl n vs l h.1];rcases hg:l[jg hG l (ak n)]? with _|a;have f:=Kg (k:=ak n) h.1 (λa i=>by rw[hg]at i;cases i);have s:jg hG l (ak n)=l.length:=Nat.le_antisymm (acW _ _ _) (List.getElem?_eq_none_iff.1 hg);have e:l++[(n,vs)]=l.take (jg hG l (hG (n,vs)))++(n,vs)::l.drop (jg hG l (hG (n,vs))):=by simp[*]
 rw[e];refine⟨OK h.1 f,λb c=>?_⟩;rcases acp.1 c with rfl|c;omega;exact h.2 b c;simp only;split;rename_i g;refine⟨ahh h.1 hg g.symm,λb c=>?_⟩;rcases asD c with c|rfl;exact h.2 b c;omega;rename_i g;have f:=Kg (k:=ak n) h.1 (λb c=>by rw[hg]at c;cases c;exact g);refine⟨OK (key:=hG) (v:=(n,vs)) h.1 f,λb c=>?_⟩;rcases acp.1 c with rfl|c;omega;exact h.2 b c
theorem ajz(syn:Int)(v:List UInt8)(l:List (List UInt8)):jw syn v false l≠[]:=by rcases l with _|⟨x,t⟩;simp[jw];simp[jw]
theorem agO{syn:Int}{a:Bool}:∀{vs l:List (List UInt8)},l≠[]\/vs≠[]->(ie syn a l vs).2=0->(ie syn a l vs).1≠[]
 | [],l,h,h0=>by
   rw[ie]at h0⊢
   grind
 | v::vs,l,h,h0=>by
   rw[ie]at h0⊢;rcases hv:dm syn v with _|n
   .simp_all
   .rw[hv]at h0;simp only at h0⊢;split
    .simp_all
    .rename_i hc;rw[if_neg hc]at h0;exact agO (.inl (ajz syn v l)) h0
theorem Yk{syn:Int}{a:Bool}:∀{vs l:List (List UInt8)},(ie syn a l vs).2=0->a=true->(ie syn a l vs).1.length<=1
 | [],l,h0,hs=>by
   rw[ie]at h0⊢
   grind
 | v::vs,l,h0,hs=>by
   rw[ie]at h0⊢;rcases hv:dm syn v with _|n
   .simp
   .rw[hv]at h0;simp only at h0⊢;split
    .simp
    .rename_i hc;rw[if_neg hc]at h0;exact Yk h0 hs
theorem OI(h:gV ts n=some ty):ty∈ts/\ak ty.1=ak n:=by
 unfold gV at h
 grind
theorem agD{ts:List Typ}:∀{l out:List Atr},InA ts out->(wl ts out l).2=0->InA ts (wl ts out l).1
 |[],out,h,_=>h
 | a::t,out,h,h0=>by
   rw[wl]at h0⊢;rcases ht:gV ts a.1 with _|ty
   .simp_all
   .rw[ht]at h0;simp only at h0⊢;split
    .simp_all
    .rename_i hc;rw[if_neg hc]at h0;split
     .simp_all
     .rename_i hd;rw[if_neg hd]at h0;simp only[ne_eq,ar6]at hd;have b:=agO (l:=i8 out a.1) (.inr hc) hd;have d:(ie ty.2.1 ty.2.2.1 (i8 out a.1) a.2).1.isEmpty=false:=(by simpa using b);rw[d]at h0⊢;have c:=OI ht;exact agD (aln h (by rw[Wu c.2];exact ht) rfl b (agP (ak6 h ht) hd) (Yk hd)) h0
set_option maxHeartbeats 8000000
set_option maxRecDepth 100000
theorem afU{α:Type}{key:α->List UInt8}{k:List UInt8}:∀{l:List α},ph key l->∀(h:Nat) (b:h<l.length),(key l[h]<k↔h<jg key l k)
 | a::t,hr,h,b=>by
   obtain⟨e,c⟩:=aq1.1 hr;rw[rK];by_cases d:key a<k
   .rcases h with _|h
    .simp[*]
    .have:=afU (k:=k) c h (by simpa using b);simp[*]
   grind
theorem ah5{α:Type}{key:α->List UInt8}{k:List UInt8}{l:List α}(d:ph key l):(l.any λa=>decide (key a=k))=match l[jg key l k]? with
  |some a=>decide (key a=k)
  |none=>false:=by
 cases h:l[jg key l k]? with
 | none =>
   simp only[aq0,decide_eq_true_eq];exact Kg d (λa f=>by rw[h]at f;cases f)
 | some a =>
   simp only;by_cases c:key a=k
   .grind
   .rw[decide_eq_false c];simp only[aq0,decide_eq_true_eq];exact Kg d (λb e=>by rw[h]at e;cases e;exact c)
theorem aic{a:Bool}{l:List (List UInt8)}{vs:List (List UInt8)}(b:(ie syn a l (v::vs)).2=0):
  (dm syn v).isSome=true/\inM syn l (gm syn v)=false/\ie syn a l (v::vs)=ie syn a (jw syn v false l) vs:=by
 rw[ie]at b⊢;rcases hv:dm syn v with _|n;simp_all;have c:gm syn v=n:=by simp[gm,hv]
 grind
theorem ajy{l:List (List UInt8)}(h:inM syn l (gm syn v)=false):(jw syn v false l).length=l.length+1:=by rw[ZJ syn v l h,(Zt _ _ _).length_eq,apC]
theorem aaN{syn:Int}{a:Bool}:∀{vs l:List (List UInt8)},(ie syn a l vs).2=0->(ie syn a l vs).1.length=l.length+vs.length
 | [],l,h0=>by
   rw[ie]at h0⊢
   grind
 |v::vs,l,h0=>by obtain⟨d,c,b⟩:=aic h0;rw[b]at h0⊢;rw[aaN h0,ajy c,apC];omega
theorem ann(ts:List Typ):InA ts []:=⟨List.Pairwise.nil,λa b=>by cases b⟩
variable {L:List Blk}{K:apr}
def JX(l:List UInt8):Bool:=l.any λc=>c != 32
def TJ(t:List UInt8)(k:Nat):List UInt8:=if JX (t.drop k)=true then cO (t.take k)else d9 (cO (t.take k))
theorem abU{t:List UInt8}{k:Nat}(h:k<t.length):t.drop k=t.getD k 0::t.drop (k+1):=by rw[apY h,apO,apD h];rfl
theorem ZV(c:UInt8)(l:List UInt8):JX (c::l)=(c != 32 ||JX l):=rfl
theorem jR(b:List UInt8)(c:UInt8):d9 (b++[c])=if c=32 then b else b++[c]:=by simp[d9]
theorem ZP(t:List UInt8):∀k,k<=t.length->cO (t.take k)≠[]->(JY (cO (t.take k))=true↔t.getD (k-1) 0=32)
 |0,_,h=>by simp[cO]at h
 | k+1,hk,h=>by
   have a:=ZP t k asP;rw[EI (show k<t.length by omega)]at h⊢;rw[show k+1-1=k by omega];unfold bh at h⊢;split
   .rename_i e;exact⟨λ_=>e.1,λ_=>e.2⟩
   .simp[JY]
theorem ahp{t:List UInt8}{k:Nat}(h:k<t.length):TJ t (k+1) =
  if JX (t.drop k)=false\/(t.getD k 0=32/\(TJ t k=[]\/t.getD (k-1) 0=32))then TJ t k else TJ t k++[t.getD k 0]:=by
 have l:=abU h;have f:=ZP t k asP;unfold TJ;rw[EI h,l,ZV];obtain⟨c,j⟩:=apl (t.getD k 0);obtain⟨p,m⟩:=apl (cO (t.take k));rw[j];rw[m]at f⊢;have o:p=[]->JY p=true:=λe=>by rw[e];rfl
 by_cases a:c=32;subst a;by_cases g:JX (t.drop (k+1))=true;simp only[g,bne_self_eq_false,aqG,if_true,bh,true_and,aqN,false_or];by_cases b:p=[];simp[b,JY];simp[b,f b];have d:JX (t.drop (k+1))=false:=by simpa using g
 simp only[d,bne_self_eq_false,aqG,apL,if_false,true_or,if_true];unfold bh;split;rfl;rename_i e;rw[jR,if_pos rfl];unfold d9;rw[if_neg];intro n;exact e ⟨rfl,by simp[JY,n]⟩;have i:(c != 32)=true:=by simpa using a
 simp only[i,ari,if_true,a,false_and,or_false,aqN,if_false];have:bh p c=p++[c]:=by rw[bh,if_neg λe=>a e.1]
 rw[this,jR,if_neg a];split<;>rfl
theorem aho(t:List UInt8):TJ t 0=[]:=by unfold TJ;split<;>simp[cO,d9]
theorem ajb(t:List UInt8):TJ t t.length=d9 (cO t):=by simp[TJ,JX]
theorem aja(t:List UInt8)(k:Nat):(TJ t k).length<=k:=by have:=rH t k;unfold TJ;split;exact this;unfold d9;split;simp;omega;exact this
theorem EG{s:List UInt8}(P:(s.length:Int)<=100000)(h:K (.str (cg s)) L):apq 135 [.str s] L K:=by
 replace h:=hid h;refine ab YG (by simp[Fi]) ?_;simp only[Fi,ag];obtain⟨t,M⟩:=apl (ak s);have T:(t.length:Int)<=100000:=by rw[<- M];simpa[ak]using P
 have C:=hid (show TJ t t.length=cg s by rw[ajb,cg,M]);have kk1:=@asW _ _ _ _ (nI P);refine wk ?_;refine bR (l:=[]) (n:=0) 4 1 rfl (apU 1).symm ?_;refine aj (λn T' L'=>∃(k:Nat) (b:List UInt8) (v:List AV) (m:Nat),n=t.length-k/\k<=t.length/\b=TJ t k/\v=u8s b/\m=b.length/\T'=[(5,.int .i64 (k:Int)),(4,.gsl v m L.length 1),(3,.str t),(2,.str [])]/\L'=L++[.spare m 1]) asT ⟨0,[],[],0,rfl,apv _,(aho t).symm,rfl,rfl,rfl,rfl⟩ ?_;rintro _ _ _ ⟨k,b,v,m,rfl,hk,z,rfl,rfl,rfl,rfl⟩;replace z:=hid z;by_cases r:k<t.length
 .have S:(k:Int)<(t.length:Int):=asP;have Z:=apn k asP;refine wk ?_;have R:b.length<=k:=(by rw[z.o];exact aja t k);have X:(u8s b).length=b.length:=(by simp[u8s]);have d:=hid (ahp r);refine aj (λn T' L'=>∃(j:Nat) (a:Bool),n=t.length-j/\j<=t.length/\(a=true->JX (t.drop k)=true)/\(a=false->JX (t.drop k)=JX (t.drop j))/\T'=[(7,.int .i64 (j:Int)),(6,.bool a),(5,.int .i64 (k:Int)),(4,.gsl (u8s b) b.length L.length 1),(3,.str t),(2,.str [])]/\L'=L++[.spare b.length 1]) asT ⟨k,false,rfl,asP,asQ,asQ,rfl,rfl⟩ ?_;rintro _ _ _ ⟨j,a,rfl,hj,y,q,rfl,rfl⟩;replace y:=hid y;replace q:=hid q;obtain⟨c,O⟩:=apl (t.getD k 0);rw[O]at d;have W:((t[k]?.getD 0))=c:=(by rw[<- O,apO]);cases a;by_cases A:j<t.length;have g1:(j:Int)<(t.length:Int):=asP;have Y:=apn j asP;have J:=hid (abU A);obtain⟨x,Q⟩:=apl (t.getD j 0);rw[Q]at J;refine wk ?_;have B:(x != 32) = !decide ((x.toNat:Int)=32):=by have:(x.toNat:Int)=32↔x=32:=⟨λh=>ark.1 (by have:(32:UInt8).toNat=32:=rfl;omega),λh=>by rw[h];rfl⟩;by_cases h:x=32<;>simp[h,this]
  have u:=q.o rfl;rw[J.o,ZV,B]at u;refine asU asP asS ⟨j+1, !decide ((x.toNat:Int)=32),rfl,A,λe=>by rw[u,e];rfl,λe=>by rw[u,e];rfl,rfl,rfl⟩;have g1:¬(j:Int)<(t.length:Int):=asP;have F:JX (t.drop k)=false:=(by rw[q.o rfl,aq6 asP];rfl);replace d:=hid (show TJ t (k+1)=b by rw[d.o,if_pos (.inl F),z.o]);refine wk ?_;exact asU asP asS ⟨k+1,b,_,b.length,rfl,r,d.o.symm,rfl,rfl,rfl,rfl⟩
  .have F:JX (t.drop k)=true:=y.o rfl;have i:=d.o;rw[F]at i;simp only[aqN,false_or,<- z.o]at i;replace i:=hid i;have H:b.length≠0->(1:Int)<=(k:Int):=λh=>asP
   replace H:=hid H;have E:=hid λh:1<=k=>show IntKind.i64.wrap ((k:Int)-1)=(k:Int)-1 from ae asP asP
   have p:∀x:UInt8,(x.toNat:Int)=32↔x=32:=λx=>⟨λh=>ark.1 (by have:(32:UInt8).toNat=32:=rfl;omega),λh=>by rw[h];rfl⟩
   replace p:=hid p
   repeat' first
    |refine bG ?_
    | (first|refine bw asR ?_|refine aN asR ?_|refine aQ ?_|refine cS ?_|refine bJ (fun _=>?_)|refine aF ?_|refine bA ?_)
      refine sm ?_
    | (first|refine bq asR ?_|refine bm ?_|refine aP ?_|refine bz ?_|refine bO (aE ?_))
      refine sl ?_
    |exact bK
    |first|apply bL|apply br|apply bM|apply bu|apply bN|apply bv
    |refine aT ?_
    |refine aO ?_
    |first|refine aR rfl ?_|refine aS rfl ?_|refine aB rfl ?_ ?_|refine aW rfl (λ_=>?_) (λ_=>?_)|refine aV rfl (λ_=>?_) (λ_=>?_)
    |((first|refine aA (λ_=>?_) (λ_=>?_)|refine aD (λ_=>?_) (λ_=>?_))<;>try refine sm ?_)
    |refine And.intro trivial ?_
    |refine And.intro asP ?_
    |refine bd rfl (λ_=>?_) (λ_=>?_)
    |refine And.intro ?_ ?_
   rename_i U;rw[E.o asP];omega;rename_i U;rw[E.o asP];omega;rename_i D;have f:c=32/\(b=[]\/t.getD (k-1) 0=32):=by refine⟨(p.o c).1 D.1,?_⟩;rcases D.2 with e|e;exact .inl (aqc.1 asP);by_cases g:b=[];exact .inl g;have w:1<=k:=(by have:=aqi.2 g;omega);rw[E.o w,show((k:Int)-1).toNat=k-1 by omega]at e;exact .inr ((p.o _).1 e)
   exact asU asP asS ⟨k+1,b,_,b.length,rfl,r,by rw[i.o,if_pos f],rfl,rfl,rfl,rfl⟩;rename_i D;have f:¬(c=32/\(b=[]\/t.getD (k-1) 0=32)):=λ⟨N,I⟩=>D (by refine⟨(p.o c).2 N,?_⟩;by_cases g:b=[];exact .inl (by rw[g];rfl);have w:1<=k:=(by have:=aqi.2 g;omega);rcases I with e|e;exact absurd e g;refine .inr ?_;rw[E.o w,show((k:Int)-1).toNat=k-1 by omega];exact(p.o _).2 e)
   rw[show u8s b++[AV.int IntKind.u8 (c.toNat:Int)]=u8s (b++[c])by simp[u8s]];exact asU asP asS ⟨k+1,b++[c],_,b.length+1,rfl,r,by rw[i.o,if_neg f],rfl,asQ,rfl,rfl⟩
 have G:k=t.length:=asP;subst G;have S:¬(t.length:Int)<(t.length:Int):=asP;have N:=kB b;have I:=ju b;have V:=hid (show b=cg s by rw[z.o,C.o]);refine wk ?_;refine ac rfl ?_;rw[V.o];exact h.o
end Go.Proofs.YtdnfjhflkkpokaaGreatDoor.Av
