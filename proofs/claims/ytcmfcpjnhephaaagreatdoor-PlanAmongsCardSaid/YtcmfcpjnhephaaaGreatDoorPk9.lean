/- Joined texts of the walk, made small by a program. -/
import Derived.Test.YtcmfcpjnhephaaaGreatDoorPk4
import Derived.Test.YtcmfcpjnhephaaaGreatDoorRows
import Derived.KernelRfl
import Derived.Test.YtcmfcpjnhephaaaGreatDoorPk8
import Derived.Test.YtcmfcpjnhephaaaGreatDoorPk5
import Derived.Sort.Walk0
import Derived.Test.YtcmfcpjnhephaaaGreatDoorPk7
import Derived.Laws.Externs
import Derived.Lib.Overlaps
import Derived.Lib.IndexMore
import Derived.Maps.RangeRun
set_option linter.unusedSimpArgs false
set_option linter.unusedVariables false
set_option maxRecDepth 100000
namespace Go.Proofs.YtcmfcpjnhephaaaGreatDoor.Av
open Go
def sD:LSO:=[A4 1 0,Ag 2]
def sB:LSO:=[Ab 10 1 1,Ax 11 10,AE 12 11 15,Aa 13 12,.grp none 13 false
 [AF 14 13 1 1,Ca 15 13 14 14,og 16 13 false (.bin .neq (tm 15) (.av (.int .u8 90)))]
 17 (tm 16)]
def sA:LSO:=[Ag 2]
def sy:LSO:=[Ab 18 1 1,o1 19 (.slS (tm 18) none (some (iv 14))),o1 20 (.s2b (tm 19)),Ak 21 20,Ad 22 0]
def sx:LSO:=[Al 23 22 21]
def sw:LSO:=[An 24 1 20 22,Ab 25 1 24,Aa 4 25]
def sv:LSO:=[Aa 26 4,o1 27 (.bin .lss (tm 26) (.av (.int .u8 48))),Aa 28 27,.grp none 28 false
 [Aj 29 28 4,og 30 28 false (.bin .gtr (tm 29) (.av (.int .u8 57)))]
 31 (tm 30)]
def su:LSO:=[Ag 2]
def sq:LSO:=[Af 32 22 1,Aa 22 32]
def sn:LSO:=[o1 33 (.mkfn 141 [(tm 1)]),Aa 5 33]
def rI:LSO:=[Aa 34 5,BK 35 34 0,o1 36 (.bin .mul (tm 35) (iv 100)),Aa 37 5,BK 38 37 2,AY 39 36 38,Aa 40 5,BK 41 40 4,Aa 42 5,BK 43 42 6,Aa 6 39,Aa 7 41,Aa 8 43]
def rH:LSO:=[Aa 44 7,AD 45 44 1,Aa 46 45,.grp none 46 false
 [Aj 47 46 7,A9 48 46 47 12]
 49 (tm 48),Aa 50 49,.grp none 50 false
 [Aj 51 50 8,Cb 52 50 51 1]
 53 (tm 52),Aa 54 53,.grp none 54 false
 [Aj 55 54 5,Cc 56 54 55 8,A9 57 54 56 23]
 58 (tm 57),Aa 59 58,.grp none 59 false
 [Aj 60 59 5,Cc 61 59 60 10,A9 62 59 61 59]
 63 (tm 62),Aa 64 63,.grp none 64 false
 [Aj 65 64 5,Cc 66 64 65 12,A9 67 64 66 59]
 68 (tm 67)]
def rG:LSO:=[Ag 2]
def rF:LSO:=[Aa 69 7,Bk 70 69 1,o1 71 (.iaddrA 12 1 (.av (.gptr 2 0)) (tm 70)),Ab 72 1 71,Aa 9 72]
def rE:LSO:=[Aa 73 7,Ao 74 73 2,Aa 75 74,.grp none 75 true
 [Ae 76 75 6,BL 77 75 76 4,AZ 78 75 77 0,Ae 79 75 78,.grp (some (75,true)) 79 true
 [Ae 80 79 6,BL 81 79 80 100,BM 82 79 81 0]
 83 (tm 82),Ae 84 75 83,.grp (some (75,true)) 84 false
 [Aj 85 84 6,og 86 84 false (.bin .rem (tm 85) (iv 400)),AJ 87 84 86 0]
 88 (tm 87)]
 89 (tm 88)]
def rD:LSO:=[Aa 90 9,Af 91 90 1,Aa 9 91]
def rC:LSO:=[Aa 92 8,Aa 93 9,B9 94 92 93,Aa 2 94]
def qd:aG:=⟨95,(aos sD [] (.seq (aos sB Cx (aou 17 (.sreg sA []))) (.seq (aos sy CS (aov 0 (aos sx [] (.seq (aow 23 0) (.seq (.block 1 (aos sw Cv (aos sv Cw (aou 31 (.sreg su []))))) (.sreg sq Cu)))))) (aos sn Cu (aos rI [true,true,true,false,false,false,false,false,false,false,false,false,false] (.seq (aos rH CF (aou 68 (.sreg rG []))) (aos rF Cx (.seq (aos rE Cw (aot 89 (.sreg rD Cv) .skip)) (aos rC Cw .ret))))))))),[(.tmp 2)]⟩
attribute [push_cast] sD sB sA sy sx sw sv su sq sn rI rH rG rF rE rD rC
theorem PW:aox 101=aoy qd:=aoB
def ql:LSO:=[Ad 3 0]
def qj:LSO:=[Ab 4 1 1,Aa 5 0,AB 6 4 5,BN 7 6,Br 8 7,o1 9 (.bin .mul (tm 8) (iv 10)),Ab 10 1 1,Aa 11 0,Af 12 11 1,AB 13 10 12,BN 14 13,Br 15 14,AY 16 9 15,
 Aa 3 16]
def lP:aG:=⟨17,(aos ql [] (.seq (.sdreg qj [(.read 0 0),.pure,(.read 0 0),.pure,.pure,.pure,(.read 0 0),.pure,.pure,(.read 0 0),.pure,.pure] [true,false,false,false,false,false,false,false,false,false,false,false,false,false]) .ret)),[(.tmp 3)]⟩
attribute [push_cast] ql qj
theorem Lu:aox 141=aoy lP:=aoB
def sj:LSO:=[Ad 2 0,Ag 3]
def si:LSO:=[Aa 7 0,o1 8 (.call 137 [(tm 7),(iv 10),(iv 64)]),Aa 6 8,As 9 6,Aw 10 6,Aa 4 9,Aa 5 10]
def sh:LSO:=[Aa 11 4,Aa 12 5,o1 13 (.eqk false .iface (tm 12) (.av .nilif)),Aa 14 13,.grp none 14 true
 [Ae 15 14 4,og 16 14 true (.call 138 [(tm 15),(iv 10)]),Ae 17 14 0,Cd 18 14 16 17]
 19 (tm 18),Aa 2 11,Aa 3 19]
def qc:aG:=⟨20,(aos sj [] (aos si CH (aos sh CH .ret))),[(.tmp 2),(.tmp 3)]⟩
attribute [push_cast] sj si sh
theorem PV:aox 99=aoy qc:=aoB
def sF:LSO:=[Ag 2]
def sE:LSO:=[Aa 3 0,o1 4 (.bin .geq (tm 3) (.av (.int .i32 128))),Aa 2 4]
def qe:aG:=⟨5,(aos sF [] (aos sE Cv .ret)),[(.tmp 2)]⟩
attribute [push_cast] sF sE
theorem PX:aox 98=aoy qe:=aoB
def mj:LSO:=[Ad 4 0]
def mi:LSO:=[Aa 5 0,Aa 6 1,o1 7 (.call 136 [(tm 5),(tm 6),(.av (.bool true))]),Aa 4 7]
def gJ:aG:=⟨8,(aos mj [] (aos mi Cw .ret)),[(.tmp 4)]⟩
attribute [push_cast] mj mi
theorem yC:aox 97=aoy gJ:=aoB
def mh:LSO:=[Ad 6 0]
def mg:LSO:=[Aa 9 0,o1 10 (.rangeS (tm 9))]
def mf:LSO:=[o1 11 (.nextS (tm 10)),As 12 11]
def me:LSO:=[Aw 13 11,Bt 14 11,Aa 7 13,Aa 8 14]
def md:LSO:=[Aa 15 1,Aa 16 8,B7 17 15 16,Aa 18 2,o1 19 (.eqk false .bool (tm 17) (tm 18))]
def mc:LSO:=[Aa 20 7,Aa 6 20]
def ma:LSO:=[Ad 6 (-1)]
def gI:aG:=⟨21,(aos mh [] (.seq (aos mg Cu (aov 0 (aos mf [] (.seq (aow 12 0) (.block 1 (aos me CB (aos md Cx (aou 19 (.sreg mc Cu))))))))) (aos ma [] .ret))),[(.tmp 6)]⟩
attribute [push_cast] mh mg mf me md mc ma
theorem yB:aox 136=aoy gI:=aoB
def NE:LSO:=[Ag 2]
def ND:LSO:=[Aa 7 0,Ax 8 7,A3 9 8 0]
def NC:LSO:=[Aa 10 0,BA 11 10 0,Br 12 11,Aa 3 12]
def NB:LSO:=[Ad 4 1]
def NA:LSO:=[Aa 13 3,Bg 14 13 240]
def Nz:LSO:=[Ad 4 4]
def Ny:LSO:=[Aa 15 3,Bk 16 15 240,Aa 3 16]
def Nw:LSO:=[Aa 17 3,Bg 18 17 224]
def Nv:LSO:=[Ad 4 3]
def Nu:LSO:=[Aa 19 3,Bk 20 19 224,Aa 3 20]
def IM:LSO:=[Aa 21 3,Bg 22 21 192]
def IL:LSO:=[Ad 4 2]
def IK:LSO:=[Aa 23 3,Bk 24 23 192,Aa 3 24]
def IJ:LSO:=[Aa 25 3,Bg 26 25 128]
def II:LSO:=[Ag 2]
def IH:LSO:=[Aa 27 0,Ax 28 27,Aa 29 4,Al 30 28 29]
def IG:LSO:=[Ag 2]
def IF:LSO:=[Ad 5 1]
def IE:LSO:=[Aa 31 5,Aa 32 4,Al 33 31 32]
def ID:LSO:=[Aa 36 0,Aa 37 5,AB 38 36 37,Br 39 38,Aa 6 39]
def IC:LSO:=[Aa 40 6,AD 41 40 128,Aa 42 41,.grp none 42 false
 [Aj 43 42 6,BO 44 42 43 192]
 45 (tm 44)]
def IB:LSO:=[Ag 2]
def IA:LSO:=[Aa 46 3,o1 47 (.bin .mul (tm 46) (iv 64)),Aa 48 6,AY 49 47 48,Bk 50 49 128,Aa 3 50]
def Iz:LSO:=[Aa 34 5,Af 35 34 1,Aa 5 35]
def Iy:LSO:=[Aa 51 4,Ao 52 51 2,Aa 53 52,.grp none 53 true
 [Ae 54 53 3,BB 55 53 54 128]
 56 (tm 55),Aa 57 56,.grp none 57 false
 [Aj 58 57 4,AJ 59 57 58 3,Aj 60 57 59,.grp (some (57,false)) 60 true
 [Ae 61 60 3,BB 62 60 61 2048]
 63 (tm 62)]
 64 (tm 63),Aa 65 64,.grp none 65 false
 [Aj 66 65 4,AJ 67 65 66 4,Aj 68 65 67,.grp (some (65,false)) 68 true
 [Ae 69 68 3,BB 70 68 69 65536]
 71 (tm 70)]
 72 (tm 71),Aa 73 72,.grp none 73 false
 [Aj 74 73 3,A9 75 73 74 1114111]
 76 (tm 75),Aa 77 76,.grp none 77 false
 [Aj 78 77 3,BO 79 77 78 55296,Aj 80 77 79,.grp (some (77,false)) 80 true
 [Ae 81 80 3,BB 82 80 81 57344]
 83 (tm 82)]
 84 (tm 83)]
def Ix:LSO:=[Ag 2]
def Iw:LSO:=[Aa 85 0,Aa 86 4,Ce 87 85 86,Aa 0 87]
def Iv:LSO:=[Az 2]
def LD:aG:=⟨88,(aos NE [] (.seq (aov 0 (.seq (aos ND Cv (aow 9 0)) (.block 1 (aos NC Cw (aos NB [] (.seq (aos NA Cu (aot 14 (aos Nz [] (.sreg Ny Cv)) (aos Nw Cu (aot 18 (aos Nv [] (.sreg Nu Cv)) (aos IM Cu (aot 22 (aos IL [] (.sreg IK Cv)) (aos IJ Cu (aou 26 (.sreg II []))))))))) (.seq (aos IH Cw (aou 30 (.sreg IG []))) (.seq (aos IF [] (aov 2 (.seq (aos IE Cv (aow 33 2)) (.seq (.block 3 (aos ID Cx (.seq (aos IC Cw (aou 45 (.sreg IB []))) (.sreg IA Cy)))) (.sreg Iz Cv))))) (.seq (aos Iy CF (aou 84 (.sreg Ix []))) (.sreg Iw Cw)))))))))) (aos Iv [] .ret))),[(.tmp 2)]⟩
attribute [push_cast] NE ND NC NB NA Nz Ny Nw Nv Nu IM IL IK IJ II IH IG IF IE ID IC IB IA Iz Iy Ix Iw Iv
theorem Wf:aox 89=aoy LD:=aoB
def vB:LSO:=[Ag 2]
def vA:LSO:=[Ad 3 0]
def vz:LSO:=[Aa 4 3,Aa 5 0,Ax 6 5,Al 7 4 6]
def vy:LSO:=[Aa 10 0,Aa 11 3,AB 12 10 11,o1 13 (.bin .lss (tm 12) (.av (.int .u8 48))),Aa 14 13,.grp none 14 false
 [Aj 15 14 0,Aj 16 14 3,Bu 17 14 15 16,og 18 14 false (.bin .gtr (tm 17) (.av (.int .u8 57)))]
 19 (tm 18)]
def vx:LSO:=[Ag 2]
def vw:LSO:=[Aa 8 3,Af 9 8 1,Aa 3 9]
def vv:LSO:=[Aa 20 0,Ax 21 20,A3 22 21 0,Aa 2 22]
def rZ:aG:=⟨23,(aos vB [] (.seq (aos vA [] (aov 0 (.seq (aos vz Cw (aow 7 0)) (.seq (.block 1 (aos vy Cy (aou 19 (.sreg vx [])))) (.sreg vw Cv))))) (aos vv Cw .ret))),[(.tmp 2)]⟩
attribute [push_cast] vB vA vz vy vx vw vv
theorem Se:aox 130=aoy rZ:=aoB
def vj:LSO:=[Ag 2]
def vi:LSO:=[Aa 4 0,o1 5 (.bin .eql (tm 4) (.av (.str [48])))]
def vh:LSO:=[Az 2]
def vg:LSO:=[o1 3 (.mv (.av (.str [57,50,50,51,51,55,50,48,51,54,56,53,52,55,55,53,56,48,55])))]
def vf:LSO:=[Aa 6 0,Ax 7 6,A3 8 7 0,Aa 9 8,.grp none 9 true
 [Ae 10 9 0,og 11 9 true (.idxS (tm 10) (iv 0)),og 12 9 true (.bin .eql (tm 11) (.av (.int .u8 45)))]
 13 (tm 12)]
def ve:LSO:=[Aa 14 0,o1 15 (.slS (tm 14) (some (iv 1)) none),Aa 0 15]
def vd:LSO:=[o1 3 (.mv (.av (.str [57,50,50,51,51,55,50,48,51,54,56,53,52,55,55,53,56,48,56])))]
def vc:LSO:=[Aa 16 0,Am 17 130 16,Aa 18 17,.grp none 18 true
 [Ae 19 18 0,og 20 18 true (.idxS (tm 19) (iv 0)),og 21 18 true (.bin .neq (tm 20) (.av (.int .u8 48)))]
 22 (tm 21),Aa 23 22,.grp none 23 true
 [Ae 24 23 0,BP 25 23 24,BB 26 23 25 19,Ae 27 23 26,.grp (some (23,true)) 27 false
 [Aj 28 27 0,Bv 29 27 28,AJ 30 27 29 19,Aj 31 27 30,.grp (some (27,false)) 31 true
 [Ae 32 31 0,Ae 33 31 3,og 34 31 true (.bin .leq (tm 32) (tm 33))]
 35 (tm 34)]
 36 (tm 35)]
 37 (tm 36),Aa 2 37]
def rX:aG:=⟨38,(aos vj [] (.seq (aos vi Cu (aou 5 (.sreg vh []))) (aos vg [] (.seq (aos vf Cx (aot 13 (aos ve Cv (.sreg vd [])) .skip)) (aos vc C0 .ret))))),[(.tmp 2)]⟩
attribute [push_cast] vj vi vh vg vf ve vd vc
theorem Sc:aox 91=aoy rX:=aoB
def NL:LSO:=[Ad 2 0]
def NK:LSO:=[Ad 3 0]
def NJ:LSO:=[Ad 4 0]
def NI:LSO:=[Aa 5 4,Aa 6 0,Ax 7 6,Al 8 5 7]
def NH:LSO:=[Aa 11 3,o1 12 (.bin .mul (iv 10) (tm 11)),Aa 13 0,Aa 14 4,AB 15 13 14,BN 16 15,Br 17 16,AY 18 12 17,Aa 3 18]
def NG:LSO:=[Aa 9 4,Af 10 9 1,Aa 4 10]
def NF:LSO:=[Aa 19 3,Aa 2 19]
def LE:aG:=⟨20,(aos NL [] (aos NK [] (.seq (aos NJ [] (aov 0 (.seq (aos NI Cw (aow 8 0)) (.seq (.block 1 (.sreg NH CG)) (.sreg NG Cv))))) (aos NF Cu .ret)))),[(.tmp 2)]⟩
attribute [push_cast] NL NK NJ NI NH NG NF
theorem Wg:aox 133=aoy LE:=aoB
def vu:LSO:=[Ag 2]
def vt:LSO:=[Aa 7 0,Ax 8 7,AE 9 8 15,Aa 10 9,.grp none 10 false
 [Aj 11 10 0,og 12 10 false (.slS (tm 11) none (some (iv 14))),Ba 13 10 130 12,Bl 14 10 13]
 15 (tm 14),Aa 16 15,.grp none 16 false
 [Aj 17 16 0,Ca 18 16 17 14,og 19 16 false (.bin .neq (tm 18) (.av (.int .u8 90)))]
 20 (tm 19)]
def vr:LSO:=[Ag 2]
def vq:LSO:=[Aa 21 0,o1 22 (.slS (tm 21) none (some (iv 4))),Am 23 133 22,Aa 24 0,o1 25 (.slS (tm 24) (some (iv 4)) (some (iv 6))),Am 26 133 25,Aa 27 0,
 o1 28 (.slS (tm 27) (some (iv 6)) (some (iv 8))),Am 29 133 28,Aa 3 23,Aa 4 26,Aa 5 29]
def vp:LSO:=[Aa 30 4,AD 31 30 1,Aa 32 31,.grp none 32 false
 [Aj 33 32 4,A9 34 32 33 12]
 35 (tm 34),Aa 36 35,.grp none 36 false
 [Aj 37 36 5,Cb 38 36 37 1]
 39 (tm 38),Aa 40 39,.grp none 40 false
 [Aj 41 40 0,Cf 42 40 41 8 10,Ba 43 40 133 42,A9 44 40 43 23]
 45 (tm 44),Aa 46 45,.grp none 46 false
 [Aj 47 46 0,Cf 48 46 47 10 12,Ba 49 46 133 48,A9 50 46 49 59]
 51 (tm 50),Aa 52 51,.grp none 52 false
 [Aj 53 52 0,Cf 54 52 53 12 14,Ba 55 52 133 54,A9 56 52 55 59]
 57 (tm 56)]
def vo:LSO:=[Ag 2]
def vn:LSO:=[Ad 6 31]
def vm:LSO:=[Aa 58 4,Ao 59 58 4,Aa 60 59,.grp none 60 false
 [Aj 61 60 4,AJ 62 60 61 6]
 63 (tm 62),Aa 64 63,.grp none 64 false
 [Aj 65 64 4,AJ 66 64 65 9]
 67 (tm 66),Aa 68 67,.grp none 68 false
 [Aj 69 68 4,AJ 70 68 69 11]
 71 (tm 70)]
def vl:LSO:=[Ad 6 30]
def vk:LSO:=[Aa 72 4,Ao 73 72 2]
def sL:LSO:=[Ad 6 28]
def sK:LSO:=[Aa 74 3,o1 75 (.bin .rem (tm 74) (iv 400)),Ao 76 75 0,Aa 77 76,.grp none 77 false
 [Aj 78 77 3,og 79 77 false (.bin .rem (tm 78) (iv 4)),AJ 80 77 79 0,Aj 81 77 80,.grp (some (77,false)) 81 true
 [Ae 82 81 3,BL 83 81 82 100,BM 84 81 83 0]
 85 (tm 84)]
 86 (tm 85)]
def sJ:LSO:=[Ad 6 29]
def sI:LSO:=[Aa 87 5,Aa 88 6,B9 89 87 88,Aa 2 89]
def rY:aG:=⟨90,(aos vu [] (.seq (aos vt C0 (aou 20 (.sreg vr []))) (.seq (.sdreg vq [.pure,(.read 0 0),(.read 0 0),.pure,(.read 0 0),(.read 0 0),.pure,(.read 0 0)] CX) (.seq (aos vp CF (aou 57 (.sreg vo []))) (aos vn [] (.seq (aos vm C2 (aot 71 (.sreg vl []) .skip)) (.seq (aos vk Cu (aot 73 (aos sL [] (aos sK Cx (aot 86 (.sreg sJ []) .skip))) .skip)) (aos sI Cw .ret)))))))),[(.tmp 2)]⟩
attribute [push_cast] vu vt vr vq vp vo vn vm vl vk sL sK sJ sI
theorem Sd:aox 93=aoy rY:=aoB
def IX:LSO:=[Au 4,Ag 5]
def IW:LSO:=[Aa 9 1,Ax 10 9,A3 11 10 4096]
def IV:LSO:=[Au 4,Ag 5]
def IU:LSO:=[Aa 12 0]
def IT:LSO:=[Ao 14 12 1,Aa 13 14]
def IS:LSO:=[Aa 15 1,Ax 16 15,A3 17 16 0,Aa 18 17,.grp none 18 true
 [Ae 19 18 1,AL 20 18 89 19]
 21 (tm 20)]
def IR:LSO:=[Aa 22 1,Am 23 90 22,Aa 4 23,Az 5]
def IQ:LSO:=[Ao 25 12 2,Aa 24 25]
def IP:LSO:=[Aa 26 1,Ax 27 26,A3 28 27 0,Aa 29 28,.grp none 29 true
 [Ae 30 29 1,AL 31 29 89 30]
 32 (tm 31)]
def IN:LSO:=[Aa 33 1,Aa 4 33,Az 5]
def DG:LSO:=[Ao 35 12 3,Aa 34 35]
def DF:LSO:=[Ad 6 0]
def DE:LSO:=[Aa 36 6,Aa 37 1,Ax 38 37,Al 39 36 38]
def DD:LSO:=[Aa 42 1,Aa 43 6,AB 44 42 43,o1 45 (.bin .geq (tm 44) (.av (.int .u8 128)))]
def DC:LSO:=[Au 4,Ag 5]
def DB:LSO:=[Aa 40 6,Af 41 40 1,Aa 6 41]
def DA:LSO:=[Aa 46 1,Am 47 90 46,Aa 4 47,Az 5]
def Dz:LSO:=[Ao 49 12 4,Aa 48 49]
def Dy:LSO:=[Aa 50 1,Am 51 91 50]
def Dx:LSO:=[Aa 52 1,Aa 4 52,Az 5]
def Dw:LSO:=[Ao 54 12 5,Aa 53 54]
def Dv:LSO:=[Aa 55 1,o1 56 (.bin .eql (tm 55) (.av (.str [84,82,85,69]))),Aa 57 56,.grp none 57 false
 [Aj 58 57 1,og 59 57 false (.bin .eql (tm 58) (.av (.str [70,65,76,83,69])))]
 60 (tm 59)]
def Du:LSO:=[Aa 61 1,Aa 4 61,Az 5]
def Dt:LSO:=[Ao 63 12 6,Aa 62 63]
def Ds:LSO:=[Aa 65 1,Am 66 92 65,Aa 64 66,As 67 64,Aw 68 64,Aa 7 67,Aa 8 68]
def Dr:LSO:=[Aa 69 8,Ao 70 69 0]
def Dq:LSO:=[Aa 71 7,Aa 4 71,Az 5]
def Dp:LSO:=[Ao 73 12 7,Aa 72 73]
def Do:LSO:=[Aa 74 1,Aa 4 74,Az 5]
def Dn:LSO:=[Ao 76 12 8,Aa 75 76]
def Dm:LSO:=[Aa 77 1,Am 78 93 77]
def Dl:LSO:=[Aa 79 1,Aa 4 79,Az 5]
def Dk:LSO:=[Au 4,Ag 5]
def yL:aG:=⟨80,(aos IX [] (.seq (aos IW Cv (aou 11 (.sreg IV []))) (.seq (aos IU [] (.block 0 (aos IT Cu (aot 13 (aos IS Cx (aou 21 (.sreg IR CB))) (aos IQ Cu (aot 24 (aos IP Cx (aou 32 (.sreg IN Cz))) (aos DG Cu (aot 34 (.seq (aos DF [] (aov 1 (.seq (aos DE Cw (aow 39 1)) (.seq (.block 2 (aos DD Cw (aou 45 (.sreg DC [])))) (.sreg DB Cv))))) (aos DA CB .ret)) (aos Dz Cu (aot 48 (aos Dy Cu (aou 51 (.sreg Dx Cz))) (aos Dw Cu (aot 53 (aos Dv Cw (aou 60 (.sreg Du Cz))) (aos Dt Cu (aot 62 (aos Ds CH (aos Dr Cu (aou 70 (.sreg Dq Cz)))) (aos Dp Cu (aot 72 (aos Do Cz .ret) (aos Dn Cu (aot 75 (aos Dm Cu (aou 78 (.sreg Dl Cz))) .skip)))))))))))))))))) (aos Dk [] .ret)))),[(.tmp 4),(.tmp 5)]⟩
attribute [push_cast] IX IW IV IU IT IS IR IQ IP IN DG DF DE DD DC DB DA Dz Dy Dx Dw Dv Du Dt Ds Dr Dq Dp Do Dn Dm Dl Dk
theorem Uw:aox 45=aoy yL:=aoB
def zb:LSO:=[Au 4,Ag 5]
def za:LSO:=[Aa 10 1,Ax 11 10,A3 12 11 4096]
def y9:LSO:=[Au 4,Ag 5]
def y8:LSO:=[Aa 13 1,Aa 6 13,Ag 7]
def y7:LSO:=[Aa 14 0]
def y6:LSO:=[Ao 16 14 1,Aa 15 16]
def y5:LSO:=[Aa 17 1,Am 18 95 17,Aa 19 1,Cg 20 19,Aa 21 20,.grp none 21 true
 [Ae 22 21 1,AL 23 21 96 22]
 24 (tm 23),Aa 6 18,Aa 7 24]
def y0:LSO:=[Ao 26 14 2,Aa 25 26]
def yZ:LSO:=[Aa 27 1,Cg 28 27,Aa 29 28,.grp none 29 true
 [Ae 30 29 1,AL 31 29 96 30]
 32 (tm 31),Aa 7 32]
def yY:LSO:=[Ao 34 14 3,Aa 33 34]
def uj:LSO:=[Aa 35 1,Am 36 95 35,Aa 37 1,o1 38 (.call 97 [(tm 37),(.av (.func 98 []))]),AD 39 38 0,Aa 6 36,Aa 7 39]
def ui:LSO:=[Ao 41 14 4,Aa 40 41]
def uh:LSO:=[Aa 43 1,Am 44 99 43,Aa 42 44,As 45 42,Aw 46 42,Aa 7 46]
def ug:LSO:=[Ao 48 14 5,Aa 47 48]
def uf:LSO:=[Aa 49 1,o1 50 (.bin .eql (tm 49) (.av (.str [84,82,85,69]))),Aa 51 50,.grp none 51 false
 [Aj 52 51 1,og 53 51 false (.bin .eql (tm 52) (.av (.str [70,65,76,83,69])))]
 54 (tm 53),Aa 7 54]
def ue:LSO:=[Ao 56 14 6,Aa 55 56]
def ud:LSO:=[Aa 58 1,Am 59 100 58,Aa 57 59,As 60 57,Aw 61 57,Aa 8 60,Aa 9 61]
def uc:LSO:=[Aa 62 8,Aa 63 9,Ao 64 63 0,Aa 6 62,Aa 7 64]
def ub:LSO:=[Ao 66 14 7,Aa 65 66]
def ua:LSO:=[Az 7]
def t8:LSO:=[Ao 68 14 8,Aa 67 68]
def t7:LSO:=[Aa 69 1,Am 70 101 69,Aa 7 70]
def tZ:LSO:=[Aa 71 7,Ay 72 71]
def tY:LSO:=[Au 4,Ag 5]
def tX:LSO:=[Aa 73 6,Aa 4 73,Az 5]
def tq:aG:=⟨74,(aos zb [] (.seq (aos za Cv (aou 12 (.sreg y9 []))) (aos y8 Cz (.seq (aos y7 [] (.block 0 (aos y6 Cu (aot 15 (.sreg y5 CE) (aos y0 Cu (aot 25 (.sreg yZ Cx) (aos yY Cu (aot 33 (.sreg uj CH) (aos ui Cu (aot 40 (.sreg uh Cy) (aos ug Cu (aot 47 (.sreg uf Cx) (aos ue Cu (aot 55 (aos ud CH (.sreg uc C4)) (aos ub Cu (aot 65 (.sreg ua []) (aos t8 Cu (aot 67 (.sreg t7 Cv) .skip)))))))))))))))))) (.seq (aos tZ Cu (aou 72 (.sreg tY []))) (aos tX Cz .ret)))))),[(.tmp 4),(.tmp 5)]⟩
attribute [push_cast] zb za y9 y8 y7 y6 y5 y0 yZ yY uj ui uh ug uf ue ud uc ub ua t8 t7 tZ tY tX
theorem SY:aox 48=aoy tq:=aoB
attribute [push_cast] lP qe gJ gI LD rZ LE
variable {L:List Blk}{K:alc}
set_option maxHeartbeats 8000000
set_option maxRecDepth 100000
theorem ace{x:Int}{L:List Blk}{K:alc}(h:K (.bool (decide ((128:Int)<=x))) L):alb 98 [.int .i32 x] L K:=by replace h:=hid h;refine ala PX ?_;exact aa h.o
def My(s:List UInt8):Bool:=s.all λc=>decide (c.toNat<128)
theorem ajR{s:List UInt8}(hs:s.length<=1100000)(hno:My s=true->K (.int .i64 (-1)) L)(hyes:∀k:Nat,My s=false->K (.int .i64 (k:Int)) L):
  alb 136 [.str s,.func 98 [],.bool true] L K:=by
 replace hno:=hid hno;replace hyes:=hid hyes;refine ala yB ?_;refine ah (λn T' L'=>∃p,n=s.length-p/\p<=s.length/\Hid (My (s.take p)=true)/\T'=[(10,.ptr L.length 0),(1,.func 98 []),(2,.bool true)]/\L'=L++[.siter s p]) aoD ⟨0,rfl,ali _,hid rfl,rfl,rfl⟩ ?_;rintro _ _ _ ⟨p,rfl,hp,hall,rfl,rfl⟩;by_cases hlt:p<s.length;obtain⟨c,hc⟩:=ak7 (s.getD p 0);have hr:=c.toNat_lt;have htk:s.take (p+1)=s.take p++[c]:=by rw[aly hlt,<- hc];simp[hlt]
 have hnext:My (s.take (p+1))=decide (c.toNat<128):=by have:=hall.o;unfold My at this⊢;rw[htk,amB,this];simp
 by_cases ha:c.toNat<128;have hd:=V1 hlt (by rw[hc];exact ha);rw[hc]at hd;have w0:IntKind.i32.wrap (c.toNat:Int)=(c.toNat:Int):=U2 aoz aoz;have f1:¬(128:Int)<=(c.toNat:Int):=aoz;replace hnext:=hid (hnext.trans (decide_eq_true ha));clear hc ha htk;have kk1:=@hid _ @ace;refine wk ?_;exact aoE aoz aoD ⟨p+1,rfl,hlt,hnext,rfl,rfl⟩;have hh:=XZ hlt (by rw[hc];omega);obtain⟨⟨x,wd⟩,hd⟩:∃q,Uo s p=q:=⟨_,rfl⟩;rw[hd]at hh;simp only at hh;have f1:(128:Int)<=(x:Int):=aoz;have hbad:My s=false:=by rw[<- amF];intro e;have hm:c∈s:=(by rw[<- hc];simp[hlt]);have:=aln.1 e c hm;simp at this;omega
 have h':=hid (hyes.o p hbad);clear hc ha htk hnext hbad;have kk1:=@hid _ @ace;refine wk ?_;exact ae rfl h'.o;have hke:p=s.length:=aoz;subst hke;have h1:=hall.o;rw[alt]at h1;have h':=hid (hno.o h1);clear h1;refine wk ?_;exact ae rfl h'.o
theorem af4{s:List UInt8}(hs:s.length<=1100000)(hno:My s=true->K (.int .i64 (-1)) L)(hyes:∀k:Nat,My s=false->K (.int .i64 (k:Int)) L):
  alb 97 [.str s,.func 98 []] L K:=by
 replace hno:=hid hno;replace hyes:=hid hyes;refine ala yC ?_;refine ajR hs (λe=>?_) (λk e=>?_);have h':=hid (hno.o e);refine aoH ?_;exact aa h'.o;have h':=hid (hyes.o k e);refine aoH ?_;exact aa h'.o
def dig(v:List UInt8)(i:Nat):Nat:=(v.getD i 0).toNat-48
def two(v:List UInt8)(i:Nat):Nat:=10*dig v i+dig v (i+1)
def eZ(c:UInt8):Bool:=decide (48<=c.toNat)&&decide (c.toNat<=57)
def afR(y:Nat):Bool:=decide (y%4=0) && !decide (y%100=0) ||decide (y%400=0)
def YS(m:Nat):Nat:=if m=2 then 28 else if m=4\/m=6\/m=9\/m=11 then 30 else 31
def XC(y m:Nat):Nat:=if m=2/\afR y=true then YS m+1 else YS m
def aaf(v:List UInt8):Bool:=decide ((1<=two v 4/\two v 4<=12)/\1<=two v 6/\two v 8<=23/\two v 10<=59/\two v 12<=59)&&decide (two v 6<=XC (two v 0*100+two v 2) (two v 4))
def Lb(v:List UInt8):Bool:=decide (v.length=15)&&decide (v.getD 14 0=90)&&(v.take 14).all eZ&&aaf v
theorem akr{v:List UInt8}{i p:Nat}{z:Int}(hz:z=(i:Int))(hi:i+1<v.length)(hv:v.length<=1000)(h1:eZ (v.getD i 0)=true)(h2:eZ (v.getD (i+1) 0)=true)(hL:L[p]?=some (.cells [.str v]))(h:K (.int .i64 (two v i:Nat)) L):
  alb 141 [.int .i64 z,.ptr p 0] L K:=by
 subst hz;unfold two dig at h;obtain⟨a,ha⟩:=ak7 (v.getD i 0);obtain⟨b,hb⟩:=ak7 (v.getD (i+1) 0);rw[ha]at h1 h;rw[hb]at h2 h;simp only[eZ,alk,decide_eq_true_eq]at h1 h2;obtain⟨x,hx⟩:∃x:Nat,a.toNat=48+x:=⟨a.toNat-48,aoz⟩;obtain⟨y,hy⟩:∃y:Nat,b.toNat=48+y:=⟨b.toNat-48,aoz⟩;have hx9:x<=9:=aoz;have hy9:y<=9:=aoz;rw[show 10*(a.toNat-48)+(b.toNat-48)=10*x+y by omega]at h;have hxa:(a.toNat:Int)=48+(x:Int):=aoz;have hyb:(b.toNat:Int)=48+(y:Int):=aoz;have g1:(i:Int)<(v.length:Int):=aoz;have g2:=ak9 i aoz;have g3:(i:Int)+1<(v.length:Int):=aoz;have g4:((i:Int)+1).toNat=i+1:=aoz;have g5:(0:Int)<=(i:Int)+1:=aoz;have w1:IntKind.u8.wrap (48+(x:Int)-48)=(x:Int):=by rw[cL aoz aoz];omega
 have w2:IntKind.u8.wrap (48+(y:Int)-48)=(y:Int):=by rw[cL aoz aoz];omega
 have w3:IntKind.i64.wrap (x:Int)=(x:Int):=ab aoz aoz;have w4:IntKind.i64.wrap (y:Int)=(y:Int):=ab aoz aoz;have w5:IntKind.i64.wrap ((x:Int)*10)=(x:Int)*10:=ab aoz aoz;have w6:IntKind.i64.wrap ((x:Int)*10+(y:Int))=(x:Int)*10+(y:Int):=ab aoz aoz;have hfin:K (.int .i64 ((x:Int)*10+(y:Int))) L:=by rwa[show((10*x+y:Nat):Int)=(x:Int)*10+(y:Int)by omega]at h
 replace hfin:=hid hfin;clear h h1 h2 hx hy;refine ala Lu ?_;exact aa hfin.o
theorem aiA{m:Nat}(h1:1<=m)(h2:m<=12){l:List AV}(hl:d7 2=some l):l.getD (m-1) .undef=.int .i64 (YS m:Nat)/\l.length=12:=by
 have e:d7 2=some [.int .i64 31,.int .i64 28,.int .i64 31,.int .i64 30,.int .i64 31,.int .i64 30,.int .i64 31,.int .i64 31,.int .i64 30,.int .i64 31,.int .i64 30,.int .i64 31]:=by rfl
 rw[e]at hl;cases hl;have:m=1\/m=2\/m=3\/m=4\/m=5\/m=6\/m=7\/m=8\/m=9\/m=10\/m=11\/m=12:=aoz;rcases this with rfl|rfl|rfl|rfl|rfl|rfl|rfl|rfl|rfl|rfl|rfl|rfl<;>exact⟨rfl,rfl⟩
theorem jB{v:List UInt8}{i:Nat}(h1:eZ (v.getD i 0)=true)(h2:eZ (v.getD (i+1) 0)=true):two v i<=99:=by simp only[eZ,alk,decide_eq_true_eq]at h1 h2;unfold two dig;omega
theorem ZD{v:List UInt8}(hv:v.length<=1100000)(h:K (.bool (Lb v)) L):alb 101 [.str v] L K:=by
 have no:Lb v=false->K (.bool false) L:=λe=>by rw[<- e];exact h
 replace no:=hid no;replace h:=hid h;refine ac PW (by simp[qd]) ?_;simp only[qd,am];by_cases h15:v.length=15;rotate_left;have f1:¬(v.length:Int)=15:=aoz;have h':=hid (no.o (by simp[Lb,h15]));clear h15;refine wk ?_;exact ae rfl h'.o;have f1:(v.length:Int)=15:=aoz;obtain⟨z,hz⟩:=ak7 (v.getD 14 0);by_cases h90:z=90;rotate_left;have f2:¬(z.toNat:Int)=90:=λe=>h90 ((bv z 90).1 e)
 have h':=hid (no.o (by simp[Lb,<- hz]at h90⊢;simp[h90]));clear h90;refine wk ?_;exact ae rfl h'.o;have f2:(z.toNat:Int)=90:=by rw[h90];rfl
 obtain⟨w,hw⟩:=ak7 (v.take 14);have hwl:w.length=14:=by rw[<- hw];simp[h15]
 have f3:(14:Int)<=(v.length:Int):=aoz;have hul:(u8s w).length=14:=by simp[u8s,hwl]
 have hdall:=hid (show w.all eZ=false->K (.bool false) L from λe=>no.o (by simp[Lb,hw,e]));replace hw:=hid hw;have hw':v.take 14=w:=hw.o;have f4:(0:Int)<=14:=aoz;refine wk ?_;refine ah (λn T' L'=>∃i:Nat,n=14-i/\i<=14/\Hid ((w.take i).all eZ=true)/\T'=[(22,.int .i64 (i:Int)),(21,.int .i64 14),(20,.sl (u8s w) 14 none),(1,.ptr L.length 0)]/\L'=L++[.cells [.str v]]) aoD ⟨0,rfl,ali _,hid rfl,rfl,rfl⟩ ?_;rintro _ _ _ ⟨i,rfl,hi,hall,rfl,rfl⟩;by_cases hlt:i<14
 .have g1:(i:Int)<14:=aoz;have g2:=ak9 i aoz;obtain⟨c,hc⟩:=ak7 (w.getD i 0);have g3:(u8s w).getD i .undef=.int .u8 c.toNat:=(by rw[<- hc];simp[u8s,show i<w.length by omega]);have hm:c∈w:=(by rw[<- hc];simp[show i<w.length by omega]);have htk:w.take (i+1)=w.take i++[c]:=(by rw[aly aoz,<- hc];simp[show i<w.length by omega]);have bad:=hid λ(e:eZ c=false)=>hdall.o (List.all_eq_false.2 ⟨c,hm,by rw[e];simp⟩)
  have good:=hid λ(e:eZ c=true)=>show(w.take (i+1)).all eZ=true by rw[htk,amB,hall.o];simp[e]
  clear hc hm htk hw' h15 hwl
  repeat' first
   |refine bu ?_
   | (first|refine bj aoB ?_|refine aJ aoB ?_|refine aM ?_|refine cN ?_|refine bE (fun _=>?_)|refine aC ?_|refine bo ?_)
     refine sm ?_
   | (first|refine a8 aoB ?_|refine ba ?_|refine aL ?_|refine bm ?_|refine bJ (aB ?_))
     refine sl ?_
   |exact bF
   |first|apply bG|apply be|apply bH|apply bf|apply bI|apply bg
   |refine aP ?_
   |refine aK ?_
   |first|refine aN rfl ?_|refine aO rfl ?_|refine ax rfl ?_ ?_|refine aT rfl (λ_=>?_) (λ_=>?_)|refine aS rfl (λ_=>?_) (λ_=>?_)
   |((first|refine au (λ_=>?_) (λ_=>?_)|refine aA (λ_=>?_) (λ_=>?_))<;>try refine sm ?_)
   |refine And.intro trivial ?_
   |refine And.intro aoz ?_
   |refine aY rfl (λ_=>?_) (λ_=>?_)
   |refine And.intro ?_ ?_
  rename_i hx;refine ae rfl (bad.o ?_);simp only[eZ,anw,decide_eq_false_iff_not];omega;rename_i hx;refine aoE aoz aoC ⟨i+1,rfl,aoz,hid (good.o ?_),rfl,rfl⟩;simp only[eZ,alk,decide_eq_true_eq];omega
 have hke:i=14:=aoz;subst hke;have g1:¬((14:Nat):Int)<14:=aoz;have hda:=hall.o;rw[amb aoz]at hda;have hdv:∀i,i<14->eZ (v.getD i 0)=true:=λi hi=>by refine aln.1 hda _ ?_;rw[<- hw.o];have:v.getD i 0=(v.take 14)[i]'(by simp;omega):=(by simp[show i<v.length by omega]);rw[this];exact al6 _
 have hdate:Lb v=aaf v:=by simp only[Lb,h15,hz,h90,hw.o,hda];simp
 have ct:∀i:Nat,i+1<14->∀(z:Int) (K:AV->List Blk->Prop),z=(i:Int)->K (.int .i64 (two v i:Nat)) (L++[.cells [.str v]])->alb 141 [.int .i64 z,.ptr L.length 0] (L++[.cells [.str v]]) K:=λi hi z K hz h =>
  akr hz aoz aoz (hdv i aoz) (hdv (i+1) hi) (re _ _ _) h
 have b0:=jB (hdv 0 aoz) (hdv 1 aoz);have b2:=jB (hdv 2 aoz) (hdv 3 aoz);have b4:=jB (hdv 4 aoz) (hdv 5 aoz);have b6:=jB (hdv 6 aoz) (hdv 7 aoz);have b8:=jB (hdv 8 aoz) (hdv 9 aoz);have b10:=jB (hdv 10 aoz) (hdv 11 aoz);have b12:=jB (hdv 12 aoz) (hdv 13 aoz);have kk1:=@hid _ (λ{K:alc}=>ct 0 aoz 0 K rfl);have kk2:=@hid _ (λ{K:alc}=>ct 2 aoz 2 K rfl);have kk3:=@hid _ (λ{K:alc}=>ct 4 aoz 4 K rfl);have kk4:=@hid _ (λ{K:alc}=>ct 6 aoz 6 K rfl);have kk5:=@hid _ (λ{K:alc}=>ct 8 aoz 8 K rfl);have kk6:=@hid _ (λ{K:alc}=>ct 10 aoz 10 K rfl);have kk7:=@hid _ (λ{K:alc}=>ct 12 aoz 12 K rfl);have hfin:=h.o;rw[hdate]at hfin;unfold aaf at hfin;obtain⟨Y,hY⟩:=ak7 (two v 0);obtain⟨Y2,hY2⟩:=ak7 (two v 2);obtain⟨M,hM⟩:=ak7 (two v 4);obtain⟨D,hD⟩:=ak7 (two v 6);obtain⟨H,hH⟩:=ak7 (two v 8);obtain⟨I,hI⟩:=ak7 (two v 10);obtain⟨S,hS⟩:=ak7 (two v 12);rw[hY]at b0 hfin kk1;rw[hY2]at b2 hfin kk2;rw[hM]at b4 hfin kk3;rw[hD]at b6 hfin kk4;rw[hH]at b8 hfin kk5;rw[hI]at b10 hfin kk6;rw[hS]at b12 hfin kk7;clear hY hY2 hM hD hH hI hS ct hdate hdv hda hall hw' hw hdall h15 hwl hul hi hlt f1 f2 f3 f4 hv h90 hz no h;have w1:IntKind.i64.wrap ((Y:Int)*100)=(Y:Int)*100:=ab aoz aoz;have w2:IntKind.i64.wrap ((Y:Int)*100+(Y2:Int))=(Y:Int)*100+(Y2:Int):=ab aoz aoz;have hbad:¬((1<=M/\M<=12)/\1<=D/\H<=23/\I<=59/\S<=59)->K (.bool false) L:=λe=>by rw[decide_eq_false e]at hfin;simpa using hfin
 replace hbad:=hid hbad;replace hfin:=hid hfin;by_cases m1:(M:Int)<1;refine wk ?_;exact ae rfl (hbad.o aoz);by_cases m2:(12:Int)<(M:Int);refine wk ?_;exact ae rfl (hbad.o aoz);by_cases m3:(D:Int)<1;refine wk ?_;exact ae rfl (hbad.o aoz);by_cases m4:(23:Int)<(H:Int);refine wk ?_;exact ae rfl (hbad.o aoz);by_cases m5:(59:Int)<(I:Int);refine wk ?_;exact ae rfl (hbad.o aoz);by_cases m6:(59:Int)<(S:Int);refine wk ?_;exact ae rfl (hbad.o aoz);have hgood:=hid (show decide (D<=XC (Y*100+Y2) M)=true\/decide (D<=XC (Y*100+Y2) M)=false by cases decide (D<=XC (Y*100+Y2) M)<;>simp);have hfin2:=hfin.o;rw[show decide ((1<=M/\M<=12)/\1<=D/\H<=23/\I<=59/\S<=59)=true by simp;omega,al0]at hfin2;unfold XC afR at hfin2;obtain⟨dn,hdn⟩:=ak7 (YS M);have hdb:dn<=31:=by rw[<- hdn];unfold YS;split<;>(try split)<;>omega
 obtain⟨r4,hr4⟩:=ak7 ((Y*100+Y2)%4);obtain⟨r100,hr100⟩:=ak7 ((Y*100+Y2)%100);obtain⟨r400,hr400⟩:=ak7 ((Y*100+Y2)%400);rw[hr4,hr100,hr400,hdn]at hfin2;have t4:Int.tmod ((Y:Int)*100+(Y2:Int)) 4=(r4:Int):=by rw[ank aoz];omega
 have t100:Int.tmod ((Y:Int)*100+(Y2:Int)) 100=(r100:Int):=by rw[ank aoz];omega
 have t400:Int.tmod ((Y:Int)*100+(Y2:Int)) 400=(r400:Int):=by rw[ank aoz];omega
 have x1:IntKind.i64.wrap ((M:Int)-1)=(M:Int)-1:=ab aoz aoz;have x2:((M:Int)-1).toNat=M-1:=aoz;have x3:(0:Int)<=(M:Int)-1:=aoz;have x4:(M:Int)-1<12:=aoz;obtain⟨x5,x6⟩:=aiA (m:=M) aoz aoz Z7;rw[hdn]at x5;have x7:=ak9 dn aoz;replace hfin2:=hid hfin2;clear hr4 hr100 hr400 hdn hgood
 repeat' first
  |refine bu ?_
  | (first|refine bj aoB ?_|refine aJ aoB ?_|refine aM ?_|refine cN ?_|refine bE (fun _=>?_)|refine aC ?_|refine bo ?_|refine kk1.o ?_|refine kk2.o ?_|refine kk3.o ?_|refine kk4.o ?_|refine kk5.o ?_|refine kk6.o ?_|refine kk7.o ?_|refine bh (kk1.o ⟨rfl,rfl⟩) (kk1.o ⟨rfl,rfl⟩) ?_|refine bh (kk2.o ⟨rfl,rfl⟩) (kk2.o ⟨rfl,rfl⟩) ?_|refine bh (kk3.o ⟨rfl,rfl⟩) (kk3.o ⟨rfl,rfl⟩) ?_|refine bh (kk4.o ⟨rfl,rfl⟩) (kk4.o ⟨rfl,rfl⟩) ?_|refine bh (kk5.o ⟨rfl,rfl⟩) (kk5.o ⟨rfl,rfl⟩) ?_|refine bh (kk6.o ⟨rfl,rfl⟩) (kk6.o ⟨rfl,rfl⟩) ?_|refine bh (kk7.o ⟨rfl,rfl⟩) (kk7.o ⟨rfl,rfl⟩) ?_|refine aF (kk1.o ⟨rfl,rfl⟩) ?_|refine aF (kk2.o ⟨rfl,rfl⟩) ?_|refine aF (kk3.o ⟨rfl,rfl⟩) ?_|refine aF (kk4.o ⟨rfl,rfl⟩) ?_|refine aF (kk5.o ⟨rfl,rfl⟩) ?_|refine aF (kk6.o ⟨rfl,rfl⟩) ?_|refine aF (kk7.o ⟨rfl,rfl⟩) ?_)
    refine sm ?_
  | (first|refine a8 aoB ?_|refine ba ?_|refine aL ?_|refine bm ?_|refine bJ (aB ?_))
    refine sl ?_
  |exact bF
  |first|apply bG|apply be|apply bH|apply bf|apply bI|apply bg
  |refine aP ?_
  |refine aK ?_
  |first|refine aN rfl ?_|refine aO rfl ?_|refine ax rfl ?_ ?_|refine aT rfl (λ_=>?_) (λ_=>?_)|refine aS rfl (λ_=>?_) (λ_=>?_)
  |((first|refine au (λ_=>?_) (λ_=>?_)|refine aA (λ_=>?_) (λ_=>?_))<;>try refine sm ?_)
  |refine And.intro trivial ?_
  |refine And.intro aoz ?_
  |refine aY rfl (λ_=>?_) (λ_=>?_)
  |refine And.intro ?_ ?_
 rename_i hx;refine ae rfl ?_;have e:=hfin2.o;rw[if_pos ⟨aoz,by simp;omega⟩]at e;rwa[show decide (D<=dn+1)=decide ((D:Int)<=(dn:Int)+1)by simp only[decide_eq_decide];omega]at e;rename_i hx;refine ae rfl ?_;have e:=hfin2.o;rw[if_neg (λ⟨e1,e2⟩=>hx ⟨aoz,by simp at e2;omega⟩)]at e;rwa[show decide (D<=dn)=decide ((D:Int)<=(dn:Int))by simp only[decide_eq_decide];omega]at e
end Go.Proofs.YtcmfcpjnhephaaaGreatDoor.Av
set_option maxRecDepth 100000
namespace Go.Proofs.YtcmfcpjnhephaaaGreatDoor.Av
open Go
def KY:LSO:=[A4 1 0,Ad 2 0]
def KX:LSO:=[o1 3 (.alloc [(.int .i64 0)]),Ap 4 5 1,BG 5 120 3 4 1,Aa 2 5]
def yV:aG:=⟨6,(aos KY [] (aos KX Cw .ret)),[(.tmp 2)]⟩
attribute [push_cast] KY KX
theorem UG:aox 76=aoy yV:=aoB
def lE:LSO:=[A4 4 1,Ad 6 0]
def lD:LSO:=[Aa 10 2,A3 11 10 64]
def lC:LSO:=[Ad 6 6]
def lB:LSO:=[Aa 12 0,Ar 13 12,Ac 14 0 13,Ab 15 1 14,Af 16 15 1,Ar 17 12,Ac 18 0 17,Ai 1 18 16]
def lA:LSO:=[Aa 19 0,Ar 20 19,Ac 21 0 20,Ab 22 1 21,A3 23 22 1000]
def lz:LSO:=[Ad 6 9]
def lw:LSO:=[Ac 25 0 4,Ab 26 1 25,AD 27 26 0,Aa 28 27,.grp none 28 false
 [AK 29 28 0 4,AF 30 28 1 29,A9 31 28 30 8]
 32 (tm 31),Aa 24 32]
def lv:LSO:=[Ad 6 24]
def lu:LSO:=[Ac 34 0 4,Ab 35 1 34,Ao 36 35 2,Aa 37 36,.grp none 37 true
 [A6 38 37 4 4,A5 39 37 1 38,AU 40 37 39,BM 41 37 40 1]
 42 (tm 41),Aa 33 42]
def lr:LSO:=[Ad 6 2]
def jq:LSO:=[Ac 44 0 4,Ab 45 1 44,o1 46 (.bin .leq (tm 45) (iv 2)),Aa 43 46]
def jp:LSO:=[Ac 47 4 4,Ab 48 1 47,Ak 49 48,Ad 50 0]
def jo:LSO:=[Al 51 50 49]
def jm:LSO:=[An 52 5 48 50,Ap 53 5 52,AX 8,Ai 5 8 53]
def jl:LSO:=[Aa 54 0,Ap 55 5 8,Aa 56 2,Af 57 56 1,AA 58 120 54 55 57,Aa 9 58]
def jk:LSO:=[Aa 59 9,AE 60 59 0]
def ji:LSO:=[Aa 61 9,Aa 6 61]
def jh:LSO:=[Af 62 50 1,Aa 50 62]
def jg:LSO:=[Ac 64 1 4,Ab 65 1 64,Am 66 157 65,Ay 67 66,Aa 63 67]
def jf:LSO:=[Ad 6 20]
def je:LSO:=[Ac 69 0 4,Ab 70 1 69,Ao 71 70 4,Aa 72 71,.grp none 72 true
 [A6 73 72 3 4,A5 74 72 1 73,AL 75 72 158 74,BF 76 72 75]
 77 (tm 76),Aa 68 77]
def jd:LSO:=[Ad 6 4]
def jc:LSO:=[Ad 6 0]
def gb:aG:=⟨78,(aos lE [] (.seq (aos lD Cu (aou 11 (.sreg lC []))) (.seq (aos lB C7 (aos lA Cx (aou 23 (.sreg lz [])))) (.seq (.block 0 (aos lw Cy (aot 24 (aos lv [] .ret) (aos lu Cy (aot 33 (aos lr [] .ret) (aos jq Cw (aot 43 (aos jp CD (aov 1 (aos jo [] (.seq (aow 51 1) (.seq (.block 2 (aos jm Cv (aos jl Cy (aos jk Cu (aou 60 (.sreg ji Cu)))))) (.sreg jh Cu)))))) (aos jg Cx (aot 63 (aos jf [] .ret) (aos je Cy (aou 68 (.sreg jd [])))))))))))) (aos jc [] .ret))))),[(.tmp 6)]⟩
attribute [push_cast] lE lD lC lB lA lz lw lv lu lr jq jp jo jm jl jk ji jh jg jf je jd jc
theorem yd:aox 120=aoy gb:=aoB
def Gz:LSO:=[Ag 2]
def Gy:LSO:=[Aa 5 0,Ak 6 5,Ad 7 0]
def Gx:LSO:=[Al 8 7 6]
def Gw:LSO:=[Aa 9 7,An 10 2 5 7,Ap 11 2 10,BH 4,Aa 3 9,Ai 2 4 11]
def Gv:LSO:=[Ac 13 1 4,Ab 14 1 13,BC 15 14,Aa 16 15,.grp none 16 false
 [AK 17 16 0 4,AF 18 16 1 17,Cb 19 16 18 0]
 20 (tm 19),Aa 21 20,.grp none 21 false
 [AK 22 21 0 4,AF 23 21 1 22,A9 24 21 23 2]
 25 (tm 24),Aa 12 25]
def Gu:LSO:=[Ag 2]
def Gt:LSO:=[Ac 27 0 4,Ab 28 1 27,Ao 29 28 0,Aa 30 29,.grp none 30 true
 [Ae 31 30 3,BR 32 30 31 0]
 33 (tm 32),Aa 34 33,.grp none 34 false
 [AK 35 34 0 4,AF 36 34 1 35,AJ 37 34 36 2,Aj 38 34 37,.grp (some (34,false)) 38 true
 [Ae 39 38 3,Ae 40 38 0,AU 41 38 40,BQ 42 38 41 1,Bn 43 38 39 42]
 44 (tm 43)]
 45 (tm 44),Aa 26 45]
def Gs:LSO:=[Ag 2]
def Gr:LSO:=[Af 46 7 1,Aa 7 46]
def Gq:LSO:=[Aa 47 0,Ak 48 47,A3 49 48 0,Aa 2 49]
def tN:aG:=⟨50,(aos Gz [] (.seq (aos Gy [] (aov 0 (aos Gx [] (.seq (aow 8 0) (.seq (.block 1 (aos Gw C4 (.block 2 (aos Gv C2 (aot 12 (aos Gu [] .ret) (aos Gt C2 (aou 26 (.sreg Gs [])))))))) (.sreg Gr Cu)))))) (aos Gq Cw .ret))),[(.tmp 2)]⟩
attribute [push_cast] Gz Gy Gx Gw Gv Gu Gt Gs Gr Gq
theorem Tn:aox 158=aoy tN:=aoB
attribute [push_cast] yV gb tN
variable {L:List Blk}{K:alc}
set_option maxHeartbeats 8000000
set_option maxRecDepth 100000
theorem afq:d7 6=some (Lib.pow10Tab.map (AV.int .u64)):=by rfl
theorem adp:Tryz.prog.globalNamed "internal/strconv.uint64pow10" = some 6:=aoB
theorem akz{n:Int}(hn:I64 n)(h:K (.str (Lib.itoa n)) L):alb 138 [.int .i64 n,.int .i64 10] L K :=
 da Tryz.func138 rfl aoB (λw0 S0 E w vs hR hv=>by simp only[VRL,VR]at hv;obtain⟨_,_,rfl,rfl,_,_,rfl,rfl,rfl⟩:=hv;refine(Tryz.strconv_FormatInt_10 n hn.1 hn.2 w (hR.table adp afq (by simp[Lib.pow10Tab]))).mono λe w' ⟨he,k,os,hw⟩=>⟨_,he,by simp[VR],by subst hw;exact tP.of_grow w k os⟩) h
theorem yw{w w':World}(h:RowKit.Below w.heap.size w w'):tP w w':=⟨λb hb=>h.block b hb,h.size,h.os,h.tape,h.output⟩
theorem aae{w0:World}{S0:SB}{E:Env}{L:List Blk}{w:World}(hR:Rel w0 S0 E L w){g:Nat}{t:TypeId}(hp:d7 g=some [.iface t .undef]):∃x,w.cell? ⟨g,0,none⟩=some (.iface t x):=by have hm:=yx hp;obtain⟨v,h1,h2⟩:=(hR.glob.env hm).get (i:=0) (a:=.iface t .undef) rfl;simp only[VR]at h2;obtain⟨x,rfl,_⟩:=h2;exact⟨x,by simpa using hR.mem _ _ _ h1⟩
theorem aft{l:List UInt8}{n:Int}(hl:(l.length:Int)<=1100000)(hp:Lib.parseIntB 64 l=.ok n)(h:K (.tup [.int .i64 n,.nilif]) L):alb 137 [.str l,.int .i64 10,.int .i64 64] L K :=
 da Tryz.func137 rfl aoB (λw0 S0 E w vs hR hv=>by
  simp only[VRL,VR]at hv;obtain⟨_,_,rfl,rfl,_,_,rfl,rfl,_,_,rfl,rfl,rfl⟩:=hv;refine(Tryz.strconv_ParseInt_10_at64_ok ⟨⟨l⟩⟩ (show l.length<=_ by omega) n hp w).mono λe w' ⟨he,hw⟩=>⟨_,he,by simp[VR,VRL],?_⟩
  rcases hw with rfl|⟨t,rfl⟩;exact tP.refl _;exact yw (Lib.bytesWorld_below _ _ _)) h
theorem afu{l:List UInt8}(hl:(l.length:Int)<=1100000)(hp:∀n,Lib.parseIntB 64 l≠.ok n)(h:K (.tup [.int .i64 (WM l),.iface 252 .undef]) L):alb 137 [.str l,.int .i64 10,.int .i64 64] L K :=
 da Tryz.func137 rfl aoB (λw0 S0 E w vs hR hv=>by
  simp only[VRL,VR]at hv;obtain⟨_,_,rfl,rfl,_,_,rfl,rfl,_,_,rfl,rfl,rfl⟩:=hv
  match hq:Lib.parseIntB 64 l with
  |.ok n=>exact absurd hq (hp n)
  | .syntax =>
    obtain⟨x,hx⟩:=aae hR (g:=4) rfl;refine(Tryz.strconv_ParseInt_10_at64_syntax ⟨⟨l⟩⟩ (show l.length<=_ by omega) hq _ w hx (.inr ⟨_,_,rfl⟩)).mono λe w' ⟨N,he,_,_,hw⟩=>⟨_,he,?_,yw hw⟩
    have e0:WM l=0:=(by simp[WM,hq]);rw[e0];simp[VR,VRL];exact⟨_,_,⟨rfl,rfl⟩,rfl,_,rfl,_,rfl⟩
  | .range =>
    obtain⟨x,hx⟩:=aae hR (g:=5) rfl;refine(Tryz.strconv_ParseInt_10_at64_range ⟨⟨l⟩⟩ (show l.length<=_ by omega) hq _ w hx (.inr ⟨_,_,rfl⟩)).mono λe w' ⟨N,he,_,_,hw⟩=>⟨_,he,?_,yw hw⟩
    have e0:WM l=Lib.intSat 64 l:=(by simp[WM,hq]);rw[e0];simp[VR,VRL];exact⟨_,_,⟨rfl,rfl⟩,rfl,_,rfl,_,rfl⟩) h
theorem Zy{l:List UInt8}(hl:(l.length:Int)<=1100000)(h:K (.tup [.int .i64 (WM l),.bool (xP l)]) L):alb 99 [.str l] L K:=by
 replace h:=hid h;refine ac PV (by simp[qc]) ?_;simp only[qc,am];by_cases hp:∃n,Lib.parseIntB 64 l=.ok n;obtain⟨n,hp⟩:=hp;have hr:=hid (TW hp);have e1:=hid (show WM l=n by simp[WM,hp]);have e2:=hid (show xP l=decide (Lib.itoa n=l)by simp[xP,hp]);replace hp:=hid hp;have kk1:=@aoG _ _ _ _ (aft hl hp.o);have kk2:=@aoG _ _ _ _ (akz hr.o);refine wk ?_;refine aa ?_;have h:=h.o;rw[e1.o,e2.o]at h;exact h;have hp':=hid (show ∀n,Lib.parseIntB 64 l≠.ok n from λn e=>hp ⟨n,e⟩);have e2:=hid (show xP l=false by unfold xP;split;rename_i n hn;exact absurd ⟨n,hn⟩ hp;rfl)
 clear hp;have kk1:=@aoG _ _ _ _ (afu hl hp'.o);refine wk ?_;refine aa ?_;have h:=h.o;rw[e2.o]at h;exact h
theorem abB:d7 0=some ((List.range 256).map λc=>AV.int .u8 (Lib.firstT c:Int)):=aoB
theorem aas:d7 1=some ((List.range 16).flatMap λi=>[AV.int .u8 (Lib.accLo i:Int),AV.int .u8 (Lib.accHi i:Int)]):=aoB
theorem SM{w0:World}{S0:SB}{E:Env}{L:List Blk}{w:World}(hR:Rel w0 S0 E L w){g i:Nat}{l:List AV}{k:IntKind}{z:Int}(hp:d7 g=some l)(hi:l[i]?=some (.int k z)):w.cell? ⟨g,i,none⟩=some (.int k z):=by have hm:=yx hp;obtain⟨v,h1,h2⟩:=(hR.glob.env hm).get (i:=i) (a:=.int k z) hi;simp only[VR]at h2;subst h2;simpa using hR.mem _ _ _ h1
theorem acQ{w0:World}{S0:SB}{E:Env}{L:List Blk}{w:World}(hR:Rel w0 S0 E L w):Lib.Utf8Tabs 0 1 w:=by
 refine⟨λc hc=>SM hR abB ?_,λi hi=>⟨SM hR aas ?_,SM hR aas ?_⟩⟩;simp[hc];have:∀i:_root_.Fin 16,((List.range 16).flatMap λi=>[AV.int .u8 (Lib.accLo i:Int),AV.int .u8 (Lib.accHi i:Int)])[2*i.val]?=some (.int .u8 (Lib.accLo i.val:Int)):=λi=>by
  match i with
  |⟨0,_⟩|⟨1,_⟩|⟨2,_⟩|⟨3,_⟩|⟨4,_⟩|⟨5,_⟩|⟨6,_⟩|⟨7,_⟩|⟨8,_⟩|⟨9,_⟩|⟨10,_⟩|⟨11,_⟩|⟨12,_⟩|⟨13,_⟩|⟨14,_⟩|⟨15,_⟩=>rfl
  |⟨n+16,h⟩=>omega
 exact this ⟨i,hi⟩;have:∀i:_root_.Fin 16,((List.range 16).flatMap λi=>[AV.int .u8 (Lib.accLo i:Int),AV.int .u8 (Lib.accHi i:Int)])[2*i.val+1]?=some (.int .u8 (Lib.accHi i.val:Int)):=λi=>by
  match i with
  |⟨0,_⟩|⟨1,_⟩|⟨2,_⟩|⟨3,_⟩|⟨4,_⟩|⟨5,_⟩|⟨6,_⟩|⟨7,_⟩|⟨8,_⟩|⟨9,_⟩|⟨10,_⟩|⟨11,_⟩|⟨12,_⟩|⟨13,_⟩|⟨14,_⟩|⟨15,_⟩=>rfl
  |⟨n+16,h⟩=>omega
 exact this ⟨i,hi⟩
theorem LV{l:List UInt8}(hl:l.length<=1100000)(h:K (.bool (Lib.validD l)) L):alb 96 [.str l] L K :=
 da Tryz.func96 rfl aoB (λw0 S0 E w vs hR hv=>by simp only[VRL,VR]at hv;obtain⟨_,_,rfl,rfl,rfl⟩:=hv;exact(Any.utf8_ValidString Tryz.lays196 ⟨⟨l⟩⟩ w (show l.length<=_ by omega) (acQ hR)).mono λe w' ⟨he,hw⟩=>⟨_,he,by simp[VR],yw hw⟩) h
theorem U8{a b:List UInt8}{L:List Blk}{K:alc}(h:K (.int .i64 (Lib.compareBytes a b)) L):alb 126 [.str a,.str b] L K :=
 da Tryz.func126 rfl aoB (λw0 S0 E w vs hR hv=>by simp only[VRL,VR]at hv;obtain⟨_,_,rfl,rfl,_,_,rfl,rfl,rfl⟩:=hv;exact(Tryz.strings_Compare ⟨⟨a⟩⟩ ⟨⟨b⟩⟩ w).mono λe w' ⟨he,hw⟩=>⟨_,he,by simp[VR],by subst hw;exact tP.refl _⟩) h
abbrev agZ:List UInt8:=[84,82,85,69]
abbrev abQ:List UInt8:=[70,65,76,83,69]
def GF(syn:Int)(v:List UInt8):Option (List UInt8):=
 if syn=1 then(if v=[]then none else if Lib.validD v=true then some (bL v)else none)
 else if syn=2 then(if v=[]then none else if Lib.validD v=true then some v else none)
 else if syn=3 then(if My v=true then some (bL v)else none)
 else if syn=4 then(if xP v=true then some v else none)
 else if syn=5 then(if v=agZ\/v=abQ then some v else none)
 else if syn=6 then(if(Lh v).2=0 then some (Lh v).1 else none)
 else if syn=7 then some v
 else if syn=8 then(if Lb v=true then some v else none)
 else none
def cj(syn:Int)(v:List UInt8):Option (List UInt8):=if 4096<v.length then none else GF syn v
def RO:Option (List UInt8)->AV
 |some n=>.tup [.str n,.bool true]
 |none=>.tup [.str [],.bool false]
theorem PG{syn:Int}{v:List UInt8}(h:K (RO (cj syn v)) L):alb 48 [.int .i64 syn,.str v] L K:=by
 unfold cj at h;refine ac SY (by simp[tq]) ?_;simp only[tq,am];by_cases hl:4096<v.length;have f1:(4096:Int)<(v.length:Int):=aoz;rw[if_pos hl]at h;replace h:=hid h;clear hl;refine wk ?_;exact aa h.o;have f1:¬(4096:Int)<(v.length:Int):=aoz;rw[if_neg hl]at h;have vl1:v.length<=1100000:=aoz;have vl2:(v.length:Int)<=100000:=aoz;have vl3:(v.length:Int)<=1100000:=aoz;unfold GF at h;clear hl;by_cases s1:syn=1;subst s1;rw[if_pos rfl]at h;by_cases hv:v=[];rw[if_pos hv]at h;replace h:=hid h;subst hv;have kk1:=@aoG _ _ _ _ (yl vl2);have kk2:=@aoG _ _ _ _ (LV vl1);refine wk ?_;exact aa h.o;rw[if_neg hv]at h;cases hd:Lib.validD v with
 | true =>
   rw[hd,if_pos rfl]at h;replace h:=hid h;have kk1:=@aoG _ _ _ _ (yl vl2);have kk2:=@aoG _ _ _ _ (LV vl1);refine wk ?_;exact aa h.o
 | false =>
   rw[hd,if_neg aoA]at h;replace h:=hid h;have kk1:=@aoG _ _ _ _ (yl vl2);have kk2:=@aoG _ _ _ _ (LV vl1);refine wk ?_;exact aa h.o
 rw[if_neg s1]at h;by_cases s2:syn=2;subst s2;rw[if_pos rfl]at h;by_cases hv:v=[];rw[if_pos hv]at h;replace h:=hid h;have kk1:=@aoG _ _ _ _ (LV vl1);refine wk ?_;exact aa h.o;rw[if_neg hv]at h;cases hd:Lib.validD v with
 | true =>
   rw[hd,if_pos rfl]at h;replace h:=hid h;have kk1:=@aoG _ _ _ _ (LV vl1);refine wk ?_;exact aa h.o
 | false =>
   rw[hd,if_neg aoA]at h;replace h:=hid h;have kk1:=@aoG _ _ _ _ (LV vl1);refine wk ?_;exact aa h.o
 rw[if_neg s2]at h;by_cases s3:syn=3;subst s3;rw[if_pos rfl]at h;replace h:=hid h;have kk1:=@aoG _ _ _ _ (yl vl2);refine wk ?_;refine af4 vl1 (λe=>?_) (λk e=>?_);have h':=h.o;rw[if_pos e]at h';replace h':=hid h';refine aoH ?_;exact aa h'.o;have h':=h.o;rw[if_neg (by rw[e];simp)]at h';replace h':=hid h';have k0:¬(k:Int)<0:=aoz;refine aoH ?_;exact aa h'.o;rw[if_neg s3]at h;by_cases s4:syn=4;subst s4;rw[if_pos rfl]at h;cases hd:xP v with
 | true =>
   rw[hd,if_pos rfl]at h;replace h:=hid h;have kk1:=@aoG _ _ _ _ (Zy vl3);refine wk ?_;exact aa h.o
 | false =>
   rw[hd,if_neg aoA]at h;replace h:=hid h;have kk1:=@aoG _ _ _ _ (Zy vl3);refine wk ?_;exact aa h.o
 rw[if_neg s4]at h;by_cases s5:syn=5;subst s5;rw[if_pos rfl]at h;by_cases t1:v=agZ;rw[if_pos (.inl t1)]at h;replace h:=hid h;have c1:(decide (v=[84,82,85,69]):Bool)=true:=decide_eq_true t1;subst t1;refine wk ?_;exact aa h.o;by_cases t2:v=abQ;rw[if_pos (.inr t2)]at h;replace h:=hid h;subst t2;have t3:¬([70,65,76,83,69]:List UInt8)=[84,82,85,69]:=by decide
 clear t1;refine wk ?_;exact aa h.o;rw[if_neg (λe=>e.elim t1 t2)]at h;replace h:=hid h;refine wk ?_;exact aa h.o;rw[if_neg s5]at h;by_cases s6:syn=6;subst s6;rw[if_pos rfl]at h;obtain⟨⟨k,e⟩,hk⟩:∃p,Lh v=p:=⟨_,rfl⟩;rw[hk]at h;simp only at h;by_cases he:e=0;subst he;rw[if_pos rfl]at h;replace h:=hid h;refine wk ?_;refine ai5 ?_;rw[hk];simp only[tT];refine aoH ?_;exact aa h.o;rw[if_neg he]at h;replace h:=hid h;refine wk ?_;refine ai5 ?_;rw[hk];simp only[tT];refine aoH ?_;exact aa h.o;rw[if_neg s6]at h;by_cases s7:syn=7;subst s7;rw[if_pos rfl]at h;replace h:=hid h;refine wk ?_;exact aa h.o;rw[if_neg s7]at h;by_cases s8:syn=8;subst s8;rw[if_pos rfl]at h;cases hd:Lb v with
 | true =>
   rw[hd,if_pos rfl]at h;replace h:=hid h;have kk1:=@aoG _ _ _ _ (ZD vl1);refine wk ?_;exact aa h.o
 | false =>
   rw[hd,if_neg aoA]at h;replace h:=hid h;have kk1:=@aoG _ _ _ _ (ZD vl1);refine wk ?_;exact aa h.o
 rw[if_neg s8]at h;replace h:=hid h;refine wk ?_;exact aa h.o
theorem adv{syn:Int}{v x:List UInt8}(h:cj syn v=some x):v.length<=4096:=by unfold cj at h;split at h;cases h;omega
theorem YT:∀a b:List UInt8,Lib.compareBytes a b=if a<b then -1 else if b<a then 1 else 0
 |[],[]=>by simp[Lib.compareBytes]
 |[],b::bs=>by simp[Lib.compareBytes]
 |a::xs,[]=>by simp[Lib.compareBytes]
 | a::xs,b::bs=>by
   rw[Lib.compareBytes,YT xs bs];simp only[List.cons_lt_cons_iff];by_cases h1:a<b
   .rw[if_pos h1,if_pos (.inl h1)]
   .rw[if_neg h1];by_cases h2:b<a
    .rw[if_pos h2,if_neg,if_pos (.inl h2)];rintro(e|⟨e,_⟩)
     .exact h1 e
     .subst e;exact h1 h2
    .rw[if_neg h2];have e:a=b:=by
      rcases an0 a.toNat b.toNat with h|h|h
      .exact absurd h h1
      .exact am2.1 h
      .exact absurd h h2
     subst e;simp
abbrev Typ:=List UInt8×Int×Bool×Bool
def cx:List Atr->List UInt8->List (List UInt8)
 |[],_=>[]
 |a::t,n=>if af a.1=af n then a.2 else cx t n
def rA(n:List UInt8)(vs:List (List UInt8)):Bool->List Atr->List Atr
 |done,[]=>if done=true then[]else[(n,vs)]
 |done,a::t=>(if done=false/\¬af a.1<af n then[(n,vs)]else[])++(if af n≠af a.1 then[a]else[])++rA n vs (done || !decide (af a.1<af n)) t
def fz(syn:Int)(v:List UInt8):List UInt8:=(cj syn v).getD []
def inM(syn:Int)(l:List (List UInt8))(n:List UInt8):Bool:=l.any λv=>decide (fz syn v=n)
def hZ(syn:Int)(v:List UInt8):Bool->List (List UInt8)->List (List UInt8)
 |done,[]=>if done=true then[]else[v]
 |done,x::t=>(if done=false/\fz syn v<fz syn x then[v]else[])++x::hZ syn v (done ||decide (fz syn v<fz syn x)) t
def ff(syn:Int)(single:Bool):List (List UInt8)->List (List UInt8)->List (List UInt8)×Int
 |l,[]=>if single=true/\1<l.length then([],19)else(l,0)
 | l,v::vs=>match cj syn v with
   |none=>([],21)
   |some n=>if inM syn l n=true then([],20)else ff syn single (hZ syn v false l) vs
def eF(ts:List Typ)(n:List UInt8):Option Typ:=ts.find? λt=>decide (af t.1=af n)
def yr(ts:List Typ):List Atr->List Atr->List Atr×Int
 |out,[]=>(out,0)
 | out,a::t=>match eF ts a.1 with
   |none=>([],17)
   | some ty=>if a.2=[] then ([],19) else
     if(ff ty.2.1 ty.2.2.1 (cx out a.1) a.2).2≠0 then([],(ff ty.2.1 ty.2.2.1 (cx out a.1) a.2).2)
     else yr ts (rA ty.1 (ff ty.2.1 ty.2.2.1 (cx out a.1) a.2).1 (ff ty.2.1 ty.2.2.1 (cx out a.1) a.2).1.isEmpty out) t
section
variable {α:Type}(key:α->List UInt8)
def gH(l:List α)(k:List UInt8):Nat:=(l.takeWhile λa=>decide (key a<k)).length
def lX(l:List α):Prop:=l.Pairwise λa b=>key a<key b
theorem acx(l:List α)(k:List UInt8):gH key l k<=l.length:=by unfold gH;exact(List.takeWhile_sublist _).length_le
theorem rq(a:α)(l:List α)(k:List UInt8):gH key (a::l) k=if key a<k then gH key l k+1 else 0:=by unfold gH;rw[List.takeWhile_cons];by_cases h:key a<k;simp[h];simp[h]
end
theorem PH(syn:Int)(v:List UInt8):∀l,hZ syn v true l=l
 |[]=>rfl
 |x::t=>by rw[hZ,if_neg aoA];simp[PH syn v t]
theorem Vw(syn:Int)(v:List UInt8):∀l:List (List UInt8),inM syn l (fz syn v)=false->hZ syn v false l=l.take (gH (fz syn) l (fz syn v))++v::l.drop (gH (fz syn) l (fz syn v))
 |[],_=>rfl
 | x::t,h=>by
   simp only[inM,List.any_cons,anO,decide_eq_false_iff_not]at h;rw[hZ,rq];by_cases hx:fz syn x<fz syn v
   .have hx2:¬fz syn v<fz syn x:=λe=>amw _ (anl e hx)
    rw[if_pos hx,if_neg (λe=>hx2 e.2),decide_eq_false hx2];simp only[anu,alL,amY,an8,alN];rw[Vw syn v t (by simpa[inM]using h.2)]
   .have hx2:fz syn v<fz syn x:=by
     rcases anz.1 (amG.1 hx)with e|e
     .exact e
     .exact absurd e.symm h.1
    rw[if_neg hx,if_pos ⟨rfl,hx2⟩,decide_eq_true hx2];simp[PH]
abbrev dW(a:Atr):List UInt8:=af a.1
theorem Yh(n:List UInt8):∀l:List Atr,lX dW l->cx l n=match l[gH dW l (af n)]? with
  |some a=>if af a.1=af n then a.2 else[]
  |none=>[]
 |[],_=>rfl
 | a::t,h=>by
   obtain⟨h1,h2⟩:=al2.1 h;rw[cx,rq];by_cases hx:dW a<af n
   .have hne:¬af a.1=af n:=λe=>by rw[show dW a=af a.1 from rfl,e]at hx;exact amw _ hx
    rw[if_pos hx,if_neg hne,Yh n t h2,amW]
   .rw[if_neg hx,amd];simp only;by_cases he:af a.1=af n
    .rw[if_pos he,if_pos he]
    .rw[if_neg he,if_neg he];have hlt:af n<dW a:=by
      rcases anz.1 (amG.1 hx)with e|e
      .exact e
      .exact absurd e.symm he
     have hno:∀u:List Atr,(∀b∈u,dW a<dW b)->cx u n=[]:=λu=>by
      induction u with
      |nil=>intro _;rfl
      | cons b u ih =>
        intro hb;rw[cx,if_neg,ih (λc hc=>hb c (by simp[hc]))];intro e;have h3:=anl hlt (hb b aoA);rw[show dW b=af b.1 from rfl,e]at h3;exact amw _ h3
     exact hno t h1
theorem Xg(n:List UInt8)(vs:List (List UInt8)):∀l:List Atr,(∀a∈l,af n≠af a.1)->rA n vs true l=l
 |[],_=>rfl
 |a::t,h=>by rw[rA,if_neg aoA,if_pos (h a aoA),anv,Xg n vs t (λb hb=>h b (by simp[hb]))];rfl
theorem ab3(n:List UInt8)(vs:List (List UInt8)):∀l:List Atr,lX dW l->rA n vs false l=match l[gH dW l (af n)]? with
  |some a=>if af a.1=af n then l.set (gH dW l (af n)) (n,vs)else l.take (gH dW l (af n))++(n,vs)::l.drop (gH dW l (af n))
  |none=>l++[(n,vs)]
 |[],_=>rfl
 | a::t,h=>by
   obtain⟨h1,h2⟩:=al2.1 h;rw[rA,rq];by_cases hx:dW a<af n
   .have hx2:af a.1<af n:=hx;have hne:af n≠af a.1:=λe=>by rw[e]at hx2;exact amw _ hx2
    rw[if_pos hx,if_neg (λe=>e.2 hx2),if_pos hne,decide_eq_true hx2,amW];simp only[amR,anu,alL,anK,amY,an8,alN];rw[ab3 n vs t h2];rcases t[gH dW t (af n)]? with _|b
    .rfl
    .simp only;split<;>rfl
   .have hx2:¬af a.1<af n:=hx;rw[if_neg hx,if_pos ⟨rfl,hx2⟩,decide_eq_false hx2,amd];have hge:∀b∈t,af n≠af b.1:=λb hb e=>by have h3:af a.1<af b.1:=h1 b hb;rw[<- e]at h3;exact hx2 h3
    simp only[amX,anN,an9,amO,anj,alL,alN];rw[Xg n vs t hge];by_cases he:af a.1=af n
    .rw[if_pos he,if_neg (λq=>q he.symm)];rfl
    .rw[if_neg he,if_pos (λq=>he q.symm)];rfl
theorem Vl{α:Type}(l:List α)(c:Nat)(v:α):(l.take c++v::l.drop c).Perm (v::l):=by refine List.perm_middle.trans ?_;rw[amZ]
theorem Mc{α:Type}{l:List α}{c:Nat}{v b:α}:b∈l.take c++v::l.drop c↔b=v\/b∈l:=by rw[(Vl l c v).mem_iff,alj]
theorem Mb{α:Type}{key:α->List UInt8}{v:α}:∀{l:List α},lX key l->(∀x∈l,key x≠key v)->lX key (l.take (gH key l (key v))++v::l.drop (gH key l (key v)))
 |[],_,_=>by simp[lX]
 | a::t,h,hn=>by
   obtain⟨h1,h2⟩:=al2.1 h;rw[rq];by_cases hx:key a<key v
   .rw[if_pos hx];simp only[amY,an8,alN];refine al2.2 ⟨λb hb=>?_,Mb h2 λx hxx=>hn x (by simp[hxx])⟩;rcases Mc.1 hb with rfl|hb
    .exact hx
    .exact h1 b hb
   .rw[if_neg hx];have hlt:key v<key a:=by
     rcases anz.1 (amG.1 hx)with e|e
     .exact e
     .exact absurd e.symm (hn a aoA)
    simp only[amO,anj,alL];refine al2.2 ⟨λb hb=>?_,h⟩;rcases alj.1 hb with rfl|hb
    .exact hlt
    .exact anl hlt (h1 b hb)
theorem Xc{ts:List Typ}{n m:List UInt8}(h:af n=af m):eF ts n=eF ts m:=by unfold eF;rw[h]
def InV(syn:Int)(l:List (List UInt8)):Prop:=lX (fz syn) l/\∀v∈l,(cj syn v).isSome=true
theorem acD{syn:Int}{single:Bool}:∀{vs l:List (List UInt8)},InV syn l->(ff syn single l vs).2=0->InV syn (ff syn single l vs).1
 | [],l,h,h0=>by
   rw[ff]at h0⊢;split
   .rename_i hc;rw[if_pos hc]at h0;cases h0
   .exact h
 | v::vs,l,h,h0=>by
   rw[ff]at h0⊢;rcases hv:cj syn v with _|n
   .rw[hv]at h0;cases h0
   .rw[hv]at h0;simp only at h0⊢;split
    .rename_i hc;rw[if_pos hc]at h0;cases h0
    .rename_i hc;rw[if_neg hc]at h0;have hk:fz syn v=n:=(by simp[fz,hv]);have hin:inM syn l (fz syn v)=false:=(by rw[hk];simpa using hc);refine acD ?_ h0;rw[Vw syn v l hin];refine⟨Mb h.1 λx hx e=>?_,λx hx=>?_⟩
     .simp only[inM,am3,decide_eq_true_eq]at hin;exact hin x hx e
     .rcases Mc.1 hx with rfl|hx
      .rw[hv];rfl
      .exact h.2 x hx
def InA(ts:List Typ)(l:List Atr):Prop:=lX dW l/\∀a∈l,∃ty,eF ts a.1=some ty/\ty.1=a.1/\a.2≠[]/\InV ty.2.1 a.2/\(ty.2.2.1=true->a.2.length<=1)
theorem abY{ts:List Typ}{l:List Atr}{n:List UInt8}{ty:Typ}(h:InA ts l)(ht:eF ts n=some ty):InV ty.2.1 (cx l n):=by rw[Yh n l h.1];rcases hg:l[gH dW l (af n)]? with _|a;exact⟨List.Pairwise.nil,λv hv=>by cases hv⟩;simp only;split;rename_i he;obtain⟨ty',h1,_,_,h4,_⟩:=h.2 a (alV hg);rw[Xc he,ht]at h1;cases h1;exact h4;exact⟨List.Pairwise.nil,λv hv=>by cases hv⟩
theorem Ha{α:Type}{key:α->List UInt8}{k:List UInt8}:∀{l:List α},lX key l->(∀a,l[gH key l k]?=some a->key a≠k)->∀x∈l,key x≠k
 |[],_,_,_,hx=>by cases hx
 | a::t,h,hc,x,hx=>by
   obtain⟨h1,h2⟩:=al2.1 h;rw[rq]at hc;by_cases ha:key a<k
   .rw[if_pos ha]at hc;rcases alj.1 hx with rfl|hx
    .intro e;rw[e]at ha;exact amw _ ha
    .exact Ha h2 (λb hb=>hc b (by simpa using hb)) x hx
   .rw[if_neg ha]at hc;have hne:=hc a aoA;have hlt:k<key a:=by
     rcases anz.1 (amG.1 ha)with e|e
     .exact e
     .exact absurd e.symm hne
    rcases alj.1 hx with rfl|hx
    .exact hne
    .intro e;have:=anl hlt (h1 x hx);rw[e]at this;exact amw _ this
theorem ac6{α:Type}{key:α->List UInt8}{l:List α}{c:Nat}{a x:α}(h:lX key l)(hc:l[c]?=some a)(hk:key x=key a):lX key (l.set c x):=by
 have e:(l.set c x).map key=l.map key:=by rw[List.map_set,hk];obtain⟨hlt,rfl⟩:=ald.1 hc;rw[<- List.getElem_map (f:=key) (h:=by simpa using hlt),List.set_getElem_self]
 have h2:(l.map key).Pairwise (· < ·):=anQ.2 h;rw[<- e]at h2;exact anQ.1 h2
theorem ahJ{ts:List Typ}{l:List Atr}{n:List UInt8}{vs:List (List UInt8)}{ty:Typ}(h:InA ts l)(ht:eF ts n=some ty)(hn:ty.1=n)(hv:vs≠[])(hi:InV ty.2.1 vs)(h1:ty.2.2.1=true->vs.length<=1):InA ts (rA n vs false l):=by
 have hnew:∃ty',eF ts n=some ty'/\ty'.1=n/\vs≠[]/\InV ty'.2.1 vs/\(ty'.2.2.1=true->vs.length<=1):=⟨ty,ht,hn,hv,hi,h1⟩;rw[ab3 n vs l h.1];rcases hg:l[gH dW l (af n)]? with _|a;simp only;have hno:=Ha (k:=af n) h.1 (λa ha=>by rw[hg]at ha;cases ha);have hc:gH dW l (af n)=l.length:=Nat.le_antisymm (acx _ _ _) (List.getElem?_eq_none_iff.1 hg);have e:l++[(n,vs)]=l.take (gH dW l (dW (n,vs)))++(n,vs)::l.drop (gH dW l (dW (n,vs))):=by rw[show dW (n,vs)=af n from rfl,hc,alt,alY]
 rw[e];refine⟨Mb h.1 hno,λb hb=>?_⟩;rcases Mc.1 hb with rfl|hb;exact hnew;exact h.2 b hb;simp only;split;rename_i he;refine⟨ac6 h.1 hg he.symm,λb hb=>?_⟩;rcases anA hb with hb|rfl;exact h.2 b hb;exact hnew;rename_i he;have hno:=Ha (k:=af n) h.1 (λb hb=>by rw[hg]at hb;cases hb;exact he);refine⟨Mb (key:=dW) (v:=(n,vs)) h.1 hno,λb hb=>?_⟩;rcases Mc.1 hb with rfl|hb;exact hnew;exact h.2 b hb
theorem afH(syn:Int)(v:List UInt8)(l:List (List UInt8)):hZ syn v false l≠[]:=by rcases l with _|⟨x,t⟩;simp[hZ];simp[hZ]
theorem acC{syn:Int}{single:Bool}:∀{vs l:List (List UInt8)},l≠[]\/vs≠[]->(ff syn single l vs).2=0->(ff syn single l vs).1≠[]
 | [],l,h,h0=>by
   rw[ff]at h0⊢;split
   .rename_i hc;rw[if_pos hc]at h0;cases h0
   .rcases h with h|h
    .exact h
    .exact absurd rfl h
 | v::vs,l,h,h0=>by
   rw[ff]at h0⊢;rcases hv:cj syn v with _|n
   .rw[hv]at h0;cases h0
   .rw[hv]at h0;simp only at h0⊢;split
    .rename_i hc;rw[if_pos hc]at h0;cases h0
    .rename_i hc;rw[if_neg hc]at h0;exact acC (.inl (afH syn v l)) h0
theorem Ug{syn:Int}{single:Bool}:∀{vs l:List (List UInt8)},(ff syn single l vs).2=0->single=true->(ff syn single l vs).1.length<=1
 | [],l,h0,hs=>by
   rw[ff]at h0⊢;split
   .rename_i hc;rw[if_pos hc]at h0;cases h0
   .rename_i hc;have:¬1<l.length:=λe=>hc ⟨hs,e⟩
    simp only;omega
 | v::vs,l,h0,hs=>by
   rw[ff]at h0⊢;rcases hv:cj syn v with _|n
   .rw[hv]at h0;cases h0
   .rw[hv]at h0;simp only at h0⊢;split
    .rename_i hc;rw[if_pos hc]at h0;cases h0
    .rename_i hc;rw[if_neg hc]at h0;exact Ug h0 hs
theorem Xb{ts:List Typ}{n:List UInt8}{ty:Typ}(h:eF ts n=some ty):ty∈ts/\af ty.1=af n:=by unfold eF at h;exact⟨am6 h,by simpa using anG h⟩
theorem acg{ts:List Typ}:∀{l out:List Atr},InA ts out->(yr ts out l).2=0->InA ts (yr ts out l).1
 |[],out,h,_=>h
 | a::t,out,h,h0=>by
   rw[yr]at h0⊢;rcases ht:eF ts a.1 with _|ty
   .rw[ht]at h0;cases h0
   .rw[ht]at h0;simp only at h0⊢;split
    .rename_i hc;rw[if_pos hc]at h0;cases h0
    .rename_i hc;rw[if_neg hc]at h0;split
     .rename_i hd;rw[if_pos hd]at h0;exact absurd h0 hd
     .rename_i hd;rw[if_neg hd]at h0;simp only[ne_eq,anB]at hd;have hne:=acC (l:=cx out a.1) (.inr hc) hd;have hem:(ff ty.2.1 ty.2.2.1 (cx out a.1) a.2).1.isEmpty=false:=(by simpa using hne);rw[hem]at h0⊢;have hts:=Xb ht;exact acg (ahJ h (by rw[Xc hts.2];exact ht) rfl hne (acD (abY h ht) hd) (Ug hd)) h0
set_option maxHeartbeats 8000000
set_option maxRecDepth 100000
theorem agI{α:Type}{key:α->List UInt8}{k:List UInt8}:∀{l:List α},lX key l->∀(h:Nat) (hh:h<l.length),(key l[h]<k↔h<gH key l k)
 | a::t,hr,h,hh=>by
   obtain⟨h1,h2⟩:=al2.1 hr;rw[rq];by_cases ha:key a<k
   .rw[if_pos ha];rcases h with _|h
    .exact⟨λ_=>aoz,λ_=>ha⟩
    .have:=agI (k:=k) h2 h (by simpa using hh);simp only[List.getElem_cons_succ,this];omega
   .rw[if_neg ha];rcases h with _|h
    .exact⟨λe=>absurd e ha,λe=>aoz⟩
    .constructor
     .intro e;have hm:key a<key ((a::t)[h+1]'hh):=h1 _ aoA;exact absurd (anl hm e) ha
     .intro e;omega
theorem aed{α:Type}{key:α->List UInt8}{k:List UInt8}{l:List α}(hr:lX key l):(l.any λa=>decide (key a=k))=match l[gH key l k]? with
  |some a=>decide (key a=k)
  |none=>false:=by
 cases h:l[gH key l k]? with
 | none =>
   simp only[am3,decide_eq_true_eq];exact Ha hr (λa ha=>by rw[h]at ha;cases ha)
 | some a =>
   simp only;by_cases he:key a=k
   .rw[decide_eq_true he,am1];exact⟨a,alV h,by simpa using he⟩
   .rw[decide_eq_false he];simp only[am3,decide_eq_true_eq];exact Ha hr (λb hb=>by rw[h]at hb;cases hb;exact he)
theorem aen{syn:Int}{single:Bool}{l:List (List UInt8)}{v:List UInt8}{vs:List (List UInt8)}(h0:(ff syn single l (v::vs)).2=0):
  (cj syn v).isSome=true/\inM syn l (fz syn v)=false/\ff syn single l (v::vs)=ff syn single (hZ syn v false l) vs:=by
 rw[ff]at h0⊢;rcases hv:cj syn v with _|n;rw[hv]at h0;cases h0;rw[hv]at h0;simp only at h0⊢;have hk:fz syn v=n:=by simp[fz,hv]
 split;rename_i hc;rw[if_pos hc]at h0;cases h0;rename_i hc;exact⟨rfl,by rw[hk];simpa using hc,rfl⟩
theorem afG{syn:Int}{v:List UInt8}{l:List (List UInt8)}(h:inM syn l (fz syn v)=false):(hZ syn v false l).length=l.length+1:=by rw[Vw syn v l h,(Vl _ _ _).length_eq,alp]
theorem Wy{syn:Int}{single:Bool}:∀{vs l:List (List UInt8)},(ff syn single l vs).2=0->(ff syn single l vs).1.length=l.length+vs.length
 | [],l,h0=>by
   rw[ff]at h0⊢;split
   .rename_i hc;rw[if_pos hc]at h0;cases h0
   .rfl
 |v::vs,l,h0=>by obtain⟨h1,h2,h3⟩:=aen h0;rw[h3]at h0⊢;rw[Wy h0,afG h2,alp];omega
theorem Qd{n m:List UInt8}(h:af n=af m):∀l:List Atr,cx l n=cx l m
 |[]=>rfl
 |a::t=>by rw[cx,cx,h,Qd h t]
theorem ajA(ts:List Typ):InA ts []:=⟨List.Pairwise.nil,λa ha=>by cases ha⟩
end Go.Proofs.YtcmfcpjnhephaaaGreatDoor.Av
set_option maxRecDepth 100000
namespace Go.Proofs.YtcmfcpjnhephaaaGreatDoor.Av
open Go
variable {L L2 L':List Blk}{K:alc}{cap:Option Nat}{n v f:List UInt8}{p b c:Nat}{ts:List Typ}{s1 s2:AV}{syn id x:Int}{a:List Atr}{tys:List (List UInt8×Int)}
def GB:LSO:=[Ad 4 0,Ag 5]
def GA:LSO:=[Aa 6 0,Aa 7 1,Am 8 38 7,o1 9 (.call 145 [(tm 6),(tm 8),(.av (.func 146 []))]),As 10 9,Aw 11 9,Aa 4 10,Aa 5 11]
def io:aG:=⟨12,(aos GB [] (aos GA CE .ret)),[(.tmp 4),(.tmp 5)]⟩
attribute [push_cast] GB GA
theorem ye:aox 103=aoy io:=aoB
def sX:LSO:=[A4 2 0,Ad 4 0]
def sW:LSO:=[Ac 5 0 2,Ab 6 1 5,Am 7 38 6,Aa 8 1,Aq 9 126 7 8,Aa 4 9]
def fD:aG:=⟨10,(aos sX [] (aos sW Cy .ret)),[(.tmp 4)]⟩
attribute [push_cast] sX sW
theorem sa:aox 146=aoy fD:=aoB
def OD:LSO:=[Ah 4]
def OC:LSO:=[Aa 8 0,Aa 9 1,Aq 10 103 8 9,Aa 7 10,As 11 7,Aw 12 7,Aa 5 11,Aa 6 12]
def OB:LSO:=[Aa 13 6]
def OA:LSO:=[Aa 14 0,Aa 15 5,An 16 2 14 15,Ac 17 1 16,Ab 18 1 17,Am 19 51 18,Aa 4 19]
def Oz:LSO:=[Ah 4]
def gc:aG:=⟨20,(aos OD [] (.seq (aos OC CE (aos OB [] (aou 13 (.sreg OA C0)))) (aos Oz [] .ret))),[(.tmp 4)]⟩
attribute [push_cast] OD OC OB OA Oz
theorem sb:aox 52=aoy gc:=aoB
def zh:LSO:=[A4 2 0,B6 4,Ag 5]
def zg:LSO:=[Ap 6 2 2,o1 7 (.build [(.sl [] 0 (some 0)),(.sl [] 0 (some 0))] [(0,(2,(tm 6)))]),Aa 8 1,Aq 9 102 7 8,As 10 9,Aw 11 9,Ai 4 4 10,Aa 5 11]
def tu:aG:=⟨12,(aos zh [] (aos zg C0 .ret)),[(.cell true 4 4),(.tmp 5)]⟩
attribute [push_cast] zh zg
theorem S4:aox 49=aoy tu:=aoB
def ow:LSO:=[A4 2 0,A4 3 1,B6 4,Ag 5]
def ov:LSO:=[Ac 7 0 2,Ac 8 0 7,Ab 9 1 8,o1 10 (.mkfn 143 [(tm 3)]),Aq 11 142 9 10,Aa 6 11]
def ou:LSO:=[Aa 12 6,AD 13 12 0]
def ot:LSO:=[o1 14 (.build [(.str []),(.int .i64 0),(.bool false),(.bool false)] []),Ai 4 4 14,Ag 5]
def oq:LSO:=[Ac 15 0 2,Ac 16 0 15,Ab 17 1 16,Aa 18 6,An 19 4 17 18,Ap 20 4 19,Ai 4 4 20,Az 5]
def iu:aG:=⟨21,(aos ow [] (aos ov Cy (.seq (aos ou Cu (aou 13 (.sreg ot Cu))) (aos oq C0 .ret)))),[(.cell true 4 4),(.tmp 5)]⟩
attribute [push_cast] ow ov ou ot oq
theorem GW:aox 102=aoy iu:=aoB
def jG:LSO:=[A4 2 0,Ag 3]
def jF:LSO:=[Ac 4 0 2,Ab 5 1 4,Ab 6 1 1,Aq 7 144 5 6,Aa 3 7]
def ga:aG:=⟨8,(aos jG [] (aos jF Cx .ret)),[(.tmp 3)]⟩
attribute [push_cast] jG jF
theorem yc:aox 143=aoy ga:=aoB
def zf:LSO:=[Ag 4]
def ze:LSO:=[Aa 5 0,Am 6 38 5,Aa 7 1,Am 8 38 7,AC 9 6 8,Aa 4 9]
def tt:aG:=⟨10,(aos zf [] (aos ze Cy .ret)),[(.tmp 4)]⟩
attribute [push_cast] zf ze
theorem SZ:aox 144=aoy tt:=aoB
def dq:LSO:=[Ad 4 0]
def dp:LSO:=[Aa 6 0,Ak 7 6,Ad 8 0]
def dl:LSO:=[Al 9 8 7]
def dk:LSO:=[Aa 10 8,Aa 5 10]
def dj:LSO:=[Aa 11 1,Aa 12 0,Aa 13 5,An 14 4 12 13,Ap 15 4 14,B7 16 11 15]
def di:LSO:=[Aa 17 5,Aa 4 17]
def dh:LSO:=[Af 18 8 1,Aa 8 18]
def df:LSO:=[Ad 4 (-1)]
def cz:aG:=⟨19,(aos dq [] (.seq (aos dp Cz (aov 0 (aos dl [] (.seq (aow 9 0) (.seq (.block 1 (aos dk Cu (aos dj Cy (aou 16 (.sreg di Cu))))) (.sreg dh Cu)))))) (aos df [] .ret))),[(.tmp 4)]⟩
attribute [push_cast] dq dp dl dk dj di dh df
theorem fQ:aox 142=aoy cz:=aoB
def ci:LSO:=[Ad 6 0,Ag 7]
def cg:LSO:=[Aa 12 0,Ak 13 12,Aa 8 13]
def cf:LSO:=[Aa 14 8,Ad 9 0,Aa 10 14]
def ce:LSO:=[Aa 15 9,Aa 16 10,Al 17 15 16]
def cc:LSO:=[Aa 18 9,Aa 19 10,AY 20 18 19,o1 21 (.conv .u64 (tm 20)),o1 22 (.bin .shr (tm 21) (.av (.int .u64 1))),Br 23 22,
 Aa 11 23]
def b9:LSO:=[Aa 24 2,Aa 25 0,Aa 26 11,An 27 2 25 26,Ap 28 2 27,Aa 29 1,o1 30 (.callv (tm 24) [(tm 28),(tm 29)]),AD 31 30 0]
def bZ:LSO:=[Aa 32 11,Af 33 32 1,Aa 9 33]
def bY:LSO:=[Aa 34 11,Aa 10 34]
def bX:LSO:=[Aa 35 9,Aa 36 9,Aa 37 8,Al 38 36 37,Aa 39 38,.grp none 39 true
 [Ae 40 39 2,Ae 41 39 0,Ae 42 39 9,B8 43 39 2 41 42,og 44 39 true (.load true 2 (tm 43)),Ae 45 39 1,og 46 39 true (.callv (tm 40) [(tm 44),(tm 45)]),AZ 47 39 46 0]
 48 (tm 47),Aa 6 35,Aa 7 48]
def aE:aG:=⟨49,(aos ci [] (aos cg Cv (aos cf Cz (.seq (aov 0 (.seq (aos ce Cv (aow 17 0)) (.block 1 (aos cc C0 (aos b9 C2 (aot 31 (.sreg bZ Cv) (.sreg bY Cu))))))) (aos bX CE .ret))))),[(.tmp 6),(.tmp 7)]⟩
attribute [push_cast] ci cg cf ce cc b9 bZ bY bX
theorem bT:aox 145=aoy aE:=aoB
def ez:LSO:=[Ah 2]
def eu:LSO:=[Aa 3 0,o1 4 (.slnil false (tm 3))]
def er:LSO:=[Ah 2]
def eo:LSO:=[o1 5 (.bslice false 1 0 [] []),Aa 6 0,o1 7 (.app 2 1 16 [(.str [])] (tm 5) (tm 6)),Aa 2 7]
def aH:aG:=⟨8,(aos ez [] (.seq (aos eu Cu (aou 4 (.sreg er []))) (aos eo Cw .ret))),[(.tmp 2)]⟩
attribute [push_cast] ez eu er eo
theorem cr:aI Tryz.prog (λr i=>if r=3/\i=2 then 2 else 1) 51=some aH.raw:=aoB
attribute [push_cast] gc tu iu cz aE aH
set_option maxHeartbeats 8000000
set_option maxRecDepth 100000
def akd(L:List Blk)(C:List AV)(n s:Nat)(v:AV):Prop:=(∃cap,v=.sl C n cap)\/∃i cp rest,v=.lsl i 0 n cp s/\L[i]?=some (.cells (C++rest))
def ak4(f:FuncId)(caps:List AV)(L:List Blk)(el:Nat->AV)(tg:AV)(n:Nat)(c:Nat->Int):Prop:=∀(h:Nat) (K:AV->List Blk->Prop),h<n->K (.int .i64 (c h)) L->alb f ([el h,tg]++caps) L K
theorem akH{f:FuncId}{caps C:List AV}{n m:Nat}{tg v:AV}{c:Nat->Int}(hn:n<=1100000)(hC:C.length=n*2)(hm:m<=n)(hrow:akd L C n 2 v)(hf:ak4 f caps L (λh=>.agg ((C.drop (h*2)).take 2)) tg n c)(hc:∀h,h<n->(c h<0↔h<m))(h:K (.tup [.int .i64 (m:Nat),.bool (decide (m<n)&&decide (c m=0))]) L):
  alb 145 [v,tg,.func f caps] L K:=by
 replace h:=hid h;replace hf:=hid hf;replace hc:=hid hc;rcases hrow with⟨cap,rfl⟩|⟨bi,cp,rest,rfl,hL⟩;refine ala bT ?_;refine ah (λq T' L'=>∃a b:Nat,q=b-a/\a<=m/\m<=b/\b<=n/\T'=[(10,.int .i64 (b:Int)),(9,.int .i64 (a:Int)),(8,.int .i64 (n:Nat)),(0,.sl C n cap),(1,tg),(2,.func f caps)]/\L=L') (CutS (b:=ale _)) ⟨0,n,rfl,ali _,hm,ale _,rfl,rfl⟩ ?_;rintro _ _ L' ⟨a,b,rfl,ham,hmb,hb,rfl,e⟩;subst e;by_cases hlt:a<b;have g1:(a:Int)<(b:Int):=aoz;obtain⟨z,hz⟩:∃z,z=(a+b)/2:=⟨_,rfl⟩;have g2:IntKind.i64.wrap ((a:Int)+b)=(a:Int)+b:=ab aoz aoz;have g3:IntKind.u64.wrap ((a:Int)+b)=(a:Int)+b:=U1 aoz aoz;have g4:Int.fdiv ((a:Int)+b) (2^(min 1 IntKind.u64.bits))=(z:Int):=by have:(2:Int)^(min 1 IntKind.u64.bits)=2:=(by decide);rw[this,Int.fdiv_eq_ediv_of_nonneg _ aoz];omega
 have g5:IntKind.i64.wrap (z:Int)=z:=ab aoz aoz;have g6:=ak9 z aoz;have g8:a<=z/\z<b:=aoz;have g9:(z:Int)<(n:Int):=aoz;have hzn:z<n:=aoz;have hcz:=hc.o z hzn;have e2:z*2+2<=C.length:=aoz;replace g8:=hid g8;replace hcz:=hid hcz;replace hC:=hid hC;clear hz;refine wk ?_;refine hf.o z _ hzn ?_;refine sk ?_;obtain⟨w,hw⟩:=ak7 (c z);rw[hw]at hcz;simp only[hw];by_cases hneg:w<0;have hzm:=hcz.o.1 hneg;clear hcz hw;have hg8:=g8.o;refine wk ?_;exact aoE aoz aoC ⟨z+1,b,rfl,hzm,hmb,hb,rfl,rfl⟩;have hzm:m<=z:=by rcases alA z m with e|e;exact absurd (hcz.o.2 e) hneg;exact e
 clear hcz hw;have hg8:=g8.o;refine wk ?_;exact aoE aoz aoC ⟨a,z,rfl,ham,hzm,aoz,rfl,rfl⟩;obtain rfl:a=m:=aoz;obtain rfl:b=a:=aoz;have g1:¬(b:Int)<(b:Int):=aoz;by_cases hbn:b<n;have g2:(b:Int)<(n:Int):=aoz;have h':=h.o;rw[decide_eq_true hbn,al0]at h';obtain⟨w,hw⟩:=ak7 (c b);rw[hw]at h';replace h':=hid h';have e2:b*2+2<=C.length:=aoz;replace hC:=hid hC;have kk1:Hid (∀{K:alc},K (.int .i64 w) L->alb f (AV.agg ((C.drop (b*2)).take 2)::tg::caps) L K):=hid λq=>hf.o b _ hbn (by rw[hw];exact q)
 refine wk ?_;exact aa h'.o;have g2:¬(b:Int)<(n:Int):=aoz;have h':=h.o;rw[decide_eq_false hbn,amA]at h';replace h':=hid h';refine wk ?_;exact aa h'.o;refine ala bT ?_;refine ah (λq T' L'=>∃a b:Nat,q=b-a/\a<=m/\m<=b/\b<=n/\T'=[(10,.int .i64 (b:Int)),(9,.int .i64 (a:Int)),(8,.int .i64 (n:Nat)),(0,.lsl bi 0 n cp 2),(1,tg),(2,.func f caps)]/\L=L') (CutS (b:=ale _)) ⟨0,n,rfl,ali _,hm,ale _,rfl,rfl⟩ ?_;rintro _ _ L' ⟨a,b,rfl,ham,hmb,hb,rfl,e⟩;subst e;by_cases hlt:a<b;have g1:(a:Int)<(b:Int):=aoz;obtain⟨z,hz⟩:∃z,z=(a+b)/2:=⟨_,rfl⟩;have g2:IntKind.i64.wrap ((a:Int)+b)=(a:Int)+b:=ab aoz aoz;have g3:IntKind.u64.wrap ((a:Int)+b)=(a:Int)+b:=U1 aoz aoz;have g4:Int.fdiv ((a:Int)+b) (2^(min 1 IntKind.u64.bits))=(z:Int):=by have:(2:Int)^(min 1 IntKind.u64.bits)=2:=(by decide);rw[this,Int.fdiv_eq_ediv_of_nonneg _ aoz];omega
 have g5:IntKind.i64.wrap (z:Int)=z:=ab aoz aoz;have g6:=ak9 z aoz;have g8:a<=z/\z<b:=aoz;have g9:(z:Int)<(n:Int):=aoz;have hzn:z<n:=aoz;have hcz:=hc.o z hzn;have e1:((C++rest).drop (z*2)).take 2=(C.drop (z*2)).take 2:=by rw[List.drop_append_of_le_length aoz,List.take_append_of_le_length (by simp;omega)]
 have e2:z*2+2<=C.length+rest.length:=aoz;replace g8:=hid g8;replace hcz:=hid hcz;replace hC:=hid hC;clear hz;refine wk ?_;refine hf.o z _ hzn ?_;refine sk ?_;obtain⟨w,hw⟩:=ak7 (c z);rw[hw]at hcz;simp only[hw];by_cases hneg:w<0;have hzm:=hcz.o.1 hneg;clear hcz hw;have hg8:=g8.o;refine wk ?_;exact aoE aoz aoC ⟨z+1,b,rfl,hzm,hmb,hb,rfl,rfl⟩;have hzm:m<=z:=by rcases alA z m with e|e;exact absurd (hcz.o.2 e) hneg;exact e
 clear hcz hw;have hg8:=g8.o;refine wk ?_;exact aoE aoz aoC ⟨a,z,rfl,ham,hzm,aoz,rfl,rfl⟩;obtain rfl:a=m:=aoz;obtain rfl:b=a:=aoz;have g1:¬(b:Int)<(b:Int):=aoz;by_cases hbn:b<n;have g2:(b:Int)<(n:Int):=aoz;have h':=h.o;rw[decide_eq_true hbn,al0]at h';obtain⟨w,hw⟩:=ak7 (c b);rw[hw]at h';replace h':=hid h';have e1:((C++rest).drop (b*2)).take 2=(C.drop (b*2)).take 2:=by rw[List.drop_append_of_le_length aoz,List.take_append_of_le_length (by simp;omega)]
 have e2:b*2+2<=C.length+rest.length:=aoz;replace hC:=hid hC;have kk1:Hid (∀{K:alc},K (.int .i64 w) L->alb f (AV.agg ((C.drop (b*2)).take 2)::tg::caps) L K):=hid λq=>hf.o b _ hbn (by rw[hw];exact q)
 refine wk ?_;exact aa h'.o;have g2:¬(b:Int)<(n:Int):=aoz;have h':=h.o;rw[decide_eq_false hbn,amA]at h';replace h':=hid h';refine wk ?_;exact aa h'.o
variable {L:List Blk}{K:alc}
theorem aef(h:K (.sl [] 0 (some 0)) L):alb 51 [.sl [] 0 cap] L K:=by
 refine ac cr (by simp[aH]) ?_;simp only[aH,am]
 repeat' first
  |refine bu ?_
  | (first|refine bj aoB ?_|refine aJ aoB ?_|refine aM ?_|refine cN ?_|refine bE (fun _=>?_)|refine aC ?_|refine bo ?_)
    refine sm ?_
  | (first|refine a8 aoB ?_|refine ba ?_|refine aL ?_|refine bm ?_|refine bJ (aB ?_))
    refine sl ?_
  |exact bF
  |first|apply bG|apply be|apply bH|apply bf|apply bI|apply bg
  |refine aP ?_
  |refine aK ?_
  |first|refine aN rfl ?_|refine aO rfl ?_|refine ax rfl ?_ ?_|refine aT rfl (λ_=>?_) (λ_=>?_)|refine aS rfl (λ_=>?_) (λ_=>?_)
  |((first|refine au (λ_=>?_) (λ_=>?_)|refine aA (λ_=>?_) (λ_=>?_))<;>try refine sm ?_)
  |refine And.intro trivial ?_
  |refine And.intro aoz ?_
  |refine aY rfl (λ_=>?_) (λ_=>?_)
  |refine And.intro ?_ ?_
 all_goals (first|refine ae rfl (Kto h ?_)|refine aa (Kto h ?_)|refine ae (by simp only[AV.refs,AV.refsL, *];rfl) (Kto h ?_)|refine aW (ae rfl (Kto h ?_))|(trace_state;fail))
 all_goals (first|(simp[*];done)|(simp[*];omega)|(simp[*];intros;omega)|(simp_all[Hid,Hid];done)|(simp_all[Hid,Hid];omega))
theorem agL{xs:List (List UInt8)}(h0:xs.length≠0)(hn:xs.length<=1100000)(h:K (.lsl L.length 0 xs.length none 1) (L++[.cells (xs.map AV.str)])):
  alb 51 [.sl (xs.map AV.str) xs.length cap] L K:=by
 have h1:=afx xs;refine ala cr ?_;refine UV L.length (.cells (xs.map AV.str)) rfl (ale _) aoA (by simp[AV.refs]) (iD _ _) ?_;simpa[AV.ren]using h
abbrev aR(s:List UInt8):Prop:=(s.length:Int)<=140737488351232
theorem agJ(a b:List UInt8):Lib.compareBytes a b<0↔a<b:=by rw[YT];by_cases h:a<b;simp[h];by_cases h2:b<a<;>simp[h,h2]
theorem aee(a b:List UInt8):Lib.compareBytes a b=0↔a=b:=by rw[YT];by_cases h:a<b;simp only[h,if_true];exact⟨λe=>aoz,λe=>by subst e;exact absurd h (amw _)⟩;by_cases h2:b<a;simp only[h,h2,if_true,if_false];exact⟨λe=>aoz,λe=>by subst e;exact absurd h2 (amw _)⟩;simp only[h,h2,if_false,true_iff];exact aob (amG.1 h2) (amG.1 h)
def aja(w:AV):Prop:=(∃l n cap,w=.sl l n cap)\/∃i off n cp s,w=.lsl i off n cp s
theorem afr{x:List UInt8}{w:AV}(hx:aR x)(hw:aja w)(h:K (.int .i64 (Lib.compareBytes (af x) n)) L):
  alb 146 [.agg [.str x,w],.str n] L K:=by
 replace h:=hid h;rcases hw with⟨l,m,cap,rfl⟩|⟨i,off,m,cp,s,rfl⟩;refine ac sa (by simp[fD]) ?_;simp only[fD,am];have kk1:=@aoG _ _ _ _ (fO hx);have kk2:=@hid _ @U8;refine wk ?_;exact ae rfl h.o;refine ac sa (by simp[fD]) ?_;simp only[fD,am];have kk1:=@aoG _ _ _ _ (fO hx);have kk2:=@hid _ @U8;refine wk ?_;exact ae rfl h.o
def akV(l:List Atr)(C:List AV):Prop:=C.length=l.length*2/\∀h:Nat,h<l.length->∃w,aja w/\(C.drop (h*2)).take 2=[.str (l.getD h ([],[])).1,w]
def adZ{α:Type}(key:α->List UInt8)(l:List α)(k:List UInt8):Bool:=l.any λa=>decide (key a=k)
theorem abA{α:Type}{key:α->List UInt8}{l:List α}{k:List UInt8}(hr:lX key l){d:α}:adZ key l k=(decide (gH key l k<l.length)&&decide (key (l.getD (gH key l k) d)=k)):=by rw[adZ,aed hr];by_cases hc:gH key l k<l.length;rw[alu hc,decide_eq_true hc,al0];simp[hc];rw[amx aoz,decide_eq_false hc];rfl
theorem ah5{l:List Atr}{C:List AV}{v:AV}(hl:l.length<=1100000)(hC:akV l C)(hrow:akd L C l.length 2 v)(hr:lX dW l)(hn:aR n)(hz:∀a∈l,aR a.1)(h:K (.tup [.int .i64 (gH dW l (af n):Nat),.bool (adZ dW l (af n))]) L):
  alb 103 [v,.str n] L K:=by
 have hbs:∀{K:alc},K (.tup [.int .i64 (gH dW l (af n):Nat),.bool (adZ dW l (af n))]) L->alb 145 [v,.str (af n),.func 146 []] L K:=λ{K} q=>by refine akH (m:=gH dW l (af n)) (c:=λh=>Lib.compareBytes (dW (l.getD h ([],[]))) (af n)) hl hC.1 (acx _ _ _) hrow (λh K hh hk=>?_) (λh hh=>?_) ?_;obtain⟨w,hw,e⟩:=hC.2 h hh;simp only[e];refine afr (hz _ ?_) hw hk;simp[hh];simp only[agJ];have:=agI (key:=dW) (k:=af n) hr h hh;simpa[hh]using this;have:=abA (key:=dW) (k:=af n) hr (d:=([],[]));rw[this]at q;simpa only[aee]using q
 replace hbs:=@hid _ @hbs;replace h:=hid h;rcases hrow with⟨cap,rfl⟩|⟨bi,cp,rest,rfl,hL⟩;refine ac ye (by simp[io]) ?_;simp only[io,am];have kk2:=@hid _ @hbs.o;have kk1:=@aoG _ _ _ _ (fO hn);refine wk ?_;exact aa h.o;refine ac ye (by simp[io]) ?_;simp only[io,am];have kk2:=@hid _ @hbs.o;have kk1:=@aoG _ _ _ _ (fO hn);refine wk ?_;exact aa h.o
abbrev tyC(ty:Typ):List AV:=[.str ty.1,.int .i64 ty.2.1,.bool ty.2.2.1,.bool ty.2.2.2]
def bU(ts:List Typ):List AV:=ts.flatMap tyC
theorem rx(ts:List Typ):(bU ts).length=ts.length*4:=by
 induction ts with
 |nil=>rfl
 |cons a l ih=>simp only[bU,amm,alw,tyC,alp,al9]at ih⊢;omega
abbrev lI:Typ:=([],0,false,false)
theorem q9:∀{ts:List Typ}{k:Nat},k<ts.length->((bU ts).drop (k*4)).take 4=tyC (ts.getD k lI)
 |a::l,0,_=>rfl
 |a::l,k+1,h=>by have ih:=@q9 l k (by simpa using h);rw[show(k+1)*4=k*4+1+1+1+1 by omega];simpa[bU,tyC]using ih
theorem ajE{a b:List UInt8}(ha:aR a)(hb:aR b)(h:K (.bool (decide (af a=af b))) L):alb 144 [.str a,.str b] L K:=by replace h:=hid h;refine ac SZ (by simp[tt]) ?_;simp only[tt,am];have kk1:=@aoG _ _ _ _ (fO ha);have kk2:=@aoG _ _ _ _ (fO hb);refine wk ?_;exact aa h.o
theorem aif{ty:Typ}(ha:aR ty.1)(hn:aR n)(hp:L[p]?=some (.cells [.str n]))(h:K (.bool (decide (af ty.1=af n))) L):
  alb 143 [.agg (tyC ty),.ptr p 0] L K:=by
 replace h:=hid h;have hp2:∀X:List Blk,(L++X)[p]?=some (.cells [.str n]):=λX=>by rw[alm (ald.1 hp).1];exact hp
 refine ac yc (by simp[ga]) ?_;simp only[ga,am];have kk1:=@aoG _ _ _ _ (ajE ha hn);refine wk ?_;exact ae rfl h.o
theorem ajQ{f:FuncId}{caps:List AV}{q:Typ->Bool}(hn:ts.length<=1100000)(hf:∀(ty:Typ) (K:AV->List Blk->Prop),ty∈ts->K (.bool (q ty)) L->alb f (.agg (tyC ty)::caps) L K)(h1:(∀ty∈ts,q ty=false)->K (.int .i64 (-1)) L)(h2:∀k:Nat,k<ts.length->(∀j,j<k->q (ts.getD j lI)=false)->q (ts.getD k lI)=true->K (.int .i64 k) L):
  alb 142 [.sl (bU ts) ts.length cap,.func f caps] L K:=by
 replace hf:=hid hf;replace h1:=hid h1;replace h2:=hid h2;refine ala fQ ?_;refine ah (λn T' L'=>∃k:Nat,n=ts.length-k/\k<=ts.length/\T'=[(8,.int .i64 (k:Int)),(7,.int .i64 ts.length),(0,.sl (bU ts) ts.length cap),(1,.func f caps)]/\L=L' /\
  ∀j,j<k->q (ts.getD j lI)=false) (CutS (b:=ale _)) ⟨0,rfl,ali _,rfl,rfl,aoA⟩ ?_
 rintro _ _ L' ⟨k,rfl,hk,rfl,e,hr⟩;subst e;replace hr:=hid hr;by_cases hlt:k<ts.length;have g1:(k:Int)<(ts.length:Int):=aoz;have g2:=ak9 k aoz;have e4:k*4+4<=(bU ts).length:=by rw[rx];omega
 have e3:=q9 hlt;obtain⟨ty,hty⟩:=ak7 (ts.getD k lI);have hm:ty∈ts:=by rw[<- hty];simp[hlt]
 rw[hty]at e3;replace hty:=hid hty;rcases hqk:q ty with _|_;have kk1:Hid (∀{K:alc},K (.bool false) L->alb f (.agg (tyC ty)::caps) L K):=hid λa=>hf.o ty _ hm (by rw[hqk];exact a)
 replace hqk:=hid hqk;simp only[tyC]at kk1 e3;refine wk ?_;refine aoE aoz aoC ⟨k+1,rfl,hlt,rfl,rfl,λj hj=>?_⟩;rcases alA j k with h|h;exact hr.o j h;have:j=k:=aoz;subst this;rw[hty.o];exact hqk.o;have kk1:Hid (∀{K:alc},K (.bool true) L->alb f (.agg (tyC ty)::caps) L K):=hid λa=>hf.o ty _ hm (by rw[hqk];exact a)
 replace hqk:=hid hqk;simp only[tyC]at kk1 e3;refine wk ?_;exact aa (h2.o k hlt hr.o (by rw[hty.o];exact hqk.o));have g1:¬(k:Int)<(ts.length:Int):=aoz;refine wk ?_;refine aa (h1.o λty hty=>?_);obtain⟨j,hj,e⟩:=aml.1 hty;have:=hr.o j aoz;simpa[hj,e]using this
def Ub(o:Option Typ):AV:=.tup [.agg (tyC (o.getD lI)),.bool o.isSome]
theorem PR{α:Type}{q:α->Bool}{d:α}:∀{l:List α}{k:Nat},k<l.length->(∀j,j<k->q (l.getD j d)=false)->q (l.getD k d)=true->l.find? q=some (l.getD k d)
 |a::t,0,_,_,h=>by simp only[amn]at h⊢;rw[amt,h]
 |a::t,k+1,hk,hp,h=>by have h0:=hp 0 aoz;simp only[amn]at h0;rw[amt,h0];simp only[am0]at h⊢;exact PR (by simpa using hk) (λj hj=>by simpa using hp (j+1) aoz) h
theorem ajJ{capT:Option Nat}{c2:List AV}{n2:Nat}{cap2:Option Nat}(hl:ts.length<=1100000)(hts:∀t∈ts,aR t.1)(hn:aR n)(h:K (Ub (eF ts n)) L):
  alb 102 [.agg [.sl (bU ts) ts.length capT,.sl c2 n2 cap2],.str n] L K:=by
 replace h:=hid h;refine ala GW ?_;refine ajQ (q:=λt=>decide (af t.1=af n)) hl (λty K hm hk=>?_) (λhno=>?_) (λk hk hp hq=>?_);exact aif (hts ty hm) hn aoA hk;have e:eF ts n=none:=aoc.2 λt ht=>by simpa using hno t ht
 rw[e]at h;simp only[Ub,anZ,amM,tyC]at h;refine aoH ?_;exact ae rfl h.o;have e:eF ts n=some (ts.getD k lI):=PR (d:=lI) hk hp hq;have e4:k*4+4<=(bU ts).length:=by rw[rx];omega
 have e3:=q9 hk;have g1:¬(k:Int)<0:=aoz;have g2:(k:Int)<(ts.length:Int):=aoz;obtain⟨ty,hty⟩:=ak7 (ts.getD k lI);rw[hty]at e e3;rw[e]at h;simp only[Ub,amk,amu,tyC]at h e3;clear hp hq hty e;refine aoH ?_;exact ae rfl h.o
theorem ajX{capT:Option Nat}{c2:List AV}{n2:Nat}{cap2:Option Nat}(hl:ts.length<=1100000)(hts:∀t∈ts,aR t.1)(hn:aR n)(h:K (Ub (eF ts n)) L):
  alb 49 [.agg [.sl (bU ts) ts.length capT,.sl c2 n2 cap2],.str n] L K:=by
 unfold Ub at h;refine ala S4 ?_;refine ajJ hl hts hn ?_;unfold Ub;obtain⟨ty,hty⟩:=ak7 ((eF ts n).getD lI);obtain⟨b,hb⟩:=ak7 ((eF ts n).isSome);rw[hty,hb]at h⊢;replace h:=hid h;refine aoH ?_;exact ae rfl h.o
abbrev PAt:=Nat×Atr
variable {ps:List PAt}
abbrev pC(q:PAt):List AV:=[.str q.2.1,.lsl q.1 0 q.2.2.length none 1]
def psC(ps:List PAt):List AV:=ps.flatMap pC
abbrev noP:PAt:=(0,[],[])
def WE(L:List Blk)(b p:Nat)(s1 s2:AV)(ps:List PAt):Prop :=
 b<=p/\(ps.map (·.1)).Nodup/\(∀q∈ps,b<=q.1/\q.1≠p/\∃rest,L[q.1]?=some (.cells (q.2.2.map AV.str++rest))) /\
 ((L[p]?=some (.cells [s1,s2,.sl [] 0 (some 0)])/\ps=[])\/∃r rest,L[p]?=some (.cells [s1,s2,.lsl r 0 ps.length none 2])/\L[r]?=some (.cells (psC ps++rest))/\b<=r/\r≠p/\∀q∈ps,q.1≠r)
theorem WE.row(h:WE L b p s1 s2 ps):∃row,L[p]?=some (.cells [s1,s2,row])/\akd L (psC ps) ps.length 2 row/\(row=.sl [] 0 (some 0)/\ps=[]\/∃r rest,row=.lsl r 0 ps.length none 2/\L[r]?=some (.cells (psC ps++rest))/\b<=r/\r≠p/\∀q∈ps,q.1≠r):=by obtain⟨_,_,_,h4⟩:=h;rcases h4 with⟨h1,rfl⟩|⟨r,rest,h1,h2,h3⟩;exact⟨_,h1,.inl ⟨some 0,rfl⟩,.inl ⟨rfl,rfl⟩⟩;exact⟨_,h1,.inr ⟨r,none,rest,rfl,h2⟩,.inr ⟨r,rest,rfl,h2,h3⟩⟩
def Kpt(b:Nat)(L L':List Blk):Prop:=b<=L'.length/\∀k,k<b->L'[k]?=L[k]?
theorem Kpt.trans{L1:List Blk}(h:Kpt b L L1)(k:Kpt b L1 L2):Kpt b L L2:=⟨k.1,λi hi=>(k.2 i hi).trans (h.2 i hi)⟩
theorem Kpt.app(h:b<=L.length)(X:List Blk):Kpt b L (L++X):=⟨by simp;omega,λk hk=>by rw[alm aoz]⟩
theorem Kpt.eq(h:Kpt b L L')(hb:b=L.length):∃X,L'=L++X:=by refine⟨L'.drop L.length,?_⟩;apply amN;intro i;rw[amr];split;rename_i hi;rw[h.2 i aoz];rw[al5];congr 1;omega
theorem ahv{l:List Atr}(hr:lX dW l):cx l n=if adZ dW l (af n)=true then(l.getD (gH dW l (af n)) ([],[])).2 else[]:=by rw[Yh n l hr,abA hr (d:=([],[]))];by_cases hc:gH dW l (af n)<l.length;rw[alu hc];simp[hc];rw[amx aoz];simp[hc]
theorem aep{single:Bool}{l:List (List UInt8)}{vs:List (List UInt8)}(h:cj syn v=none):ff syn single l (v::vs)=([],21):=by rw[ff,h]
theorem aeo{single:Bool}{l:List (List UInt8)}{vs:List (List UInt8)}(h:cj syn v=some n):ff syn single l (v::vs)=if inM syn l n=true then([],20)else ff syn single (hZ syn v false l) vs:=by rw[ff,h]
theorem WE.frame(h:WE L b p s1 s2 ps)(hf:∀k,k<L.length->L'[k]?=L[k]?):WE L' b p s1 s2 ps:=by
 have up:∀(i:Nat) (k:Blk),L[i]?=some k->L'[i]?=some k:=λi k hk=>by rw[hf i (ald.1 hk).1];exact hk
 obtain⟨h1,h2,h3,h4⟩:=h;refine⟨h1,h2,λq hq=>?_,?_⟩;obtain⟨a,c,rest,d⟩:=h3 q hq;exact⟨a,c,rest,up _ _ d⟩;rcases h4 with⟨a,c⟩|⟨r,rest,a,c,d⟩;exact .inl ⟨up _ _ a,c⟩;exact .inr ⟨r,rest,up _ _ a,up _ _ c,d⟩
theorem adw{l:List Nat}{x:Nat}(h:l.Nodup)(hx:∀i:Nat,i≠c->l[i]?≠some x):(l.set c x).Nodup:=by rw[List.nodup_iff_pairwise_ne,anR]at h⊢;intro i j hi hj hij;simp only[aod]at hi hj;rw[List.getElem_set,List.getElem_set];split;rename_i e1;rw[if_neg aoz];intro e;exact hx j aoz (by rw[alu hj,e]);split;intro e;exact hx i aoz (by rw[alu hi,<- e]);exact h i j hi hj hij
theorem TY{α:Type}{l:List α}{x q:α}(h:q∈l.set c x):q=x\/∃i,i≠c/\l[i]?=some q:=by obtain⟨i,hi⟩:=am8.1 h;rw[alC]at hi;split at hi;split at hi;cases hi;exact .inl rfl;cases hi;rename_i e;exact .inr ⟨i,λe'=>e e'.symm,hi⟩
theorem aco(h:(ps.map (·.1)).Nodup){i:Nat}{q a:PAt}(hi:ps[i]?=some q)(hc:ps[c]?=some a)(hne:i≠c):q.1≠a.1:=λe=>by obtain⟨h1,rfl⟩:=ald.1 hi;obtain⟨h2,rfl⟩:=ald.1 hc;rw[List.nodup_iff_pairwise_ne,anR]at h;rcases Nat.lt_or_gt_of_ne hne with h3|h3;exact h i c (by simpa using h1) (by simpa using h2) h3 (by simpa using e);exact h c i (by simpa using h2) (by simpa using h1) h3 (by simpa using e.symm)
theorem WE.vals{j:Nat}{u:List (List UInt8)}{rest:List AV}(h:WE L b p s1 s2 ps)(hc:c<ps.length){l0 jat:Nat}(hl0:L.length<=l0)(hjat:jat=(ps.getD c noP).1)(hfr:∀k,k<l0->k≠jat->L'[k]?=L[k]?\/L.length<=k)(hj:j=jat\/l0<=j)(hLj:L'[j]?=some (.cells (u.map AV.str++rest))){r:Nat}{rest2:List AV}(hLp:L[p]?=some (.cells [s1,s2,.lsl r 0 ps.length none 2]))(hLr:L[r]?=some (.cells (psC ps++rest2)))(hbr:b<=r)(hrp:r≠p)(hqr:∀q∈ps,q.1≠r)(h2:L2=L'.set r (.cells (psC (ps.set c (j,(ps.getD c noP).2.1,u))++rest2))):WE L2 b p s1 s2 (ps.set c (j,(ps.getD c noP).2.1,u)):=by
 obtain⟨g1,g2,g3,g4⟩:=h;have hcg:ps[c]?=some (ps.getD c noP):=by simp[hc]
 have hm:ps.getD c noP∈ps:=alV hcg;have lt:∀(i:Nat) (k:Blk),L[i]?=some k->i<L.length:=λi k hk=>(ald.1 hk).1
 obtain⟨m1,m2,mr,m3⟩:=g3 _ hm;rw[<- hjat]at m1 m2 m3;have hjl:=lt _ _ m3;have hrl:=lt _ _ hLr;have hpl:=lt _ _ hLp;have keep:∀k,k<L.length->k≠jat->k≠r->L2[k]?=L[k]?:=λk hk hkj hkr=>by rw[h2,alE (Ne.symm hkr)];rcases hfr k aoz hkj with e|e;exact e;omega
 have hrj:r≠jat:=by rw[hjat];exact(hqr _ hm).symm
 have hjr:j≠r:=by rcases hj with e|e<;>omega
 have hrl':r<L'.length:=by rcases hfr r aoz hrj with e|e;rw[hLr]at e;exact(ald.1 e).1;omega
 refine⟨g1,?_,λq hq=>?_,.inr ⟨r,rest2,?_,?_,hbr,hrp,λq hq=>?_⟩⟩;rw[List.map_set];refine adw g2 λi hi e=>?_
 rw[al3,alI]at e;obtain⟨q,e1,e2⟩:=e;have:=aco g2 e1 hcg hi;rw[<- hjat]at this;obtain⟨_,_,_,q3⟩:=g3 q (alV e1);have:=lt _ _ q3;omega;rcases TY hq with rfl|⟨i,hi,e⟩;refine⟨by simp only;omega,?_,rest,?_⟩;simp only;rcases hj with e|e;rw[e];exact m2;omega;simp only;rw[h2,alE (Ne.symm hjr)];exact hLj;obtain⟨q1,q2,qr,q3⟩:=g3 q (alV e);have hne:=aco g2 e hcg hi;rw[<- hjat]at hne;refine⟨q1,q2,qr,?_⟩;rw[keep _ (lt _ _ q3) hne (hqr q (alV e))];exact q3;rw[keep p hpl (λe=>m2 e.symm) (Ne.symm hrp),aod];exact hLp;rw[h2];simp[hrl'];rcases TY hq with rfl|⟨i,hi,e⟩;exact hjr;exact hqr q (alV e)
theorem WE.more{j r:Nat}{u:List (List UInt8)}{rest:List AV}(h:WE L b p s1 s2 ps)(hc:c<=ps.length)(hkeep:∀q∈ps,L2[q.1]?=L[q.1]?)(hjb:b<=j)(hjp:j≠p)(hjq:∀q∈ps,q.1≠j)(hLj:L2[j]?=some (.cells (u.map AV.str++rest)))(hLp:L2[p]?=some (.cells [s1,s2,.lsl r 0 (ps.length+1) none 2]))(hLr:L2[r]?=some (.cells (psC (ps.take c++(j,n,u)::ps.drop c))))(hbr:b<=r)(hrp:r≠p)(hrj:j≠r)(hqr:∀q∈ps,q.1≠r):
  WE L2 b p s1 s2 (ps.take c++(j,n,u)::ps.drop c):=by
 obtain⟨g1,g2,g3,g4⟩:=h;have hperm:(ps.take c++(j,n,u)::ps.drop c).Perm ((j,n,u)::ps):=Vl ps c _;refine⟨g1,?_,λq hq=>?_,.inr ⟨r,[],?_,by rw[alJ];exact hLr,hbr,hrp,λq hq=>?_⟩⟩;refine((hperm.map (·.1)).nodup_iff).2 ?_;simp only[alr,ame];refine⟨λhm=>?_,g2⟩;obtain⟨q,hq,e⟩:=alg.1 hm;exact hjq q hq e;rcases Mc.1 hq with rfl|hq;exact⟨hjb,hjp,rest,hLj⟩;obtain⟨q1,q2,qr,q3⟩:=g3 q hq;exact⟨q1,q2,qr,by rw[hkeep q hq];exact q3⟩;have:(ps.take c++(j,n,u)::ps.drop c).length=ps.length+1:=by simpa using hperm.length_eq
 rw[this];exact hLp;rcases Mc.1 hq with rfl|hq;exact hrj;exact hqr q hq
def aj8(ts:List Typ):Prop:=ts.length<=1100000/\(∀ty∈ts,aR ty.1)/\∀ty∈ts,eF ts ty.1=some ty
theorem U5{n:List UInt8}{vs:List (List UInt8)}{a:Atr}:∀{d:Bool}{l:List Atr},a∈rA n vs d l->a=(n,vs)\/a∈l
 | d,[],h=>by
   rw[rA]at h;split at h
   .cases h
   .simp at h;exact .inl h
 | d,x::t,h=>by
   rw[rA,alh,alh]at h;rcases h with(h|h)|h
   .split at h
    .simp at h;exact .inl h
    .cases h
   .split at h
    .simp at h;exact .inr (by simp[h])
    .cases h
   .rcases U5 h with e|e
    .exact .inl e
    .exact .inr (by simp[e])
theorem Yj{n:List UInt8}{vs:List (List UInt8)}:∀{d:Bool}{l:List Atr},(rA n vs d l).length<=l.length+(if d=true then 0 else 1)
 |d,[]=>by rw[rA];split<;>simp
 | d,x::t=>by
   have ih:=@Yj n vs (d || !decide (af x.1<af n)) t;rw[rA];simp only[alw,alp];have h1:(if af n≠af x.1 then[x]else[]).length<=1:=(by split<;>simp);obtain⟨z,hz⟩:=ak7 ((if af n≠af x.1 then[x]else[]).length);rw[hz]at h1⊢;cases d with
   | true =>
     simp only[amq,false_and,if_false,al9,anv,if_true]at ih⊢;omega
   | false =>
     by_cases hx:af x.1<af n
     .simp only[hx,decide_true,amR,Bool.or_self,alx,if_false]at ih⊢;simp;omega
     .simp only[hx,decide_false,amX,anN,if_true]at ih⊢;simp;omega
theorem Yg{l:List Atr}{m:Nat}(h:∀a∈l,a.2.length<=m):(cx l n).length<=m:=by
 induction l with
 |nil=>simp[cx]
 | cons a l ih =>
   rw[cx];split
   .exact h a aoA
   .exact ih λb hb=>h b (by simp[hb])
theorem agT(l:List Atr):akV l (bp l):=by exact⟨p6 l,λh hh=>⟨G9 (l.getD h ([],[])).2,.inl ⟨_,_,_,rfl⟩,rh hh⟩⟩
theorem agy{l:List Atr}(hl:l.length<=1100000)(hr:lX dW l)(hz:∀a∈l,aR a.1/\a.2.length<=1100000)(hn:aR n)(h:K (G9 (cx l n)) L):
  alb 52 [.sl (bp l) l.length cap,.str n] L K:=by
 obtain⟨c,hc⟩:=ak7 (gH dW l (af n));obtain⟨fd,hfd⟩:=ak7 (adZ dW l (af n));have hv:=ahv (n:=n) hr;rw[hfd,hc]at hv;rw[hv]at h;have hpc:∀{K:alc},K (.tup [.int .i64 c,.bool fd]) L->alb 103 [.sl (bp l) l.length cap,.str n] L K:=λ{K} q =>
  ah5 hl (agT l) (.inl ⟨cap,rfl⟩) hr hn (λa ha=>(hz a ha).1) (by rw[hc,hfd];exact q)
 have kk1:=@hid _ @hpc;clear hpc;rcases fd with _|_;rw[if_neg aoA]at h;replace h:=hid h;refine ala sb ?_;exact aW (aa h.o);rw[if_pos rfl]at h;have h0:=abA (key:=dW) (k:=af n) hr (d:=([],[]));rw[hfd,hc]at h0;have h1:c<l.length:=by simpa using((alk _ _).mp h0.symm).1
 have e5:=agS h1;have hm:l.getD c ([],[])∈l:=by simp[h1]
 have hln:=(hz _ hm).2;obtain⟨vs,hvs⟩:=ak7 ((l.getD c ([],[])).2);rw[hvs]at h e5 hln;have e6:(c:Int)<(l.length:Int):=aoz;have e7:c*2+1<(bp l).length:=by rw[p6];omega
 replace h:=hid h;clear h0 hm hvs hv hfd hc;by_cases h2:vs.length=0;obtain rfl:vs=[]:=by simpa using h2
 refine ac sb (by simp[gc]) ?_;simp only[gc,am];have kk2:=@aoG _ _ _ _ (aef (cap:=none));refine wk ?_;exact aW (aa h.o);refine ac sb (by simp[gc]) ?_;simp only[gc,am];have kk2:=@hid _ (λL K=>agL (cap:=none) (L:=L) (K:=K) h2 hln);refine wk ?_;refine LQ (i:=L.length) (l:=vs.map AV.str) (by rw[alH (ale _),amz];rfl) ?_;have e8:((vs.map AV.str).drop 0).take (vs.length*1)=vs.map AV.str:=by rw[anj,Nat.mul_one,amb aoA]
 simp only[AV.snap,if_true,e8];rw[al4 _ _ (ale _)];refine ae ?_ h.o;simp only[AV.refs,iD]
def VK(ts:List Typ)(l:List Atr)(n v:List UInt8):Bool:=match eF ts n with
 |none=>false
 | some ty=>match cj ty.2.1 v with
   |none=>false
   |some m=>inM ty.2.1 (cx l n) m
theorem L8:∀{l m:List Int},l.Pairwise (· < ·)->m.Pairwise (· < ·)->(∀x,x∈l↔x∈m)->l=m
 |[],[],_,_,_=>rfl
 |[],b::m,_,_,h=>absurd ((h b).2 aoA) aoA
 |a::l,[],_,_,h=>absurd ((h a).1 aoA) aoA
 | a::l,b::m,h1,h2,h=>by
   rw[al2]at h1 h2;have hab:a=b:=by
    have ha:=(h a).1 aoA;have hb:=(h b).2 aoA;rcases alj.1 ha with e|e
    .exact e
    .rcases alj.1 hb with e'|e'
     .exact e'.symm
     .have:=h2.1 a e;have:=h1.1 b e';omega
   subst hab;rw[L8 h1.2 h2.2 λx=>?_];constructor
   .intro hx;have:=(h x).1 (by simp[hx]);rcases alj.1 this with e|e
    .have:=h1.1 x hx;omega
    .exact e
   .intro hx;have:=(h x).2 (by simp[hx]);rcases alj.1 this with e|e
    .have:=h2.1 x hx;omega
    .exact e
theorem jD{X:Type}{l:List (Int×X)}(h:(l.map (·.1)).Pairwise (· < ·))(p:Int×X->Bool):((l.filter p).map (·.1)).Pairwise (· < ·):=
 List.Pairwise.sublist (List.Sublist.map _ ane) h
abbrev aQ:=Int×List Atr
variable {l:List aQ}
abbrev eE(l:List aQ):Prop:=(l.map (·.1)).Pairwise (· < ·)
def cG(id:Int)(l:List aQ):List aQ:=l.filter λe=>decide (e.1≠id)
def lK(x:aQ):List aQ->List aQ
 |[]=>[x]
 |e::t=>if x.1<e.1 then x::e::t else e::lK x t
def GR(id:Int)(a:List Atr)(l:List aQ):List aQ:=lK (id,a) (cG id l)
theorem gn{e:aQ}:e∈cG id l↔e∈l/\e.1≠id:=by unfold cG;rw[alO];simp
theorem VZ(h:eE l):eE (cG id l):=jD h _
theorem VH{x e:aQ}:∀{l:List aQ},e∈lK x l↔e=x\/e∈l
 |[]=>by simp[lK]
 | y::t=>by
   rw[lK];split
   .simp
   .rw[alj,VH,alj];constructor
    .rintro(h|h|h)<;>simp[h]
    .rintro(h|h|h)<;>simp[h]
theorem XL{x:aQ}:∀{l:List aQ},eE l->(∀e∈l,e.1≠x.1)->eE (lK x l)
 |[],_,_=>by simp[lK,eE]
 | y::t,h,hn=>by
   have h':=h;unfold eE at h;rw[alr,al2]at h;rw[lK];split
   .rename_i hx;unfold eE;rw[alr,al2];refine⟨λa ha=>?_,h'⟩;rw[alr,alj]at ha;rcases ha with rfl|ha
    .exact hx
    .have:=h.1 a ha;omega
   .rename_i hx;unfold eE;rw[alr,al2];refine⟨λa ha=>?_,XL h.2 λe he=>hn e (by simp[he])⟩;obtain⟨e,he,rfl⟩:=alg.1 ha;rcases VH.1 he with rfl|he
    .have:=hn y aoA;omega
    .exact h.1 _ (alg.2 ⟨e,he,rfl⟩)
theorem lF{e:aQ}:e∈GR id a l↔e=(id,a)\/(e∈l/\e.1≠id):=by unfold GR;rw[VH,gn]
theorem ado(h:eE l):eE (GR id a l):=
 XL (VZ h) λe he=>(gn.1 he).2
theorem Xl(h:eE l){a b:aQ}(ha:a∈l)(hb:b∈l)(e:a.1=b.1):a=b:=by
 induction l with
 |nil=>cases ha
 | cons x t ih =>
   unfold eE at h;rw[alr,al2]at h;rcases alj.1 ha with rfl|ha<;>rcases alj.1 hb with rfl|hb
   .rfl
   .have:=h.1 b.1 (alg.2 ⟨b,by assumption,rfl⟩);omega
   .have:=h.1 a.1 (alg.2 ⟨a,by assumption,rfl⟩);omega
   .exact ih h.2 ha hb
abbrev aU:=List UInt8×Bool×List UInt8
variable {k:aU}
def bq(s:List UInt8):List (List UInt8):=(List.range (s.length-2)).map λi=>(s.drop i).take 3
def x9(f:List UInt8)(syn:Int)(v:List UInt8):List aU:=match cj syn v with
 |none=>[]
 |some n=>(f,false,n)::(bq n).map λg=>(f,true,g)
def d9(tys:List (List UInt8×Int))(l:List Atr):List aU:=tys.flatMap λt=>(cx l t.1).flatMap (x9 t.1 t.2)
def fP(tys:List (List UInt8×Int))(l:List aQ)(k:aU):List Int:=(l.filter λe=>(d9 tys e.2).contains k).map (·.1)
def lG(l:List aQ)(f:List UInt8):List Int:=(l.filter λe => !(cx e.2 f).isEmpty).map (·.1)
theorem SI(h:eE l):(fP tys l k).Pairwise (· < ·):=jD h _
theorem xL(h:eE l):(lG l f).Pairwise (· < ·):=jD h _
theorem ic    :x∈fP tys l k↔∃a,(x,a)∈l/\k∈d9 tys a:=by unfold fP;simp only[alg,alO,alQ];constructor;rintro⟨⟨y,a⟩,⟨h1,h2⟩,rfl⟩;exact⟨a,h1,h2⟩;rintro⟨a,h1,h2⟩;exact⟨(x,a),⟨h1,h2⟩,rfl⟩
theorem pU   :x∈lG l f↔∃a,(x,a)∈l/\cx a f≠[]:=by unfold lG;simp only[alg,alO,alT,List.isEmpty_eq_false_iff];constructor;rintro⟨⟨y,a⟩,⟨h1,h2⟩,rfl⟩;exact⟨a,h1,h2⟩;rintro⟨a,h1,h2⟩;exact⟨(x,a),⟨h1,h2⟩,rfl⟩
theorem af5     :x∈fP tys (GR id a l) k↔(x∈fP tys l k/\x≠id)\/(x=id/\k∈d9 tys a):=by rw[ic,ic];constructor;rintro⟨b,h1,h2⟩;rcases lF.1 h1 with e|⟨e,e2⟩;cases e;exact .inr ⟨rfl,h2⟩;exact .inl ⟨⟨b,e,h2⟩,e2⟩;rintro(⟨⟨b,h1,h2⟩,h3⟩|⟨rfl,h2⟩);exact⟨b,lF.2 (.inr ⟨h1,h3⟩),h2⟩;exact⟨a,lF.2 (.inl rfl),h2⟩
theorem XO    :x∈fP tys (cG id l) k↔x∈fP tys l k/\x≠id:=by rw[ic,ic];constructor;rintro⟨b,h1,h2⟩;obtain⟨e,e2⟩:=gn.1 h1;exact⟨⟨b,e,h2⟩,e2⟩;rintro⟨⟨b,h1,h2⟩,h3⟩;exact⟨b,gn.2 ⟨h1,h3⟩,h2⟩
theorem afn    :x∈lG (GR id a l) f↔(x∈lG l f/\x≠id)\/(x=id/\cx a f≠[]):=by rw[pU,pU];constructor;rintro⟨b,h1,h2⟩;rcases lF.1 h1 with e|⟨e,e2⟩;cases e;exact .inr ⟨rfl,h2⟩;exact .inl ⟨⟨b,e,h2⟩,e2⟩;rintro(⟨⟨b,h1,h2⟩,h3⟩|⟨rfl,h2⟩);exact⟨b,lF.2 (.inr ⟨h1,h3⟩),h2⟩;exact⟨a,lF.2 (.inl rfl),h2⟩
theorem VY(hd:(tys.map (·.1)).Nodup)(hm:(f,syn)∈tys){l:List Atr}{g:Bool}{x:List UInt8}:(f,g,x)∈d9 tys l↔∃v∈cx l f,∃n,cj syn v=some n/\((g=false/\x=n)\/(g=true/\x∈bq n)):=by
 unfold d9;simp only[List.mem_flatMap];constructor;rintro⟨⟨f',s'⟩,h1,v,hv,hk⟩;unfold x9 at hk;rcases hn:cj s' v with _|n;simp only[hn]at hk;cases hk;simp only[hn,alj,alg,als]at hk;have hff:f=f':=by rcases hk with⟨e,_⟩|⟨_,_,e,_⟩<;>simp[e]
 subst hff;have hs:s'=syn:=by
  have:∀{t:List (List UInt8×Int)},(t.map (·.1)).Nodup->(f,s')∈t->(f,syn)∈t->s'=syn:=by
   intro t ht h1 h2;induction t with
   |nil=>cases h1
   | cons y t ih =>
     rw[alr,ame]at ht;rcases alj.1 h1 with e1|e1<;>rcases alj.1 h2 with e2|e2
     .rw[<- e1]at e2;cases e2;rfl
     .exact absurd (alg.2 ⟨_,e2,by rw[<- e1]⟩) ht.1
     .exact absurd (alg.2 ⟨_,e1,by rw[<- e2]⟩) ht.1
     .exact ih ht.2 e1 e2
  exact this hd h1 hm
 subst hs;refine⟨v,hv,n,hn,?_⟩;rcases hk with⟨_,e1,e2⟩|⟨g',hg',_,e1,e2⟩;exact .inl ⟨e1,e2⟩;exact .inr ⟨e1.symm,e2▸hg'⟩;rintro⟨v,hv,n,hn,h⟩;refine⟨(f,syn),hm,v,hv,?_⟩;unfold x9;simp only[hn,alj,alg,als];rcases h with⟨e1,e2⟩|⟨e1,e2⟩;exact .inl ⟨trivial,e1,e2⟩;exact .inr ⟨x,e2,trivial,e1.symm,rfl⟩
abbrev Pc:=Int×List UInt8
def pcA(p:Pc):List AV:=[.int .i64 p.1,.str p.2]
def ir(l:List Pc):List AV:=l.flatMap pcA
theorem K9(l:List Pc):(ir l).length=l.length*2:=by
 induction l with
 |nil=>rfl
 |cons a l ih=>simp only[ir,amm,alw,pcA,alp,al9]at ih⊢;omega
theorem Md:∀{l:List Pc}{k:Nat},k<l.length->((ir l).drop (k*2)).take 2=pcA (l.getD k (0,[]))
 |a::l,0,_=>rfl
 |a::l,k+1,h=>by have ih:=@Md l k (by simpa using h);rw[show(k+1)*2=k*2+1+1 by omega];simpa[ir,pcA]using ih
def Xr(n i:Nat)(p:Pc):Bool:=decide (p.2=[]\/p.1<0\/2<p.1\/(p.1=0/\0<i)\/(p.1=2/\i+1<n))
def Pu(n:Nat):Nat->List Pc->Bool
 |_,[]=>true
 |i,p::t => !(Xr n i p)&&Pu n (i+1) t
def qX(l:List Pc):Bool:=Pu l.length 0 l&&decide (0<l.length)
theorem Zv{l:List Pc}(hn:l.length<=1100000)(h:K (.bool (qX l)) L):alb 158 [.sl (ir l) l.length cap] L K:=by
 unfold qX at h;obtain⟨R,hR⟩:=ak7 (Pu l.length 0 l);rw[hR]at h;replace h:=hid h;have g0:IntKind.i64.wrap ((l.length:Int)-1)=(l.length:Int)-1:=ab aoz aoz;refine ala Tn ?_;refine ah (λn T' L'=>∃(i:Nat) (X:List Blk),n=l.length-i/\i<=l.length/\Hid (Pu l.length i (l.drop i)=R)/\T'=[(7,.int .i64 (i:Int)),(6,.int .i64 l.length),(5,.sl (ir l) l.length cap),(0,.sl (ir l) l.length cap)]/\L'=L++X) aoD ⟨0,[],rfl,ali _,hid (by simpa using hR),rfl,aoA⟩ ?_;rintro _ _ _ ⟨i,X,rfl,hi,hI,rfl,rfl⟩;by_cases hlt:i<l.length
 .have g1:(i:Int)<(l.length:Int):=aoz;have g2:=ak9 i aoz;have e3:=Md hlt;have e4:i*2+2<=(ir l).length:=(by rw[K9];omega);obtain⟨⟨x,t⟩,ha⟩:∃a,l.getD i (0,[])=a:=⟨_,rfl⟩;have hdr:l.drop i=(x,t)::l.drop (i+1):=(by rw[al1 hlt,<- ha];simp[hlt]);rw[ha]at e3;simp only[pcA]at e3;have hI2:=hI.o;rw[hdr,Pu]at hI2;have hbad:Xr l.length i (x,t)=true->K (.bool false) L:=λe=>by have h':=h.o;rw[e]at hI2;simp only[amR,amA]at hI2;rw[<- hI2]at h';simpa using h'
  have hgo:Xr l.length i (x,t)=false->Pu l.length (i+1) (l.drop (i+1))=R:=λe=>by rw[e]at hI2;simpa using hI2
  simp only[Xr,decide_eq_true_eq,decide_eq_false_iff_not]at hbad hgo;replace hbad:=hid hbad;replace hgo:=hid hgo;clear hdr ha hI2 hR
  repeat' first
   |refine bu ?_
   | (first|refine bj aoB ?_|refine aJ aoB ?_|refine aM ?_|refine cN ?_|refine bE (fun _=>?_)|refine aC ?_|refine bo ?_)
     refine sm ?_
   | (first|refine a8 aoB ?_|refine ba ?_|refine aL ?_|refine bm ?_|refine bJ (aB ?_))
     refine sl ?_
   |exact bF
   |first|apply bG|apply be|apply bH|apply bf|apply bI|apply bg
   |refine aP ?_
   |refine aK ?_
   |first|refine aN rfl ?_|refine aO rfl ?_|refine ax rfl ?_ ?_|refine aT rfl (λ_=>?_) (λ_=>?_)|refine aS rfl (λ_=>?_) (λ_=>?_)
   |((first|refine au (λ_=>?_) (λ_=>?_)|refine aA (λ_=>?_) (λ_=>?_))<;>try refine sm ?_)
   |refine And.intro trivial ?_
   |refine And.intro aoz ?_
   |refine aY rfl (λ_=>?_) (λ_=>?_)
   |refine And.intro ?_ ?_
  rename_i hx;refine ae rfl (hbad.o ?_);rcases hx with(e|e)|e;exact .inl e;exact .inr (.inl e);exact .inr (.inr (.inl e));rename_i hx hy;exact ae rfl (hbad.o (.inr (.inr (.inr aoz))));rename_i hx hy;refine aoE aoz aoC ⟨i+1,_,rfl,hlt,hid (hgo.o λhb=>?_),rfl,rfl⟩;rcases hb with e|e|e|e;exact hx (.inl (.inl e));exact hx (.inl (.inr e));exact hx (.inr e);exact hy aoz
 have hke:i=l.length:=aoz;subst hke;have g1:¬(l.length:Int)<(l.length:Int):=aoz;have hz:=hI.o;rw[alY,Pu]at hz;have h':=h.o;rw[<- hz,al0,show decide (0<l.length)=decide ((0:Int)<(l.length:Int))by simp]at h';replace h':=hid h';clear hz hR;refine wk ?_;exact ae rfl h'.o
abbrev ait(l:List Pc)(cap:Option Nat):AV:=.agg [.int .i64 4,.str [97],.str [],.sl (ir l) l.length cap,.sl [] 0 (some 0)]
theorem agP{l:List Pc}(hn:l.length<=1100000)(hL:L[p]?=some (.cells [.int .i64 0]))(h:K (.int .i64 (if qX l=true then 0 else 4)) (L.set p (.cells [.int .i64 1]))):
  alb 120 [.ptr p 0,ait l cap,.int .i64 1] L K:=by
 have hp:p<L.length:=(ald.1 hL).1;have f1:∀X:List Blk,(L++X)[p]?=some (.cells [.int .i64 0]):=λX=>by rw[alm hp];exact hL
 have f2:∀(X:List Blk) A,(L++X).set p A=L.set p A++X:=λX A=>ama _ _ hp
 have f3:∀(X:List Blk) A,(L.set p A++X)[p]?=some A:=λX A=>by rw[alm (by simpa using hp),alC,if_pos rfl,if_pos hp]
 have f4:∀A:Blk,(L.set p A).length=L.length:=λA=>aoA
 have f5:∀(X:List Blk) A,(L.set p A++X)[L.length]?=X[0]?:=λX A=>by rw[alH aoA];simp
 have hty:eV [97]=true:=by decide
 have fin:∀(X:List Blk) (r:Int),K (.int .i64 r) (L.set p (.cells [.int .i64 1]))->Fin L (.int .i64 r) (L.set p (.cells [.int .i64 1])++X) K:=λX r hk =>
  fE (f4 _) (λhh k hk'=>by rcases anA hk' with e|e;exact hh k e;subst e;rfl) rfl hk
 replace fin:=hid fin;replace h:=hid h;refine ala yd ?_;refine Yi ?_;rw[hty];refine sk ?_;cases hok:qX l with
 | true =>
   have h':=h.o;rw[hok,if_pos rfl]at h';replace h':=hid h';have kk1:=@aoG _ _ _ _ (Zv (cap:=cap) hn);refine wk ?_;exact fin.o _ _ h'.o
 | false =>
   have h':=h.o;rw[hok,if_neg aoA]at h';replace h':=hid h';have kk1:=@aoG _ _ _ _ (Zv (cap:=cap) hn);refine wk ?_;exact fin.o _ _ h'.o
theorem ahb{l:List Pc}(hn:l.length<=1100000)(h:K (.int .i64 (if qX l=true then 0 else 4)) L):
  alb 76 [ait l cap] L K:=by
 obtain⟨r,hr⟩:∃r:Int,(if qX l=true then 0 else 4)=r:=⟨_,rfl⟩;rw[hr]at h;replace h:=hid h;refine ala UG ?_;refine agP hn (by rw[oi];rfl) ?_;rw[hr];refine aoH ?_;exact ae rfl h.o
def pcT(ex:Bool)(p:Pc):List UInt8:=if ex=true then p.2 else af p.2
theorem afO(b:UInt8):dF (dF b)=dF b:=by unfold dF;split;rename_i h;split;rename_i h2;exfalso;simp only[alk,decide_eq_true_eq,UInt8.le_iff_toNat_le,UInt8.lt_iff_toNat_lt,UInt8.toNat_add]at h h2;have:=b.toNat_lt;simp at h h2;omega;rfl;rfl
theorem XS(t:List UInt8):af (af t)=af t:=by unfold af;rw[alR];exact amV λb _=>afO b
def Lf(tys:List (List UInt8×Int))(l:List aQ)(f:List UInt8)(syn:Int)(ps:List Pc):List Int :=
 (lG l f).filter λid=>ps.all λp=>(bq (pcT (decide (syn=2)) p)).all λg=>(fP tys l (f,true,g)).contains id
def ad3(tys:List (List UInt8×Int))(l:List aQ)(f:List UInt8)(syn:Int)(v:List UInt8):List Int:=match cj syn v with
 |none=>[]
 |some n=>fP tys l (f,false,n)
theorem aiw(hd:(tys.map (·.1)).Nodup){name:List UInt8}{ty:Typ}(hm:(f,ty.2.1)∈tys)(hf:af f=af name)(ht:eF ts name=some ty)(hr:eE l)(hi:∀e∈l,InA ts e.2):
  ad3 tys l f ty.2.1 v=(l.filter λe=>VK ts e.2 name v).map (·.1):=by
 unfold ad3;rcases hn:cj ty.2.1 v with _|n;simp only;symm;rw[aoe,List.filter_eq_nil_iff];intro e he;unfold VK;simp[ht,hn];simp only;refine L8 (SI hr) (jD hr _) λx=>?_
 rw[ic];simp only[alg,alO];constructor;rintro⟨a,h1,h2⟩;obtain⟨w,hw,m,hm1,h3⟩:=(VY hd hm).1 h2;have h3:n=m:=by rcases h3 with⟨_,e⟩|⟨e,_⟩<;>simp_all
 subst h3;refine⟨(x,a),⟨h1,?_⟩,rfl⟩;unfold VK;simp only[ht,hn,inM,am1,decide_eq_true_eq];exact⟨w,by rw[<- Qd hf];exact hw,by unfold fz;rw[hm1];rfl⟩;rintro⟨⟨y,a⟩,⟨h1,h2⟩,rfl⟩;refine⟨a,h1,?_⟩;unfold VK at h2;simp only[ht,hn,inM,am1,decide_eq_true_eq]at h2;obtain⟨w,hw,e⟩:=h2;have hv:=(abY (hi _ h1) ht).2 w hw;rcases hx:cj ty.2.1 w with _|q;rw[hx]at hv;cases hv;unfold fz at e;rw[hx]at e;simp only[amk]at e;subst e;exact(VY hd hm).2 ⟨w,by rw[Qd hf];exact hw,q,hx,.inl ⟨rfl,rfl⟩⟩
def nW(syn:Int)(vs:List (List UInt8))(g:List UInt8):Bool:=vs.any λv=>(bq (fz syn v)).contains g
def afP(l:List aQ)(f:List UInt8)(syn:Int)(ps:List Pc):List Int :=
 (l.filter λe => !(cx e.2 f).isEmpty&&ps.all λp=>(bq (pcT (decide (syn=2)) p)).all λg=>nW syn (cx e.2 f) g).map (·.1)
theorem acm(hd:(tys.map (·.1)).Nodup)(hm:(f,syn)∈tys){g:List UInt8}:nW syn (cx a f) g=true↔(f,true,g)∈d9 tys a:=by unfold nW;rw[VY hd hm,am1];constructor;rintro⟨v,hv,h⟩;unfold fz at h;rcases hn:cj syn v with _|n;rw[hn]at h;simp[bq]at h;rw[hn]at h;exact⟨v,hv,n,hn,.inr ⟨rfl,by simpa using h⟩⟩;rintro⟨v,hv,n,hn,h⟩;refine⟨v,hv,?_⟩;unfold fz;rw[hn];rcases h with⟨e,_⟩|⟨_,h⟩;cases e;simpa using h
theorem aic(hd:(tys.map (·.1)).Nodup)(hm:(f,syn)∈tys)(hr:eE l)(ps:List Pc):Lf tys l f syn ps=afP l f syn ps:=by
 refine L8 (List.Pairwise.sublist ane (xL hr)) (jD hr _) λx=>?_
 unfold Lf afP;rw[alO];simp only[alg,alO,alk];constructor;rintro⟨h1,h2⟩;obtain⟨a,h3,h4⟩:=pU.1 h1;refine⟨(x,a),⟨h3,by simpa using h4,?_⟩,rfl⟩;rw[aln]at h2⊢;intro p hp;have h2:=h2 p hp;rw[aln]at h2⊢;intro g hg;have h5:=h2 g hg;rw[alQ,ic]at h5;obtain⟨b,h6,h7⟩:=h5;have e:=Xl hr h3 h6 rfl;cases e;exact(acm hd hm).2 h7;rintro⟨⟨y,a⟩,⟨h3,h4,h2⟩,rfl⟩;refine⟨pU.2 ⟨a,h3,by simpa using h4⟩,?_⟩;rw[aln]at h2⊢;intro p hp;have h2:=h2 p hp;rw[aln]at h2⊢;intro g hg;rw[alQ,ic];exact⟨a,h3,(acm hd hm).1 (h2 g hg)⟩
open Go Go.MapKept
section
variable {P:Program}{w0:World}{S0:SB}{E:Env}{L:List Blk}{w:World}{T:Tm}{a:Act}{N:Nat}
theorem aq.mem1:∀{es:List (AV×AV×Nat)}{rs:List MapEntry}{f:MapEntry},aq E es rs->f∈rs->∃e∈es,VR E e.1 f.key/\VR E e.2.1 f.val/\e.2.2=f.born
 |[],rs,f,h,hf=>by simp only[aq]at h;subst h;cases hf
 | (k,x,b)::es,rs,f,h,hf=>by
   obtain⟨g,t,rfl,g1,g2,g3,g4⟩:=h;rcases alj.1 hf with rfl|hf
   .exact⟨_,.head _,g1,g2,g3.symm⟩
   .obtain⟨e,he,h1⟩:=aq.mem1 g4 hf;exact⟨e,.tail _ he,h1⟩
theorem aq.mem2:∀{es:List (AV×AV×Nat)}{rs:List MapEntry}{e:AV×AV×Nat},aq E es rs->e∈es->∃f∈rs,e.2.2=f.born
 |[],rs,e,h,he=>by cases he
 | (k,x,b)::es,rs,e,h,he=>by
   obtain⟨g,t,rfl,g1,g2,g3,g4⟩:=h;rcases alj.1 he with rfl|he
   .exact⟨g,.head _,g3.symm⟩
   .obtain⟨f,hf,h1⟩:=aq.mem2 g4 he;exact⟨f,.tail _ hf,h1⟩
theorem WQ{t:TypeId}{v:Value}{i j ck since last:Nat}{seen:List Nat}{es:List (AV×AV×Nat)}(hR:Rel w0 S0 E L w)(hi:L[i]?=some (.miter (some j) since seen last))(hj:L[j]?=some (.map es ck))(hv:VR E (.ptr i 0) v)(hold:∀e∈es,e.2.2<since)(hsc:since<=last):
  ∃r,(match r with|none=>∀e∈es,seen.contains e.2.2=true|some e=>e∈es/\seen.contains e.2.2=false)/\cO P w0 S0 E (XB L i j since seen ck r) (Pv r) w (Instr.next v false t):=by
 simp only[VR]at hv;obtain⟨c,hc,rfl⟩:=hv;obtain⟨c',q,h1,h2,h3,d,h4,rfl⟩:=hR.blk i _ hi;rw[hc]at h1;cases h1;obtain⟨d',rs,g1,g2,g3⟩:=hR.blk j _ hj;rw[h4]at g1;cases g1;have hlt:c.blk<w.heap.size:=(ami.1 h2).1;have hold':∀x∈rs.toList,x.born<since:=λx hx=>by obtain⟨e,he,_,_,h⟩:=g3.mem1 hx;rw[<- h];exact hold e he
 rw[h3];rcases run_next_at (P:=P) w t c.blk d.blk since last ⟨seen⟩ rs ck h2 g2 hold' hsc with⟨h0,hrun⟩|⟨f,hf,w1,hw,hrun⟩;refine⟨none,λe he=>?_,.same hR hrun (by simp[Pv,VR,VRL])⟩;obtain⟨f,hf,hb⟩:=g3.mem2 he;rw[hb];have hz:leftOf rs ⟨seen⟩=#[]:=Array.eq_empty_of_size_eq_zero h0;unfold leftOf at hz;rw[Array.filter_eq_empty_iff]at hz;have:=hz f (by simpa using hf);simpa using this;have hf':f∈rs.toList/\seen.contains f.born=false:=by simp only[leftOf,Array.toList_filter,alO]at hf;exact⟨hf.1,by simpa using hf.2⟩
 obtain⟨e,he,k1,k2,k3⟩:=g3.mem1 hf'.1;have hR1:Rel w0 S0 E L w1:=by rcases hw with rfl|rfl;exact hR;exact hR.grown ⟨λ_ _=>rfl,ale _,rfl,rfl,rfl⟩
 have hlt1:c.blk<w1.heap.size:=by rcases hw with rfl|rfl<;>exact hlt
 have turn:=hR1.turn (w':={w1 with heap:=w1.heap.setIfInBounds c.blk (.mapIter (some d.blk) since ((⟨seen⟩:Array Nat).push f.born) ck)}) (k':=.miter (some j) since (seen++[f.born]) ck) hi rfl hc aoA (λb hb=>by simp[anI,Ne.symm hb]) rfl rfl rfl
  ⟨c,some d.blk,hc,by simp[hlt1],h3,d,h4,rfl⟩ (λ_ _ e=>by cases e)
 refine⟨some e,⟨he,by rw[k3];exact hf'.2⟩,E,.tuple #[.bool true,f.key,f.val],_,hrun,.refl E,?_,?_⟩;simp only[Pv,VR,VRL];exact⟨[.bool true,f.key,f.val],rfl,.bool true,[f.key,f.val],rfl,rfl,f.key,[f.val],rfl,k1,f.val,[],rfl,k2,rfl⟩;simp only[XB,k3];exact turn
def LOp.isNext:LOp->Bool
 |.mnext _=>true
 |_=>false
theorem aa8{own:Nat}{s d:TypeId}{x:Opd}{lo:LOp}(h:yu P own s d x=some lo):lo.isNext=false:=by
 unfold yu at h
 repeat' split at h
 all_goals (first|(cases h;rfl)|cases h)
theorem ady{op:BinOp}{t:TypeId}{x y:Operand}{lo:LOp}(h:PJ P op t x y=some lo):lo.isNext=false:=by
 unfold PJ at h
 repeat' split at h
 all_goals (first|(cases h;rfl)|cases h)
theorem WN{own:Nat}{b:Builtin}{ts:List TypeId}{xs:List Opd}{lo:LOp}(h:c8 P own b ts xs=some lo):lo.isNext=false:=by
 unfold c8 at h
 repeat' split at h
 all_goals (first|(cases h;rfl)|cases h|(simp only[alI]at h;obtain⟨_,_,rfl⟩:=h;rfl))
theorem aa7{own:Nat}{op:Op}{y:Opd}(h:ia P own op=some (.mnext y)):∃x,op=.next x false/\bK x=some y:=by
 cases op
 case next x isS =>
  simp only[ia]at h;split at h
  .simp only[alI]at h;obtain⟨_,_,h⟩:=h;cases h
  .rename_i hS;simp only[alI,LOp.mnext.injEq]at h;obtain⟨_,h1,rfl⟩:=h;exact⟨x,by rw[show isS=false by simpa using hS],h1⟩
 case makeMap t r =>
  cases r with
  |some x=>simp[ia]at h
  | none =>
    simp only[ia]at h;split at h<;>cases h
 all_goals (exfalso;simp only[ia]at h;try (cases h;done))
 case binOp=>have:=ady h;cases this
 case convert x=>simp only[am9]at h;obtain⟨_,_,h⟩:=h;have:=aa8 h;cases this
 case call c =>
  split at h<;>try cases h
  split at h<;>try cases h
  .simp only[alI]at h;obtain⟨_,_,h⟩:=h;cases h
  .have:=WN h;cases this
 all_goals
  repeat' split at h
  all_goals (first|cases h|(simp only[alI]at h;obtain⟨_,_,h⟩:=h;cases h))
theorem UY{own:Nat->Nat->Nat}{Q:Exit->Tm->List Blk->Prop}{d t i j since last ck:Nat}{rest:List SOp}{mask:List Bool}{seen:List Nat}{es:List (AV×AV×Nat)}(hok:(okS rest&&(gds rest).isEmpty)=true)(ht:ao T t=some (.ptr i 0))(hi:L[i]?=some (.miter (some j) since seen last))(hj:L[j]?=some (.map es ck))(hold:∀e∈es,e.2.2<since)(hsc:since<=last)(h0:(∀e∈es,seen.contains e.2.2=true)->SL P rest (WC mask (Q .normal)) ((d,.tup [.bool false])::T) L)(h1:∀e∈es,seen.contains e.2.2=false->SL P rest (WC mask (Q .normal)) ((d,.tup [.bool true,e.1,e.2.1])::T) (L.set i (.miter (some j) since (seen++[e.2.2]) ck))):
  AW P N own (.sreg (.op ⟨some d,.mnext (.tmp t),none⟩::rest) mask) Q T L:=λc hc ro hro w0 S0 E a w hst=>by
 obtain⟨id,os,rfl,hlo⟩:=PN hc;rw[alk]at hok;refine wpIn_region ?_;generalize List.range os.size=is at hlo⊢;cases is with
 |nil=>simp[cq,SOp.flatL,SOp.flat]at hlo
 | cons i0 is =>
   simp only[SOp.flatL,SOp.flat,alN,alL,cq]at hlo;split at hlo<;>try cases hlo
   rename_i lo los' e1 e2;obtain⟨o,ho,hop,hdst,hd,hg⟩:=gi e1;simp only at hop hdst hg;rcases hg with⟨g1,_⟩|⟨_,_,_,_,_,_,g4⟩
   .simp only[wpOpsIn,ho];rw[if_pos (by simp[Region.wanted,g1])];have hop':ia P (own id i0) o.op=some (.mnext (.tmp t)):=by
     rcases hq:ia P (own id i0) o.op with _|x
     .rw[hq]at hop;cases hop
     .rw[hq]at hop;simp only[amk]at hop;rw[hop]
    obtain⟨x,hx,hlx⟩:=aa7 hop';obtain⟨hR,hT,hN,hdf⟩:=hst;have hv:=ai hlx (show evX T (.tmp t)=some (.ptr i 0)from ht) hT;obtain⟨r,hr,E',v,w',hrun,hle,hvr,hR'⟩:=WQ (P:=P) (t:=o.type) hR hi hj hv hold hsc;have hnd:∀c,o.op≠.defer c:=λc e=>by rw[hx]at e;cases e
    refine⟨λ_ _=>trivial,?_⟩;rw[Oper.semAt_plain _ _ _ hnd];have hex:(execOp a.eval o).run P w=.ok (.value v) w':=by obtain⟨od,oop,oty,opos,oafter,oguard⟩:=o;simp only at hx hrun;subst hx;show(do pure (Next.value (<- Instr.next (a.eval x) false oty)):Sem Next).run P w=_;simp[hrun]
    rw[hex,Oper.uponIn_value];have hst':St w0 S0 N E' (cD (some d) (Pv r) T) (XB L i j since seen ck r) (a.put o.dst v) w':=⟨hR',by rw[hdst];exact(hT.mono hle).putT (λk hk=>by rw[hN];exact hd k (by rw[hdst];exact hk)) hvr,by rw[Vk];exact hN,by rw[PE];exact hdf⟩;have hfr:Fr (gds rest) (cD (some d) (Pv r) T):=λk hk=>by rw[List.isEmpty_iff.1 hok.2]at hk;cases hk
    have hSL:SL P rest (WC mask (Q .normal)) (cD (some d) (Pv r) T) (XB L i j since seen ck r):=by
     cases r with
     |none=>exact h0 hr
     |some e=>exact h1 e hr.1 hr.2
    refine G8 rest hok.1 e2 hst' hfr hSL λE'' T' L' a' w'' q2 q3 q4=>⟨w0,S0,E'',sel mask T',L',.refl _ _,hle.trans q2,q3.2,q4.weak (λt v hv=>LZ q3.1 hv) rfl λ_ _ e=>.inr e⟩
   .cases g4
end
end Go.Proofs.YtcmfcpjnhephaaaGreatDoor.Av
