/- Joined texts of the walk, made small by a program. -/
import Derived.Test.YtcmfcpjnhephaaaGreatDoorPk4
import Derived.Test.YtcmfcpjnhephaaaGreatDoorRows
import Derived.KernelRfl
import Derived.Test.YtcmfcpjnhephaaaGreatDoorPk7
import Derived.Test.YtcmfcpjnhephaaaGreatDoorPk5
import Derived.Laws.RangeAny
import Derived.Laws.RangeString
import Derived.Shelf.Strings.Builder1
import Derived.Shelf.Strings.Builder2
import Derived.Shelf.Strings.OnBuilder
import Derived.Shelf.Small.Bits
import Derived.Shelf.Small.Strs
import Derived.Shelf.Strconv.Itoa0
import Derived.Shelf.Strconv.Itoa1
import Derived.Shelf.LaysM
import Derived.Shelf.Strconv.Itoa2
import Derived.Shelf.Strconv.Itoa3
import Derived.Shelf.Strconv.Itoa4
import Derived.Shelf.Strconv.ParseIntEmpty
import Derived.Shelf.Strconv.Clone
import Derived.Shelf.Strconv.SyntaxError
import Derived.Shelf.LaysC
import Derived.Shelf.Strconv.ToError
import Derived.Shelf.Strconv.Lower
import Derived.Shelf.Strconv.ParseUint10
import Derived.Shelf.Strconv.ParseUint10Empty
import Derived.Shelf.Strconv.ParseUint10Any
import Derived.Shelf.Strconv.ParseInt10
import Derived.Shelf.Strconv.RangeError
import Derived.Shelf.Strconv.ToErrorRange
import Derived.Shelf.Strconv.ParseUintEmpty
import Derived.Shelf.Strconv.ParseUint10b64
import Derived.Shelf.Strconv.ParseUint10b32
import Derived.Shelf.Strconv.ParseUint10b16
import Derived.Shelf.Strconv.ParseUint10b8
import Derived.Shelf.Strconv.ParseUint10At
import Derived.Shelf.Strconv.ParseInt10At64
import Derived.Shelf.Strconv.ParseInt10At32
import Derived.Shelf.Strconv.ParseInt10At16
import Derived.Shelf.Strconv.ParseInt10At8
import Derived.Shelf.Strconv.ParseInt10All
import Derived.Shelf.Strconv.ParseIntPublic10
import Derived.Shelf.Strconv.ErrVarParseInt
import Derived.Shelf.Strings.Search1
import Derived.Shelf.Strings.Search2
import Derived.Shelf.Strings.Search3
import Derived.Shelf.Strings.Cut
import Derived.Shelf.Strings.Shaped
import Derived.Shelf.Sort.Plain
import Derived.Shelf.GgClosure.StringsIndexFunc
import Derived.Ground.GgwProg
import Derived.Shelf.GgClosure.StringsIndexFuncTop
import Derived.Shelf.GgClosure.StringsRunes
import Derived.Shelf.Strings.Prefix
import Derived.Shelf.Slices.In.SortNone
import Derived.Test.YtcmfcpjnhephaaaGreatDoorProg
set_option linter.unusedSimpArgs false
set_option linter.unusedVariables false
set_option maxRecDepth 100000
namespace Go.Proofs.YtcmfcpjnhephaaaGreatDoor.Av
open Go
variable {s typ b:List UInt8}{ip:Nat}{cap:Option Nat}{bl:Bool}{d:UInt8}
def TN:LSO:=[Ag 2]
def TM:LSO:=[Aa 5 0,BC 6 5,Aa 7 6,.grp none 7 false
 [Aj 8 7 0,Bv 9 7 8,A9 10 7 9 32]
 11 (tm 10),Aa 12 11,.grp none 12 false
 [Aj 13 12 0,Ca 14 12 13 0,og 15 12 false (.conv .i32 (tm 14)),Ba 16 12 191 15,Bl 17 12 16]
 18 (tm 17)]
def TK:LSO:=[Ag 2]
def TJ:LSO:=[Aa 19 0,o1 20 (.rangeS (tm 19))]
def TI:LSO:=[o1 21 (.nextS (tm 20)),As 22 21]
def TH:LSO:=[Bt 23 21,Aa 4 23]
def TG:LSO:=[Aa 24 4,Am 25 191 24,Ay 26 25,Aa 27 26,.grp none 27 true
 [Ae 28 27 4,og 29 27 true (.bin .lss (tm 28) (.av (.int .i32 48))),Ae 30 27 29,.grp (some (27,true)) 30 false
 [Aj 31 30 4,og 32 30 false (.bin .gtr (tm 31) (.av (.int .i32 57)))]
 33 (tm 32)]
 34 (tm 33),Aa 35 34,.grp none 35 true
 [Ae 36 35 4,og 37 35 true (.bin .neq (tm 36) (.av (.int .i32 45)))]
 38 (tm 37)]
def TF:LSO:=[Ag 2]
def TE:LSO:=[Az 2]
def To:aG:=⟨39,(aos TN [] (.seq (aos TM Cy (aou 18 (.sreg TK []))) (.seq (aos TJ Cu (aov 0 (aos TI [] (.seq (aow 22 0) (.block 1 (aos TH Cu (aos TG C0 (aou 38 (.sreg TF []))))))))) (aos TE [] .ret)))),[(.tmp 2)]⟩
attribute [push_cast] TN TM TK TJ TI TH TG TF TE
theorem YX:aox 157=aoy To:=aoB
def OU:LSO:=[Ag 2]
def OT:LSO:=[Aa 3 0,o1 4 (.bin .geq (tm 3) (.av (.int .i32 97))),Aa 5 4,.grp none 5 true
 [Ae 6 5 0,og 7 5 true (.bin .leq (tm 6) (.av (.int .i32 122)))]
 8 (tm 7),Aa 9 8,.grp none 9 false
 [Aj 10 9 0,og 11 9 false (.bin .geq (tm 10) (.av (.int .i32 65))),Aj 12 9 11,.grp (some (9,false)) 12 true
 [Ae 13 12 0,og 14 12 true (.bin .leq (tm 13) (.av (.int .i32 90)))]
 15 (tm 14)]
 16 (tm 15),Aa 2 16]
def LM:aG:=⟨17,(aos OU [] (aos OT C0 .ret)),[(.tmp 2)]⟩
attribute [push_cast] OU OT
theorem Wn:aox 191=aoy LM:=aoB
def Ve:LSO:=[A4 3 1,Ag 4]
def Vd:LSO:=[Aa 5 0,o1 6 (.mkfn 209 [(tm 3)]),Aq 7 208 5 6,Aa 4 7]
def Wo:aG:=⟨8,(aos Ve [] (aos Vd Cw .ret)),[(.tmp 4)]⟩
attribute [push_cast] Ve Vd
theorem aam:aox 175=aoy Wo:=aoB
def Rg:LSO:=[A4 2 0,Ag 3]
def Rf:LSO:=[Ac 4 0 2,Ab 5 1 4,Am 6 38 5,Ab 7 1 1,Am 8 38 7,AC 9 6 8,Aa 3 9]
def P4:aG:=⟨10,(aos Rg [] (.seq (.sdreg Rf [.pure,(.read 0 0),(.read 0 0),(.read 0 0)] C0) .ret)),[(.tmp 3)]⟩
attribute [push_cast] Rg Rf
theorem WZ:aox 209=aoy P4:=aoB
def Q5:LSO:=[Au 2,Au 3,Ag 4]
def Q4:LSO:=[Ah 5]
def Q3:LSO:=[Ag 6]
def Q2:LSO:=[Ad 7 0]
def Q1:LSO:=[Aa 11 7,Aa 12 0,Ax 13 12,Al 14 11 13,Aa 15 14,.grp none 15 true
 [Ae 16 15 0,Ae 17 15 7,AT 18 15 16 17,og 19 15 true (.bin .neq (tm 18) (.av (.int .u8 44)))]
 20 (tm 19),Aa 21 20,.grp none 21 true
 [Ae 22 21 0,Ae 23 21 7,AT 24 21 22 23,og 25 21 true (.bin .neq (tm 24) (.av (.int .u8 43)))]
 26 (tm 25)]
def Q0:LSO:=[Aa 27 0,Aa 28 7,AB 29 27 28,Aa 8 29]
def QZ:LSO:=[Aa 30 8,o1 31 (.bin .eql (tm 30) (.av (.int .u8 32))),Aa 6 31]
def QY:LSO:=[Aa 33 8,o1 34 (.bin .neq (tm 33) (.av (.int .u8 92))),Aa 32 34]
def QX:LSO:=[Aa 35 8,BD 36 35,Aa 37 36,.grp none 37 false
 [Aj 38 37 8,og 39 37 false (.call 210 [(.av (.str [34,59,60,62])),(tm 38)]),BO 40 37 39 0]
 41 (tm 40),Aa 42 41,.grp none 42 false
 [Aj 43 42 5,Bc 44 42 43,AJ 45 42 44 0,Aj 46 42 45,.grp (some (42,false)) 46 true
 [Ae 47 46 8,Bw 48 46 47,Ae 49 46 48,.grp (some (46,true)) 49 false
 [Aj 50 49 8,og 51 49 false (.bin .eql (tm 50) (.av (.int .u8 35)))]
 52 (tm 51)]
 53 (tm 52)]
 54 (tm 53)]
def QW:LSO:=[Au 2,Au 3,Ag 4]
def OQ:LSO:=[Aa 56 7,Af 57 56 1,Aa 58 0,Ax 59 58,Al 60 57 59,Aa 61 60,.grp none 61 true
 [Ae 62 61 0,Ae 63 61 7,Ch 64 61 63 1,AT 65 61 62 64,og 66 61 true (.call 210 [(.av (.str [34,43,44,59,60,62,92,32,35,61])),(tm 65)]),og 67 61 true (.bin .geq (tm 66) (iv 0))]
 68 (tm 67),Aa 55 68]
def OP:LSO:=[Aa 69 7,Af 70 69 1,Aa 7 70]
def OO:LSO:=[Aa 71 0,Aa 72 7,AB 73 71 72,Aa 8 73]
def ON:LSO:=[Aa 75 7,Af 76 75 2,Aa 77 0,Ax 78 77,Al 79 76 78,Aa 74 79]
def OM:LSO:=[Aa 81 0,Aa 82 7,Af 83 82 1,Aa 84 7,Af 85 84 3,Bm 86 81 83 85,Am 87 211 86,Aa 80 87,As 88 80,Aw 89 80,Aa 9 88,Aa 10 89]
def OL:LSO:=[Aa 90 10,Ay 91 90]
def OK:LSO:=[Au 2,Au 3,Ag 4]
def OJ:LSO:=[Aa 92 9,BA 93 92 0,Aa 8 93]
def OI:LSO:=[Aa 94 7,Af 95 94 2,Aa 7 95]
def OH:LSO:=[Au 2,Au 3,Ag 4]
def OG:LSO:=[Aa 96 5,Aa 97 8,AM 98 97,AH 99 96 98,Aa 5 99]
def OF:LSO:=[Aa 100 7,Af 101 100 1,Aa 7 101]
def OE:LSO:=[Aa 102 5,AO 103 102,Aa 104 0,Aa 105 7,Ce 106 104 105,Aa 107 6,Ay 108 107,Aa 2 103,Aa 3 106,Aa 4 108]
def P3:aG:=⟨109,(aos Q5 [] (aos Q4 [] (aos Q3 [] (aos Q2 [] (.seq (aov 0 (.seq (aos Q1 C2 (aow 26 0)) (.block 1 (aos Q0 Cw (aos QZ Cv (.seq (.block 2 (aos QY Cv (aot 32 (aos QX Cy (aou 54 (.sreg QW []))) (aos OQ C2 (aot 55 (aos OP Cv (.sreg OO Cw)) (aos ON Cy (aot 74 (aos OM CY (.seq (aos OL Cu (aou 91 (.sreg OK []))) (aos OJ Cv (.sreg OI Cv)))) (aos OH [] .ret)))))))) (aos OG Cx (.sreg OF Cv)))))))) (.seq (.sdreg OE [.pure,(.read 0 0),.pure,.pure,(.read 0 0),.pure,.pure,.pure,.pure] [true,true,true,false,false,false,false,false,false,false]) .ret)))))),[(.tmp 2),(.tmp 3),(.tmp 4)]⟩
attribute [push_cast] Q5 Q4 Q3 Q2 Q1 Q0 QZ QY QX QW OQ OP OO ON OM OL OK OJ OI OH OG OF OE
theorem WY:aox 176=aoy P3:=aoB
def RK:LSO:=[Ah 2,Ad 3 0]
def RJ:LSO:=[Aa 10 0,Ax 11 10,A3 12 11 4096]
def RI:LSO:=[Ah 2,Ad 3 5]
def RH:LSO:=[Aa 13 0,BC 14 13]
def RG:LSO:=[Ah 2,Ad 3 0]
def RF:LSO:=[Ah 4]
def RE:LSO:=[Ah 5]
def RD:LSO:=[Aa 15 4,Ak 16 15,Ao 17 16 32,Aa 18 17,.grp none 18 false
 [Aj 19 18 5,Bc 20 18 19,AJ 21 18 20 8]
 22 (tm 21)]
def RC:LSO:=[Ah 2,Ad 3 9]
def RB:LSO:=[Aa 24 0,o1 25 (.call 174 [(tm 24),(.av (.str [61]))]),Aa 23 25,As 26 23,Aw 27 23,Bt 28 23,Aa 6 26,Aa 7 27,Aa 8 28]
def Ps:LSO:=[Aa 29 8,Ay 30 29,Aa 31 30,.grp none 31 false
 [Aj 32 31 6,Ba 33 31 157 32,Bl 34 31 33]
 35 (tm 34)]
def Pr:LSO:=[Ah 2,Ad 3 4]
def Pq:LSO:=[Aa 36 5,Aa 37 6,Aq 38 175 36 37]
def Pp:LSO:=[Ah 2,Ad 3 21]
def Po:LSO:=[Aa 40 7,Am 41 176 40,Aa 39 41,As 42 39,Aw 43 39,Bt 44 39,Aa 9 42,Aa 7 43,Aa 8 44]
def Pn:LSO:=[Aa 45 8,Ay 46 45]
def Pm:LSO:=[Ah 2,Ad 3 4]
def Pl:LSO:=[Aa 47 5,Aa 48 6,Aa 49 9,o1 50 (.build [(.str []),(.str [])] [(0,(1,(tm 48))),(1,(1,(tm 49)))]),Ci 51 50,BE 52 47 51,Aa 5 52]
def Pk:LSO:=[Aa 53 7,BC 54 53]
def Pj:LSO:=[Aa 55 4,Aa 56 5,Bx 57 56,By 58 55 57,Aa 2 58,Ad 3 0]
def Pi:LSO:=[Aa 59 7,BA 60 59 0,o1 61 (.bin .eql (tm 60) (.av (.int .u8 44)))]
def Ph:LSO:=[Aa 62 4,Aa 63 5,Bx 64 63,By 65 62 64,Aa 4 65,Ah 5]
def Pg:LSO:=[Aa 66 7,o1 67 (.slS (tm 66) (some (iv 1)) none),Aa 0 67]
def P7:aG:=⟨68,(aos RK [] (.seq (aos RJ Cv (aou 12 (.sreg RI []))) (.seq (aos RH Cu (aou 14 (.sreg RG []))) (aos RF [] (aos RE [] (aov 0 (.block 1 (.seq (aos RD Cx (aou 22 (.sreg RC []))) (aos RB CT (.seq (aos Ps Cw (aou 35 (.sreg Pr []))) (.seq (aos Pq Cv (aou 38 (.sreg Pp []))) (aos Po CT (.seq (aos Pn Cu (aou 46 (.sreg Pm []))) (aos Pl C0 (.seq (aos Pk Cu (aou 54 (.sreg Pj CO))) (.seq (aos Pi Cv (aot 61 (.sreg Ph CO) .skip)) (.sreg Pg Cv))))))))))))))))),[(.tmp 2),(.tmp 3)]⟩
attribute [push_cast] RK RJ RI RH RG RF RE RD RC RB Ps Pr Pq Pp Po Pn Pm Pl Pk Pj Pi Ph Pg
theorem W2:aox 139=aoy P7:=aoB
def K8:LSO:=[Au 2]
def K7:LSO:=[Ah 3]
def K6:LSO:=[Aa 7 0,o1 8 (.s2b (tm 7)),Ak 9 8,Ad 10 0]
def K5:LSO:=[Al 11 10 9]
def K4:LSO:=[Aa 12 10,An 13 1 8 10,Ab 14 1 13,Aa 4 12,Aa 5 14]
def K3:LSO:=[Aa 15 4,Ao 16 15 0,Aa 17 16,.grp none 17 true
 [Ae 18 17 5,Bw 19 17 18,Ae 20 17 19,.grp (some (17,true)) 20 false
 [Aj 21 20 5,og 22 20 false (.bin .eql (tm 21) (.av (.int .u8 35)))]
 23 (tm 22)]
 24 (tm 23),Aa 25 24,.grp none 25 false
 [Aj 26 25 4,Aj 27 25 0,Bv 28 25 27,Cj 29 25 28 1,og 30 25 false (.bin .eql (tm 26) (tm 29)),Aj 31 25 30,.grp (some (25,false)) 31 true
 [Ae 32 31 5,Bw 33 31 32]
 34 (tm 33)]
 35 (tm 34),Aa 6 35]
def K2:LSO:=[Aa 37 5,BD 38 37,Aa 36 38]
def K1:LSO:=[Aa 39 3,o1 40 (.app 1 1 1 [(.int .u8 0)] (tm 39) (.av (.str [92,48,48]))),Aa 3 40]
def K0:LSO:=[Aa 42 6,Aa 43 42,.grp none 43 false
 [Aj 44 43 5,og 45 43 false (.call 210 [(.av (.str [34,43,44,59,60,62,92])),(tm 44)]),BO 46 43 45 0]
 47 (tm 46),Aa 41 47]
def KZ:LSO:=[Aa 48 3,o1 49 (.bslice false 1 1 [(.int .u8 0)] [(0,(1,(.av (.int .u8 92))))]),AH 50 48 49,Aa 3 50]
def GE:LSO:=[Aa 51 3,Aa 52 5,AM 53 52,AH 54 51 53,Aa 3 54]
def GD:LSO:=[Af 55 10 1,Aa 10 55]
def GC:LSO:=[Aa 56 3,AO 57 56,Aa 2 57]
def yW:aG:=⟨58,(aos K8 [] (aos K7 [] (.seq (aos K6 CD (aov 0 (aos K5 [] (.seq (aow 11 0) (.seq (.block 1 (aos K4 C4 (aos K3 C0 (.seq (.block 2 (aos K2 Cv (aot 36 (aos K1 Cv (.exit 1)) (aos K0 Cw (aot 41 (.sreg KZ Cw) .skip))))) (.sreg GE Cx))))) (.sreg GD Cu)))))) (aos GC Cv .ret)))),[(.tmp 2)]⟩
attribute [push_cast] K8 K7 K6 K5 K4 K3 K2 K1 K0 KZ GE GD GC
theorem UH:aox 213=aoy yW:=aoB
def Rq:LSO:=[Ad 2 0]
def Rp:LSO:=[Aa 7 0,Ak 8 7,Ad 9 0]
def Ro:LSO:=[Al 10 9 8]
def Rn:LSO:=[Aa 11 9,An 12 1 7 9,Ab 13 1 12,Aa 3 11,Aa 4 13]
def Rm:LSO:=[Aa 15 3,Ao 16 15 32,Aa 14 16]
def Rl:LSO:=[Ad 2 9]
def Rk:LSO:=[Aa 18 4,Ak 19 18,Ao 20 19 0,Aa 17 20]
def Rj:LSO:=[Ad 2 2]
def Ri:LSO:=[Aa 21 4,Ak 22 21,Ad 23 0]
def Rh:LSO:=[Al 24 23 22]
def O4:LSO:=[Aa 25 23,An 26 2 21 23,Ap 27 2 26,Bh 6,Aa 5 25,Ai 2 6 27]
def O3:LSO:=[Aa 29 5,Ao 30 29 8,Aa 28 30]
def O2:LSO:=[Ad 2 9]
def O1:LSO:=[Ac 32 0 6,Ab 33 1 32,Am 34 157 33,Ay 35 34,Aa 31 35]
def O0:LSO:=[Ad 2 20]
def OZ:LSO:=[Aa 37 4,Aa 38 5,Ck 39 37 38,Ac 40 0 6,Ab 41 1 40,Aq 42 175 39 41,Aa 36 42]
def OY:LSO:=[Ad 2 21]
def OX:LSO:=[Af 43 23 1,Aa 23 43]
def OW:LSO:=[Af 44 9 1,Aa 9 44]
def OV:LSO:=[Ad 2 0]
def P5:aG:=⟨45,(aos Rq [] (.seq (aos Rp [] (aov 0 (aos Ro [] (.seq (aow 10 0) (.seq (.block 1 (aos Rn C4 (.seq (.block 2 (aos Rm Cv (aot 14 (aos Rl [] .ret) (aos Rk Cw (aou 17 (.sreg Rj [])))))) (aos Ri [] (aov 3 (aos Rh [] (.seq (aow 24 3) (.seq (.block 4 (aos O4 C4 (.block 5 (aos O3 Cv (aot 28 (aos O2 [] .ret) (aos O1 Cx (aot 31 (aos O0 [] .ret) (.seq (.sdreg OZ [.pure,.pure,(.read 0 0),.pure,(.read 0 0)] C0) (aou 36 (.sreg OY [])))))))))) (.sreg OX Cu))))))))) (.sreg OW Cu)))))) (aos OV [] .ret))),[(.tmp 2)]⟩
attribute [push_cast] Rq Rp Ro Rn Rm Rl Rk Rj Ri Rh O4 O3 O2 O1 O0 OZ OY OX OW OV
theorem W0:aox 212=aoy P5:=aoB
def RA:LSO:=[Au 2,Ad 3 0]
def Rz:LSO:=[Aa 11 0,Am 12 212 11,Aa 4 12]
def Ry:LSO:=[Aa 13 4,AE 14 13 0]
def Rx:LSO:=[Aa 15 4,Au 2,Aa 3 15]
def Rw:LSO:=[Ad 5 0]
def Rv:LSO:=[Aa 16 0,Ak 17 16,Ad 18 0]
def Ru:LSO:=[Al 19 18 17]
def Rt:LSO:=[An 20 1 16 18,Ab 21 1 20,Aa 7 21]
def Rs:LSO:=[Aa 22 7,Ak 23 22,Ad 24 0]
def Rr:LSO:=[Al 25 24 23]
def Pf:LSO:=[An 26 2 22 24,Ap 27 2 26,Bh 9,Ai 2 9 27]
def Pe:LSO:=[Ac 28 1 9,Ab 29 1 28,Ax 30 29,A3 31 30 4096]
def Pd:LSO:=[Au 2,Ad 3 5]
def Pb:LSO:=[Aa 32 5,Af 33 32 1,Aa 5 33]
def Pa:LSO:=[Af 34 24 1,Aa 24 34]
def O9:LSO:=[Af 35 18 1,Aa 18 35]
def O8:LSO:=[Aa 36 0,o1 37 (.call 178 [(tm 36),(.av (.bool false))]),Aa 10 37]
def O7:LSO:=[Aa 38 10,Ax 39 38,A3 40 39 4096]
def O6:LSO:=[Au 2,Ad 3 5]
def O5:LSO:=[Aa 41 10,Aa 2 41,Ad 3 0]
def P6:aG:=⟨42,(aos RA [] (.seq (aos Rz Cv (aos Ry Cu (aou 14 (.sreg Rx Cz)))) (aos Rw [] (.seq (aos Rv [] (aov 0 (aos Ru [] (.seq (aow 19 0) (.seq (.block 1 (aos Rt Cv (aos Rs [] (aov 2 (aos Rr [] (.seq (aow 25 2) (.seq (.block 3 (aos Pf Cv (.seq (aos Pe Cw (aou 31 (.sreg Pd []))) (.sreg Pb Cv)))) (.sreg Pa Cu)))))))) (.sreg O9 Cu)))))) (aos O8 Cv (.seq (aos O7 Cv (aou 40 (.sreg O6 []))) (aos O5 Cz .ret))))))),[(.tmp 2),(.tmp 3)]⟩
attribute [push_cast] RA Rz Ry Rx Rw Rv Ru Rt Rs Rr Pf Pe Pd Pb Pa O9 O8 O7 O6 O5
theorem W1:aox 177=aoy P6:=aoB
def TU:LSO:=[Au 2,Ad 3 0]
def TT:LSO:=[Aa 7 0,Am 8 177 7,Aa 6 8,As 9 6,Aw 10 6,Aa 4 9,Aa 5 10]
def TQ:LSO:=[Aa 11 5,AE 12 11 0]
def TP:LSO:=[Aa 13 5,Au 2,Aa 3 13]
def TO:LSO:=[Aa 14 0,o1 15 (.call 178 [(tm 14),(.av (.bool true))]),Aa 2 15,Ad 3 0]
def Tp:aG:=⟨16,(aos TU [] (.seq (aos TT C0 (aos TQ Cu (aou 12 (.sreg TP Cz)))) (aos TO CB .ret))),[(.tmp 2),(.tmp 3)]⟩
attribute [push_cast] TU TT TQ TP TO
theorem YY:aox 140=aoy Tp:=aoB
def Vj:LSO:=[Au 2,Ad 3 0]
def Vi:LSO:=[Aa 7 0,Am 8 139 7,Aa 6 8,As 9 6,Aw 10 6,Aa 4 9,Aa 5 10]
def Vh:LSO:=[Aa 11 5,AE 12 11 0]
def Vg:LSO:=[Aa 13 5,Au 2,Aa 3 13]
def Vf:LSO:=[Aa 14 4,Am 15 140 14,As 16 15,Aw 17 15,Aa 2 16,Aa 3 17]
def Wp:aG:=⟨18,(aos Vj [] (aos Vi CH (.seq (aos Vh Cu (aou 12 (.sreg Vg Cz))) (aos Vf CO .ret)))),[(.tmp 2),(.tmp 3)]⟩
attribute [push_cast] Vj Vi Vh Vg Vf
theorem aan:aox 100=aoy Wp:=aoB
def dd:LSO:=[Ag 4]
def db:LSO:=[Aa 5 0,Aa 6 1,Aq 7 233 5 6,Bg 8 7 0,Aa 4 8]
def cy:aG:=⟨9,(aos dd [] (aos db Cx .ret)),[(.tmp 4)]⟩
attribute [push_cast] dd db
theorem fL:aox 208=aoy cy:=aoB
def dE:LSO:=[Ad 4 0]
def dD:LSO:=[Aa 6 0,Ak 7 6,Ad 8 0]
def dC:LSO:=[Al 9 8 7]
def dB:LSO:=[Aa 10 8,Aa 5 10]
def dA:LSO:=[Aa 11 1,Aa 12 0,Aa 13 5,An 14 2 12 13,Ap 15 2 14,B7 16 11 15]
def dz:LSO:=[Aa 17 5,Aa 4 17]
def dy:LSO:=[Af 18 8 1,Aa 8 18]
def dx:LSO:=[Ad 4 (-1)]
def cJ:aG:=⟨19,(aos dE [] (.seq (aos dD Cz (aov 0 (aos dC [] (.seq (aow 9 0) (.seq (.block 1 (aos dB Cu (aos dA Cy (aou 16 (.sreg dz Cu))))) (.sreg dy Cu)))))) (aos dx [] .ret))),[(.tmp 4)]⟩
attribute [push_cast] dE dD dC dB dA dz dy dx
theorem gq:aox 233=aoy cJ:=aoB
def zd:LSO:=[Au 4,Au 5,Ag 6]
def zc:LSO:=[Aa 7 0,Aa 8 1,Aq 9 207 7 8,As 10 9,Aw 11 9,Bt 12 9,Aa 4 10,Aa 5 11,Aa 6 12]
def ik:aG:=⟨13,(aos zd [] (aos zc CT .ret)),[(.tmp 4),(.tmp 5),(.tmp 6)]⟩
attribute [push_cast] zd zc
theorem yb:aox 174=aoy ik:=aoB
def fy:LSO:=[Au 4,Au 5,Ag 6]
def fw:LSO:=[Aa 8 0,Aa 9 1,Aq 10 159 8 9,Aa 7 10]
def fv:LSO:=[Aa 11 7,Bg 12 11 0]
def fu:LSO:=[Aa 13 0,Aa 14 7,o1 15 (.slS (tm 13) none (some (tm 14))),Aa 16 0,Aa 17 7,Aa 18 1,Ax 19 18,AY 20 17 19,Ce 21 16 20,Aa 4 15,Aa 5 21,Az 6]
def ft:LSO:=[Aa 22 0,Aa 4 22,Au 5,Ag 6]
def cw:aG:=⟨23,(aos fy [] (.seq (aos fw Cw (aos fv Cu (aou 12 (.sdreg fu [.pure,.pure,(.read 0 0),.pure,.pure,.pure,(.read 0 0),.pure,(.read 0 0),.pure] CX)))) (aos ft CD .ret))),[(.tmp 4),(.tmp 5),(.tmp 6)]⟩
attribute [push_cast] fy fw fv fu ft
theorem eU:aox 207=aoy cw:=aoB
attribute [push_cast] LM Wo P3 yW P5 P6 Tp Wp cy cJ ik
set_option maxHeartbeats 8000000
set_option maxRecDepth 100000
theorem U2{n:Int}(h0 : -2147483648<=n)(h1:n<2147483648):IntKind.i32.wrap n=n:=by simp only[IntKind.wrap,IntKind.bits,IntKind.signed];simp;omega
theorem V1{p:Nat}(h:p<s.length)(ha:(s.getD p 0).toNat<128):Uo s p=((s.getD p 0).toNat,1):=by
 have e:s.getD p 0=s[p]:=by simp[h]
 rw[e]at ha⊢;exact decode_ascii ⟨⟨s⟩⟩ p h ha
theorem XZ{p:Nat}(h:p<s.length)(ha:128<=(s.getD p 0).toNat):128<=(Uo s p).1:=by
 have e:s.getD p 0=s[p]:=by simp[h]
 rw[e]at ha;exact(decode_high ⟨⟨s⟩⟩ p h ha).1
def pZ(x:Int):Bool:=(decide (97<=x)&&decide (x<=122)) ||(decide (65<=x)&&decide (x<=90))
theorem pY{x:Int}{L:List Blk}{K:alc}(h:K (.bool (pZ x)) L):alb 191 [.int .i32 x] L K:=by
 refine ala Wn ?_
 all_goals (first|refine ae rfl (Kto h ?_)|refine aa (Kto h ?_)|refine ae (by simp only[AV.refs,AV.refsL, *];rfl) (Kto h ?_)|refine aW (ae rfl (Kto h ?_))|(trace_state;fail))
 all_goals (first|(simp[pZ, *];done)|(simp[pZ, *];omega)|(simp[pZ, *];intros;omega)|(simp_all[Hid,pZ];done)|(simp_all[Hid,pZ];omega))
def Qg(x:Int):Bool:=pZ x ||(decide (48<=x)&&decide (x<=57)) ||decide (x=45)
def eV(s:List UInt8):Bool:=decide (1<=s.length)&&decide (s.length<=32)&&pZ ((s.getD 0 0).toNat:Int)&&s.all λc=>Qg (c.toNat:Int)
theorem Xd{x:Int}(h:128<=x):Qg x=false:=by simp only[Qg,pZ,anO,anw,decide_eq_false_iff_not];omega
theorem Yi{s:List UInt8}{L:List Blk}{K:alc}(h:K (.bool (eV s)) L):alb 157 [.str s] L K:=by
 have no:eV s=false->K (.bool false) L:=λe=>by rw[<- e];exact h
 replace no:=hid no;replace h:=hid h;refine ac YX (by simp[To]) ?_;simp only[To,am];by_cases h0:s=[];subst h0;refine wk ?_;exact aa (no.o rfl);have hlen:0<s.length:=amv.2 h0;by_cases h1:(32:Int)<(s.length:Int);refine wk ?_;exact aa (no.o (by simp[eV];omega));obtain⟨c0,hc0⟩:=ak7 (s.getD 0 0);have hr:=c0.toNat_lt;have w0:IntKind.i32.wrap (c0.toNat:Int)=(c0.toNat:Int):=U2 aoz aoz;cases hl0:pZ (c0.toNat:Int)with
 | false =>
   have kk1:=@hid _ @pY;refine wk ?_;refine aa (no.o ?_);simp only[eV,hc0,hl0,Bool.and_false,amA]
 | true =>
   have kk1:=@hid _ @pY;refine wk ?_;refine ah (λn T' L'=>∃p,n=s.length-p/\p<=s.length/\Hid (∀c∈s.take p,Qg (c.toNat:Int)=true)/\T'=[(20,.ptr L.length 0)]/\L'=L++[.siter s p]) aoD ⟨0,rfl,ali _,hid aoA,rfl,rfl⟩ ?_;rintro _ _ _ ⟨p,rfl,hp,hall,rfl,rfl⟩;by_cases hlt:p<s.length
   .obtain⟨c,hc⟩:=ak7 (s.getD p 0);have hmem:c∈s:=(by rw[<- hc];simp[hlt]);have htk:s.take (p+1)=s.take p++[c]:=(by rw[aly hlt,<- hc];simp[hlt]);replace htk:=hid htk;have bad:Qg (c.toNat:Int)=false->K (.bool false) L:=λe=>no.o (by have:(s.all λc=>Qg (c.toNat:Int))=false:=List.all_eq_false.2 ⟨c,hmem,by rw[e];simp⟩;simp only[eV,this,Bool.and_false])
    replace bad:=hid bad;by_cases ha:c.toNat<128
    .have hd:=V1 hlt (by rw[hc];exact ha);rw[hc]at hd;obtain⟨x,hx⟩:∃x:Nat,c.toNat=x:=⟨_,rfl⟩;rw[hx]at hd bad;have hx':=hid hx;clear hx hc hmem ha hr w0;cases hxl:pZ (x:Int)with
     | true =>
       have kk1:=@hid _ @pY;refine wk ?_;refine aoE aoz aoD ⟨p+1,rfl,hlt,hid λd hd'=>?_,rfl,rfl⟩;rw[htk.o]at hd';rcases alh.1 hd' with h|h
       .exact hall.o d h
       .rw[alB.1 h,hx'.o,Qg,hxl];rfl
     | false =>
       repeat' first
        |refine bu ?_
        | (first|refine bj aoB ?_|refine aJ aoB ?_|refine aM ?_|refine cN ?_|refine bE (fun _=>?_)|refine aC ?_|refine bo ?_|refine pY ?_|refine bh (pY ⟨rfl,rfl⟩) (pY ⟨rfl,rfl⟩) ?_|refine aF (pY ⟨rfl,rfl⟩) ?_)
          refine sm ?_
        | (first|refine a8 aoB ?_|refine ba ?_|refine aL ?_|refine bm ?_|refine bJ (aB ?_))
          refine sl ?_
        |exact bF
        |first|apply bG|apply be|apply bH|apply bf|apply bI|apply bg
        |refine aP ?_
        |refine aK ?_
        |first|refine aN rfl ?_|refine aO rfl ?_|refine ax rfl ?_ ?_|refine aT rfl (λ_=>?_) (λ_=>?_)|refine aS rfl (λ_=>?_) (λ_=>?_)
        |((first|refine au (λ_=>?_) (λ_=>?_)|refine aA (λ_=>?_) (λ_=>?_))<;>try refine sm ?_)
        |refine And.intro trivial ?_
        |refine And.intro aoz ?_
        |refine aY rfl (λ_=>?_) (λ_=>?_)
        |refine And.intro ?_ ?_
       .rename_i hb;refine ae rfl (bad.o ?_);simp only[Qg,hxl,amP,anO,anw,decide_eq_false_iff_not];omega
       .rename_i hb;refine aoE aoz aoD ⟨p+1,rfl,hlt,hid λd hd'=>?_,rfl,rfl⟩;rw[htk.o]at hd';rcases alh.1 hd' with h|h
        .exact hall.o d h
        .rw[alB.1 h,hx'.o];simp only[Qg,hxl,amP,alW,alk,decide_eq_true_eq];omega
    .have hh:=XZ hlt (by rw[hc];omega);obtain⟨⟨x,wd⟩,hd⟩:∃q,Uo s p=q:=⟨_,rfl⟩;rw[hd]at hh;simp only at hh;have bad':=hid (bad.o (Xd (show(128:Int)<=(c.toNat:Int)by omega)));have hxl:pZ (x:Int)=false:=by have:=Xd (show(128:Int)<=(x:Int)by omega);simp only[Qg,anO]at this;exact this.1.1
     have f1:¬(x:Int)<48:=aoz;have f2:(57:Int)<(x:Int):=aoz;have f3:¬(x:Int)=45:=aoz;clear hc hmem hr w0;have kk1:=@hid _ @pY;refine wk ?_;exact ae rfl bad'.o
   .have hke:p=s.length:=aoz;subst hke;have h':=h.o;have e:eV s=true:=by
     have e1:(s.all λc=>Qg (c.toNat:Int))=true:=aln.2 λc hcm=>hall.o c (by rw[alt];exact hcm)
     simp only[eV,e1,hc0,hl0,anh];simp;omega
    rw[e]at h';replace h':=hid h';clear e;refine wk ?_;exact ae rfl h'.o
variable {L:List Blk}{K:alc}
abbrev Ava:=List UInt8×List UInt8
variable {r:List Ava}
def sf(a:Ava):List AV:=[.str a.1,.str a.2]
def aV(r:List Ava):List AV:=r.flatMap sf
abbrev aaQ(r:List Ava)(cap:Option Nat):AV:=.sl (aV r) r.length cap
def lZ(r:List Ava)(typ:List UInt8):Bool:=r.any λa=>decide (af a.1=af typ)
theorem ajU{a:Ava}(h1:(a.1.length:Int)<=100000)(h2:(typ.length:Int)<=100000)(hL:L[ip]?=some (.cells [.str typ]))(h:K (.bool (decide (af a.1=af typ))) L):
  alb 209 [.agg (sf a),.ptr ip 0] L K:=by
 obtain⟨t,v⟩:=a;replace h:=hid h;have hip:ip<L.length:=(ald.1 hL).1;have g1:(L++[Blk.cells [.str t,.str v]])[ip]?=some (.cells [.str typ]):=by rw[alm hip];exact hL
 simp only[sf];refine ac WZ (by simp[P4]) ?_;simp only[P4,am];have kk1:=@aoG _ _ _ _ (Ln h1);have kk2:=@aoG _ _ _ _ (Ln h2);refine wk ?_;exact ae rfl h.o
theorem dM(r:List Ava):(aV r).length=r.length*2:=by
 induction r with
 |nil=>rfl
 |cons a r ih=>simp only[aV,amm,alw,sf,alp,al9]at ih⊢;omega
theorem gf:∀{r:List Ava}{k:Nat},k<r.length->((aV r).drop (k*2)).take 2=sf (r.getD k ([],[]))
 |a::r,0,_=>rfl
 |a::r,k+1,h=>by have ih:=@gf r k (by simpa using h);rw[show(k+1)*2=k*2+1+1 by omega];simpa[aV,sf]using ih
theorem af3(hn:r.length<=100000)(h1:∀a∈r,(a.1.length:Int)<=100000)(h2:(typ.length:Int)<=100000)(hL:L[ip]?=some (.cells [.str typ]))(hno:lZ r typ=false->K (.int .i64 (-1)) L)(hyes:∀k:Nat,lZ r typ=true->K (.int .i64 k) L):alb 233 [aaQ r cap,.func 209 [.ptr ip 0]] L K:=by
 replace hno:=hid hno;replace hyes:=hid hyes;replace h1:=hid h1;refine ala gq ?_;refine ah (λn T' L'=>∃(k:Nat),n=r.length-k/\k<=r.length/\Hid (lZ (r.take k) typ=false)/\T'=[(8,.int .i64 (k:Int)),(7,.int .i64 r.length),(0,aaQ r cap),(1,.func 209 [.ptr ip 0])]/\L=L') (CutS (b:=ale _)) ⟨0,rfl,ali _,hid rfl,rfl,rfl⟩ ?_;rintro _ _ _ ⟨k,rfl,hk,hf,rfl,rfl⟩;by_cases hlt:k<r.length;have g1:(k:Int)<(r.length:Int):=aoz;have g2:=ak9 k aoz;have e1:=gf hlt;have e2:k*2+2<=(aV r).length:=by rw[dM];omega
 obtain⟨a,ha⟩:=ak7 (r.getD k ([],[]));have ham:a∈r:=by rw[<- ha];simp[hlt]
 have htk:r.take (k+1)=r.take k++[a]:=by rw[aly hlt,<- ha];simp[hlt]
 rw[ha]at e1;have hs:lZ (r.take (k+1)) typ=decide (af a.1=af typ):=by have:=hf.o;simp only[lZ]at this⊢;rw[htk,anP,this];simp
 have hall:decide (af a.1=af typ)=true->lZ r typ=true:=λe=>am1.2 ⟨a,ham,e⟩
 replace hall:=hid hall;replace hs:=hid hs;replace htk:=hid htk;have ha1:=hid (h1.o a ham);clear ha ham;refine wk ?_;refine ajU ha1.o h2 hL ?_;refine sk ?_;cases hd:decide (af a.1=af typ)with
 | true =>
   have hy:=hid (hyes.o k (hall.o hd));replace hd:=hid hd;refine wk ?_;exact aa hy.o
 | false =>
   replace hd:=hid hd;refine wk ?_;exact aoE aoz (CutS (b:=ale _)) ⟨k+1,rfl,hlt,hid (by rw[hs.o,hd.o]),rfl,rfl⟩
 have hke:k=r.length:=aoz;subst hke;have g1:¬(r.length:Int)<(r.length:Int):=aoz;have hn':=hf.o;rw[alt]at hn';have hy:=hid (hno.o hn');clear hn';refine wk ?_;exact aa hy.o
theorem aai(hn:r.length<=100000)(h1:∀a∈r,(a.1.length:Int)<=100000)(h2:(typ.length:Int)<=100000)(hL:L[ip]?=some (.cells [.str typ]))(h:K (.bool (lZ r typ)) L):
  alb 208 [aaQ r cap,.func 209 [.ptr ip 0]] L K:=by
 replace h:=hid h;refine ala fL ?_;refine af3 hn h1 h2 hL (λe=>?_) (λk e=>?_);have h':=h.o;rw[e]at h';replace h':=hid h';refine aoH ?_;exact aa h'.o;have h':=h.o;rw[e]at h';replace h':=hid h';have g:(0:Int)<=(k:Int):=aoz;refine aoH ?_;exact aa h'.o
theorem ai6(hn:r.length<=100000)(h1:∀a∈r,(a.1.length:Int)<=100000)(h2:(typ.length:Int)<=100000)(h:K (.bool (lZ r typ)) L):
  alb 175 [aaQ r cap,.str typ] L K:=by
 replace h:=hid h;refine ala aam ?_;refine aai hn h1 h2 aoA ?_;refine aoH ?_;exact ae rfl h.o
theorem fC{a:List UInt8}{c:UInt8}{L:List Blk}{K:alc}(h:K (.int .i64 (Lib.indexByte a c)) L):alb 210 [.str a,.int .u8 c.toNat] L K :=
 da Tryz.func210 rfl aoB (λw0 S0 E w vs hR hv=>by simp only[VRL,VR]at hv;obtain⟨_,_,rfl,rfl,_,_,rfl,rfl,rfl⟩:=hv;exact(Tryz.strings_IndexByte ⟨⟨a⟩⟩ c.toNat w).mono λe w' ⟨he,hw⟩=>⟨_,he,by simp[VR],by subst hw;exact tP.refl _⟩) h
theorem rl(a:List UInt8)(c:UInt8):(0<=Lib.indexByte a c)↔c∈a:=by
 induction a with
 |nil=>simp[Lib.indexByte]
 | cons b l ih =>
   have hge:=Lib.indexByte_ge l c;unfold Lib.indexByte;by_cases hb:b=c
   .simp[hb]
   .have e1:(b == c)=false:=(by simpa using hb);rw[e1];simp only[alx,if_false];have e2:c∈b::l↔c∈l:=(by simp[Ne.symm hb]);rw[e2,<- ih];split
    .rename_i h;simp at h;omega
    .rename_i h;simp at h;omega
theorem bv(c d:UInt8):(c.toNat:Int)=(d.toNat:Int)↔c=d:=by constructor;intro h;exact am2.1 aoz;rintro rfl;rfl
def wrB(i n:Nat)(c:UInt8):List UInt8 :=
 if c=0 then[92,48,48]else if(i=0/\(c=32\/c=35))\/(i+1=n/\c=32)\/c∈[34,43,44,59,60,62,92]then[92,c]else[c]
def wrL(n:Nat):Nat->List UInt8->List UInt8
 |_,[]=>[]
 |i,c::s=>wrB i n c++wrL n (i+1) s
def eH(s:List UInt8):List UInt8:=wrL s.length 0 s
theorem aht(i n:Nat)(c:UInt8):(wrB i n c).length<=3:=by unfold wrB;split;simp;split<;>simp
theorem fF(hs:s.length<=100000)(h:K (.str (eH s)) L):alb 213 [.str s] L K:=by
 replace h:=hid h;have g0:IntKind.i64.wrap ((s.length:Int)-1)=(s.length:Int)-1:=ab aoz aoz;refine ala UH ?_;refine bt (l:=[]) (n:=0) 3 1 rfl (alG 1).symm ?_;refine ah (λn T' L'=>∃(i m:Nat) (b:List UInt8),n=s.length-i/\i<=s.length/\m<=3*i/\Hid (m=b.length/\b++wrL s.length i (s.drop i)=eH s)/\T'=[(10,.int .i64 (i:Int)),(9,.int .i64 s.length),(8,.sl (u8s s) s.length none),(3,.gsl (u8s b) m L.length 1),(0,.str s)]/\L'=L++[.spare m 1]) aoD ⟨0,0,[],rfl,ali _,aoz,hid ⟨rfl,rfl⟩,rfl,rfl⟩ ?_;rintro _ _ _ ⟨i,m,b,rfl,hi,hm,hb,rfl,rfl⟩;by_cases hlt:i<s.length
 .have g1:(i:Int)<(s.length:Int):=aoz;have g2:=ak9 i aoz;obtain⟨c,hc⟩:=ak7 (s.getD i 0);have g3:(u8s s).getD i .undef=.int .u8 c.toNat:=(by rw[<- hc];simp[u8s,hlt]);have hdr:s.drop i=c::s.drop (i+1):=(by rw[al1 hlt,<- hc];simp[hlt]);have hb2:=hb.o.2;rw[hdr]at hb2;simp only[wrL]at hb2;have g4:=jA;have g5:(u8s s).length=s.length:=(by simp[u8s]);clear hc hdr;replace hb2:=hid hb2
  repeat' first
   |refine bu ?_
   | (first|refine bj aoB ?_|refine aJ aoB ?_|refine aM ?_|refine cN ?_|refine bE (fun _=>?_)|refine aC ?_|refine bo ?_|refine fC ?_|refine bh (fC ⟨rfl,rfl⟩) (fC ⟨rfl,rfl⟩) ?_|refine aF (fC ⟨rfl,rfl⟩) ?_)
     refine sm ?_
   | (first|refine a8 aoB ?_|refine ba ?_|refine aL ?_|refine bm ?_|refine bJ (aB ?_))
     refine sl ?_
   |exact bF
   |first|apply bG|apply be|apply bH|apply bf|apply bI|apply bg
   |refine aP ?_
   |refine aK ?_
   |first|refine aN rfl ?_|refine aO rfl ?_|refine ax rfl ?_ ?_|refine aT rfl (λ_=>?_) (λ_=>?_)|refine aS rfl (λ_=>?_) (λ_=>?_)
   |((first|refine au (λ_=>?_) (λ_=>?_)|refine aA (λ_=>?_) (λ_=>?_))<;>try refine sm ?_)
   |refine And.intro trivial ?_
   |refine And.intro aoz ?_
   |refine aY rfl (λ_=>?_) (λ_=>?_)
   |refine And.intro ?_ ?_
  rfl;omega;rename_i h0;have hc0:=(bv c 0).1 h0;rw[show u8s b++AV.frzL (u8s [92,48,48])=u8s (b++[92,48,48])by simp[u8s,AV.frzL,AV.frz]];refine aoE aoz aoC ⟨i+1,m+3,b++[92,48,48],rfl,hlt,aoz,hid ⟨by simp[hb.o.1],?_⟩,rfl,rfl⟩;rw[<- hb2.o,wrB,if_pos hc0,alv];rename_i h0 h1;have hc0:¬c=0:=λe=>h0 ((bv c 0).2 e)
  have hq:(i=0/\(c=32\/c=35))\/(i+1=s.length/\c=32)\/c∈[34,43,44,59,60,62,92]:=by rcases h1 with(⟨e1,e2⟩|⟨e1,e2⟩)|e;exact .inl ⟨aoz,e2.imp (bv c 32).1 (bv c 35).1⟩;exact .inr (.inl ⟨aoz,(bv c 32).1 e2⟩);exact .inr (.inr ((rl _ _).1 e))
  rw[show u8s b++[AV.int IntKind.u8 92,AV.int IntKind.u8 (c.toNat:Int)]=u8s (b++[92,c])by simp[u8s]];refine aoE aoz aoC ⟨i+1,m+1+1,b++[92,c],rfl,hlt,aoz,hid ⟨by simp[hb.o.1],?_⟩,rfl,rfl⟩;rw[<- hb2.o,wrB,if_neg hc0,if_pos hq,alv];rename_i h0 h1;have hc0:¬c=0:=λe=>h0 ((bv c 0).2 e)
  have hq:¬((i=0/\(c=32\/c=35))\/(i+1=s.length/\c=32)\/c∈[34,43,44,59,60,62,92]):=λhq=>h1 (by rcases hq with⟨e1,e2⟩|⟨e1,e2⟩|e;exact .inl (.inl ⟨aoz,e2.imp (bv c 32).2 (bv c 35).2⟩);exact .inl (.inr ⟨aoz,(bv c 32).2 e2⟩);exact .inr ((rl _ _).2 e))
  rw[show u8s b++[AV.int IntKind.u8 (c.toNat:Int)]=u8s (b++[c])by simp[u8s]];refine aoE aoz aoC ⟨i+1,m+1,b++[c],rfl,hlt,aoz,hid ⟨by simp[hb.o.1],?_⟩,rfl,rfl⟩;rw[<- hb2.o,wrB,if_neg hc0,if_neg hq,alv]
 have hke:i=s.length:=aoz;subst hke;have g1:¬(s.length:Int)<(s.length:Int):=aoz;have e1:=jA b;have e2:=gM b;have e:=hb.o.2;rw[alY,wrL,alJ]at e;have h':=h.o;rw[<- e]at h';replace h':=hid h';clear e;refine wk ?_;exact ae rfl h'.o
abbrev rz:List UInt8:=[34,43,44,59,60,62,92,32,35,61]
def fR:List UInt8->Bool->List UInt8->Option (List UInt8×List UInt8×Bool)
 |b,bl,[]=>some (b,[], !bl)
 | b,bl,c::s=>if c=44\/c=43 then some (b,c::s, !bl)
   else if c≠92 then(if c=0\/c∈([34,59,60,62]:List UInt8)\/(b=[]/\(c=32\/c=35))then none else fR (b++[c]) (decide (c=32)) s)
   else match s with
    |[]=>none
    | d::s1=>if d∈rz then fR (b++[d]) false s1 else match s1 with
      |[]=>none
      | e::s2=>match RX d e with
        |none=>none
        |some x=>fR (b++[x]) false s2
def acM(o:Option (List UInt8×List UInt8×Bool)):AV:=match o with
 |none=>.tup [.str [],.str [],.bool false]
 |some (v,r,f)=>.tup [.str v,.str r,.bool f]
theorem om  :fR b bl []=some (b,[], !bl):=by rw[fR.eq_def]
theorem ri{c:UInt8}(h:c=44\/c=43):fR b bl (c::s)=some (b,c::s, !bl):=by rw[fR.eq_def];simp only[if_pos h]
theorem nQ{c:UInt8}(h:¬(c=44\/c=43))(h2:c≠92):fR b bl (c::s)=if c=0\/c∈([34,59,60,62]:List UInt8)\/(b=[]/\(c=32\/c=35))then none else fR (b++[c]) (decide (c=32)) s:=by rw[fR.eq_def];simp only[if_neg h,if_pos h2]
theorem LX  :fR b bl [92]=none:=by rw[fR.eq_def];rfl
theorem tR(h:d∈rz):fR b bl (92::d::s)=fR (b++[d]) false s:=by rw[fR.eq_def];simp only[show ¬((92:UInt8)=44\/(92:UInt8)=43)by decide,if_false,ne_eq,not_true_eq_false,if_pos h]
theorem LW(h:¬d∈rz):fR b bl [92,d]=none:=by rw[fR.eq_def];simp only[show ¬((92:UInt8)=44\/(92:UInt8)=43)by decide,if_false,ne_eq,not_true_eq_false,if_neg h]
theorem G1{e:UInt8}(h:¬d∈rz):fR b bl (92::d::e::s)=match RX d e with|none=>none|some x=>fR (b++[x]) false s:=by rw[fR.eq_def];simp only[show ¬((92:UInt8)=44\/(92:UInt8)=43)by decide,if_false,ne_eq,not_true_eq_false,if_neg h]
theorem nM{i:Nat}(h:i<s.length):s.drop i=s.getD i 0::s.drop (i+1):=by rw[al1 h];simp[h]
theorem ahu(hs:s.length<=100000)(h:K (acM (fR [] false s)) L):alb 176 [.str s] L K:=by
 replace h:=hid h;refine ala WY ?_;refine bt (l:=[]) (n:=0) 5 1 rfl (alG 1).symm ?_;refine ah (λn T' L'=>∃(i m:Nat) (b:List UInt8) (bl:Bool),n=s.length-i/\i<=s.length/\m<=i/\Hid (m=b.length/\fR b bl (s.drop i)=fR [] false s)/\T'=[(7,.int .i64 (i:Int)),(6,.bool bl),(5,.gsl (u8s b) m L.length 1),(0,.str s)]/\L'=L++[.spare m 1]) aoD ⟨0,0,[],false,rfl,ali _,aoz,hid ⟨rfl,rfl⟩,rfl,rfl⟩ ?_;rintro _ _ _ ⟨i,m,b,bl,rfl,hi,hm,hb,rfl,rfl⟩;have e1:=jA b;have e2:=gM b;by_cases hlt:i<s.length
 .have g1:(i:Int)<(s.length:Int):=aoz;have g2:=ak9 i aoz;obtain⟨c,hc⟩:=ak7 (s.getD i 0);have hdr:=nM hlt;rw[hc]at hdr;have hb2:=hb.o.2;rw[hdr]at hb2;have hds:(s.drop i).take (s.length-i)=s.drop i:=amb aoA;have hl1:(i:Int)<=(s.length:Int):=aoz;by_cases hcc:c=44\/c=43;rw[ri hcc]at hb2;have h':=h.o;rw[<- hb2]at h';simp only[acM]at h';rw[<- hdr]at h';replace h':=hid h';have k1:((c.toNat:Int)=44)\/((c.toNat:Int)=43):=hcc.imp (bv c 44).2 (bv c 43).2;clear hb2 hcc hdr;rcases k1 with k1|k1;refine wk ?_;exact ae rfl h'.o;refine wk ?_;exact ae rfl h'.o
  .have k1:¬(c.toNat:Int)=44:=λe=>hcc (.inl ((bv c 44).1 e))
   have k2:¬(c.toNat:Int)=43:=λe=>hcc (.inr ((bv c 43).1 e))
   by_cases h92:c=92;subst h92;have g3:IntKind.i64.wrap ((i:Int)+2)=(i:Int)+2:=ab aoz aoz;have g4:IntKind.i64.wrap ((i:Int)+3)=(i:Int)+3:=ab aoz aoz;have g5:IntKind.i64.wrap ((i:Int)+1+1)=(i:Int)+1+1:=ab aoz aoz;have g6:IntKind.i64.wrap ((i:Int)+2+1)=(i:Int)+2+1:=ab aoz aoz;have t1:((i:Int)+1).toNat=i+1:=aoz;have t3:((i:Int)+3).toNat=i+3:=aoz;by_cases h1:i+1<s.length;have f1:(i:Int)+1<(s.length:Int):=aoz;obtain⟨d,hd⟩:=ak7 (s.getD (i+1) 0);have hdr1:=nM h1;rw[hd]at hdr1;rw[hdr1]at hb2;by_cases hsp:d∈rz;rw[tR hsp]at hb2;have f2:=(rl rz d).2 hsp;clear hdr hdr1;replace hb2:=hid hb2;have kk1:=@hid _ @fC;refine wk ?_;rw[show u8s b++[AV.int IntKind.u8 (d.toNat:Int)]=u8s (b++[d])by simp[u8s],show decide (((UInt8.toNat 92:Nat):Int)=32)=false from rfl];refine aoE aoz aoC ⟨i+1+1,m+1,b++[d],false,rfl,h1,aoz,hid ⟨by simp[hb.o.1],hb2.o⟩,rfl,rfl⟩;have f2:¬0<=Lib.indexByte rz d:=λe=>hsp ((rl rz d).1 e)
   by_cases h2:i+2<s.length;have f3:(i:Int)+2<(s.length:Int):=aoz;have f4:(i:Int)+1<=(i:Int)+3:=aoz;have f5:(i:Int)+3<=(s.length:Int):=aoz;have f6:(0:Int)<=(i:Int)+1:=aoz;obtain⟨e,he⟩:=ak7 (s.getD (i+2) 0);have hdr2:=nM h2;rw[he]at hdr2;rw[hdr2,G1 hsp]at hb2;have hcut:(s.drop (i+1)).take (i+3-(i+1))=[d,e]:=by rw[hdr1,hdr2,show i+3-(i+1)=2 by omega];rfl
   clear hdr hdr1 hdr2;replace hb2:=hid hb2;have kk1:=@hid _ @fC;refine wk ?_;refine aeJ ?_;rcases hx:RX d e with _|x;rw[show PO d e=.tup [.str [],.bool false]by simp only[PO,hx]];have h':=h.o;rw[<- hb2.o,hx]at h';simp only[acM]at h';replace h':=hid h';clear hx;refine aoH ?_;exact ae rfl h'.o;rw[show PO d e=.tup [.str [x],.bool true]by simp only[PO,hx]];have hb3:=hb2.o;rw[hx]at hb3;simp only at hb3;replace hb3:=hid hb3;have q1:[x].getD 0 0=x:=rfl;clear hx hb2;refine aoH ?_;rw[show u8s b++[AV.int IntKind.u8 (x.toNat:Int)]=u8s (b++[x])by simp[u8s],show decide (((UInt8.toNat 92:Nat):Int)=32)=false from rfl];refine aoE aoz aoC ⟨i+2+1,m+1,b++[x],false,rfl,h2,aoz,hid ⟨by simp[hb.o.1],hb3.o⟩,rfl,rfl⟩;have f3:¬(i:Int)+2<(s.length:Int):=aoz;have hnil:s.drop (i+1+1)=[]:=amU aoz;rw[hnil,LW hsp]at hb2;have h':=h.o;rw[<- hb2]at h';replace h':=hid h';clear hdr hdr1 hb2;have kk1:=@hid _ @fC;refine wk ?_;exact ae rfl h'.o;have f1:¬(i:Int)+1<(s.length:Int):=aoz;have f3:¬(i:Int)+2<(s.length:Int):=aoz;have hnil:s.drop (i+1)=[]:=amU aoz;rw[hnil,LX]at hb2;have h':=h.o;rw[<- hb2]at h';replace h':=hid h';clear hdr hb2;have kk1:=@hid _ @fC;refine wk ?_;exact ae rfl h'.o
   .rw[nQ hcc h92]at hb2;have k3:¬(c.toNat:Int)=92:=λe=>h92 ((bv c 92).1 e)
    clear hdr;replace hb2:=hid hb2
    repeat' first
     |refine bu ?_
     | (first|refine bj aoB ?_|refine aJ aoB ?_|refine aM ?_|refine cN ?_|refine bE (fun _=>?_)|refine aC ?_|refine bo ?_|refine fC ?_|refine bh (fC ⟨rfl,rfl⟩) (fC ⟨rfl,rfl⟩) ?_|refine aF (fC ⟨rfl,rfl⟩) ?_)
       refine sm ?_
     | (first|refine a8 aoB ?_|refine ba ?_|refine aL ?_|refine bm ?_|refine bJ (aB ?_))
       refine sl ?_
     |exact bF
     |first|apply bG|apply be|apply bH|apply bf|apply bI|apply bg
     |refine aP ?_
     |refine aK ?_
     |first|refine aN rfl ?_|refine aO rfl ?_|refine ax rfl ?_ ?_|refine aT rfl (λ_=>?_) (λ_=>?_)|refine aS rfl (λ_=>?_) (λ_=>?_)
     |((first|refine au (λ_=>?_) (λ_=>?_)|refine aA (λ_=>?_) (λ_=>?_))<;>try refine sm ?_)
     |refine And.intro trivial ?_
     |refine And.intro aoz ?_
     |refine aY rfl (λ_=>?_) (λ_=>?_)
     |refine And.intro ?_ ?_
    rename_i hx;have hbad:c=0\/c∈([34,59,60,62]:List UInt8)\/(b=[]/\(c=32\/c=35)):=by rcases hx with(e|e)|⟨e,e'⟩;exact .inl ((bv c 0).1 e);exact .inr (.inl ((rl _ _).1 e));refine .inr (.inr ⟨alS.1 ?_,e'.imp (bv c 32).1 (bv c 35).1⟩);have:=hb.o.1;omega
    have h':=h.o;rw[<- hb2.o,if_pos hbad]at h';exact ae rfl h';rename_i hx;have hbad:¬(c=0\/c∈([34,59,60,62]:List UInt8)\/(b=[]/\(c=32\/c=35))):=λe=>hx (by rcases e with e|e|⟨e,e'⟩;exact .inl (.inl ((bv c 0).2 e));exact .inl (.inr ((rl _ _).2 e));refine .inr ⟨?_,e'.imp (bv c 32).2 (bv c 35).2⟩;have:=hb.o.1;rw[e]at this;simp at this;omega)
    have hc32:decide ((c.toNat:Int)=32)=decide (c=32):=by have:=bv c 32;simp only[decide_eq_decide];exact this
    rw[show u8s b++[AV.int IntKind.u8 (c.toNat:Int)]=u8s (b++[c])by simp[u8s],hc32];refine aoE aoz aoC ⟨i+1,m+1,b++[c],decide (c=32),rfl,hlt,aoz,hid ⟨by simp[hb.o.1],?_⟩,rfl,rfl⟩;rw[<- hb2.o,if_neg hbad]
 have hke:i=s.length:=aoz;subst hke;have g1:¬(s.length:Int)<(s.length:Int):=aoz;have h':=h.o;rw[<- hb.o.2,alY,om]at h';simp only[acM]at h';replace h':=hid h';have hds:(s.drop s.length).take (s.length-s.length)=[]:=aoA;refine wk ?_;exact ae rfl h'.o
def lN:List UInt8->Option (List UInt8×List UInt8)
 |[]=>none
 | c::s=>if c=61 then some ([],s) else match lN s with
   |none=>none
   |some (a,b)=>some (c::a,b)
theorem V3:∀s:List UInt8,(Lib.indexByte s 61=-1/\lN s=none)\/∃n:Nat,n<s.length/\Lib.indexByte s 61=(n:Int)/\lN s=some (s.take n,s.drop (n+1))
 |[]=>.inl ⟨rfl,rfl⟩
 | c::s=>by
   by_cases hc:c=61
   .subst hc;exact .inr ⟨0,aoA,by simp[Lib.indexByte],by simp[lN]⟩
   .have e1:(c == 61)=false:=(by simpa using hc);unfold Lib.indexByte;rw[e1];simp only[alx,if_false,lN,if_neg hc];rcases V3 s with⟨h1,h2⟩|⟨n,h0,h1,h2⟩
    .exact .inl ⟨by rw[h1];rfl,by rw[h2]⟩
    .refine .inr ⟨n+1,by simp;omega,?_,by rw[h2];simp⟩;rw[h1];have:((n:Int) == -1)=false:=aoA;rw[this];simp
def V2(s:List UInt8):AV:=match lN s with
 |some (a,b)=>.tup [.str a,.str b,.bool true]
 |none=>.tup [.str s,.str [],.bool false]
theorem ZV{a:List UInt8}{c:UInt8}{L:List Blk}{K:alc}(h:K (.int .i64 (Lib.indexByte a c)) L):alb 159 [.str a,.str [c]] L K :=
 da Tryz.func159 rfl aoB (λw0 S0 E w vs hR hv=>by simp only[VRL,VR]at hv;obtain⟨_,_,rfl,rfl,_,_,rfl,rfl,rfl⟩:=hv;exact(Tryz.stringslite_Index_one ⟨⟨a⟩⟩ c w).mono λe w' ⟨he,hw⟩=>⟨_,he,by simp[VR],by subst hw;exact tP.refl _⟩) h
theorem agF(hs:s.length<=100000)(h:K (V2 s) L):alb 207 [.str s,.str [61]] L K:=by have hl:[(61:UInt8)].length=1:=rfl;rcases V3 s with⟨h1,h2⟩|⟨n,h0,h1,h2⟩;simp only[V2,h2]at h;replace h:=hid h;clear h2;refine ac eU (by simp[cw]) ?_;simp only[cw,am];have kk1:=@hid _ @ZV;refine wk ?_;exact aa h.o;simp only[V2,h2]at h;replace h:=hid h;have g1:(0:Int)<=(n:Int):=aoz;have g2:=ak9 n aoz;have g3:(n:Int)<=(s.length:Int):=aoz;have g4:(n:Int)+1<=(s.length:Int):=aoz;have g5:(0:Int)<=(n:Int)+1:=aoz;have g6:((n:Int)+1).toNat=n+1:=aoz;have g7:(s.drop (n+1)).take (s.length-(n+1))=s.drop (n+1):=amb aoA;clear h2;refine ac eU (by simp[cw]) ?_;simp only[cw,am];have kk1:=@hid _ @ZV;refine wk ?_;exact aa h.o
theorem akF(hs:s.length<=100000)(h:K (V2 s) L):alb 174 [.str s,.str [61]] L K:=by
 rcases hc:lN s with _|⟨a,b⟩
 all_goals
  simp only[V2,hc]at h;replace h:=hid h
 refine ala yb ?_;refine agF hs ?_;simp only[V2,hc];refine aoH ?_;exact aa h.o;refine ala yb ?_;refine agF hs ?_;simp only[V2,hc];refine aoH ?_;exact aa h.o
abbrev Rdn:=List Ava
abbrev cC(r:Rdn):AV:=aaQ r none
def se:Nat->List Rdn->Rdn->List UInt8->List Rdn×Int
 |0,_,_,_=>([],4)
 | f+1,out,now,s=>if out.length=32\/now.length=8 then ([],9) else match lN s with
   |none=>([],4)
   | some (typ,rest)=>if eV typ=false then ([],4) else if lZ now typ=true then ([],21) else match fR [] false rest with
     |none=>([],4)
     | some (v,r2,ok)=>if ok=false then ([],4) else match r2 with
       |[]=>(out++[now++[(typ,v)]],0)
       |c::s'=>if c=44 then se f (out++[now++[(typ,v)]]) [] s' else se f out (now++[(typ,v)]) s'
def xN(s:List UInt8):List Rdn×Int:=if 4096<s.length then([],5)else if s=[]then([],0)else se (s.length+1) [] [] s
def aaY(p:List Rdn×Int):AV:=.tup [.sl (p.1.map cC) p.1.length none,.int .i64 p.2]
theorem aag:∀{s a b:List UInt8},lN s=some (a,b)->b.length<s.length/\a.length<=s.length
 |[],a,b,h=>by simp[lN]at h
 | c::s,a,b,h=>by
   simp only[lN]at h;split at h
   .simp only[alf,als]at h;obtain⟨rfl,rfl⟩:=h;simp
   .split at h
    .cases h
    .rename_i a' b' hc;simp only[alf,als]at h;obtain⟨rfl,rfl⟩:=h;have:=aag hc;simp;omega
theorem aeI:∀(n:Nat){s b:List UInt8}{bl:Bool}{v r:List UInt8}{ok:Bool},s.length<=n->fR b bl s=some (v,r,ok)->r.length<=s.length:=by
 intro n;induction n with
 | zero =>
   intro s b bl v r ok hn h;obtain rfl:=alS.1 (Nat.le_zero.1 hn);rw[om]at h;cases h;simp
 | succ n ih =>
   intro s b bl v r ok hn h;cases s with
   |nil=>rw[om]at h;cases h;simp
   | cons c s =>
     simp only[alp]at hn;by_cases hc:c=44\/c=43
     .rw[ri hc]at h;cases h;simp
     by_cases h92:c=92
     .subst h92;cases s with
      |nil=>rw[LX]at h;cases h
      | cons d s =>
        by_cases hd:d∈rz
        .rw[tR hd]at h;have:=ih (by simp at hn;omega) h;simp;omega
        .cases s with
         |nil=>rw[LW hd]at h;cases h
         | cons e s =>
           rw[G1 hd]at h;split at h
           .cases h
           .have:=ih (by simp at hn;omega) h;simp;omega
     .rw[nQ hc h92]at h;split at h
      .cases h
      .have:=ih aoz h;simp;omega
section
variable {P:Program}{N:Nat}{own:Nat->Nat->Nat}{Q:Exit->Tm->List Blk->Prop}{T:Tm}{L:List Blk}
theorem Y8{lc:cn}(t sz B:Nat){l:List AV}{n:Nat}{v:AV}(ht:ao T t=some v)(hB:B<L.length)(hv:(v=.sl [] 0 (some 0)/\l=[]/\n=0)\/∃i,B<i/\v=.gsl l n i sz/\L[i]?=some (.spare n sz))(h:∀i X,B<i->(L++X)[i]?=some (.spare n sz)->AW P N own lc Q ((t,.gsl l n i sz)::T) (L++X)):AW P N own lc Q T L:=by
 rcases hv with⟨rfl,rfl,rfl⟩|⟨i,hBi,rfl,hi⟩;exact bt t sz ht aoA (h L.length [.spare 0 sz] hB aoA);have h':=h i [] hBi (by simpa using hi);rw[alJ]at h';refine h'.weakT λt' v' e=>?_
 simp only[ao]at e;split at e;rename_i e1;subst e1;cases e;exact ht;exact e
end
variable {L:List Blk}{K:alc}
set_option maxHeartbeats 8000000
set_option maxRecDepth 100000
def ake(B:Nat)(r:Rdn)(v:AV)(L:List Blk):Prop:=(v=.sl [] 0 (some 0)/\aV r=[]/\r.length=0)\/∃i,B<i/\v=.gsl (aV r) r.length i 2/\L[i]?=some (.spare r.length 2)
theorem X9(r:Rdn)(t v:List UInt8):aV (r++[(t,v)])=aV r++[.str t,.str v]:=by simp[aV,sf]
theorem ju(r:Rdn):AV.frzL (aV r)=aV r:=by
 induction r with
 |nil=>rfl
 |cons a r ih=>simpa[aV,sf,AV.frzL,AV.frz]using ih
theorem gm{L0 X:List Blk}{e:Int}{K:alc}(h:K (aaY ([],e)) L0):Fin L0 (.tup [.sl [] 0 (some 0),.int .i64 e]) (L0++X) K:=aW (ae rfl h)
theorem tV(d:List Rdn):AV.frzL (d.map cC)=d.map cC:=by
 rw[AV.frzL_eq,alR];refine amV λr _=>?_
 simp only[Function.comp,AV.frz,ju]
theorem aei(q:Nat->Bool)(r:Rdn):AV.refsL q (aV r)=true:=by
 induction r with
 |nil=>rfl
 |cons a r ih=>simpa[aV,sf,AV.refsL,AV.refs]using ih
theorem Ma(q:Nat->Bool):∀d:List Rdn,AV.refsL q (d.map cC)=true
 |[]=>rfl
 |r::d=>by simp only[alr,AV.refsL,AV.refs,aei,Ma q d,alX]
theorem tS(h:eV s=true):s.length<=32:=by simp only[eV,alk,decide_eq_true_eq]at h;exact h.1.1.2
theorem ajT{r:Rdn}{i n:Nat}(hr:r.length=n)(hn:n<=8)(h1:∀a∈r,a.1.length<=32)(h2:typ.length<=4096)(h:K (.bool (lZ r typ)) L):
  alb 175 [.gsl (aV r) n i 2,.str typ] L K:=by
 subst hr;exact fI (by simpa only[AV.frzL,AV.frz,ju]using ai6 (cap:=none) aoz (λa ha=>by have:=h1 a ha;omega) aoz h)
theorem ah7(h:K (aaY (xN s)) L):alb 139 [.str s] L K:=by
 refine ac W2 (by simp[P7]) ?_;simp only[P7,am];by_cases h1:4096<s.length;have f1:(4096:Int)<(s.length:Int):=aoz;rw[xN,if_pos h1]at h;replace h:=hid h;clear h1;refine wk ?_;exact aW (aa h.o);have f1:¬(4096:Int)<(s.length:Int):=aoz;rw[xN,if_neg h1]at h;by_cases h2:s=[];rw[if_pos h2]at h;replace h:=hid h;refine wk ?_;exact aW (aa h.o);rw[if_neg h2]at h;replace h:=hid h;have hs:=hid (show s.length<=4096 by omega);clear h1;obtain⟨R,hR⟩:=ak7 (se (s.length+1) [] [] s);rw[hR]at h;refine wk ?_;refine bt (l:=[]) (n:=0) 4 1 rfl (alG 1).symm ?_;refine ah (λn T' L'=>∃(f m:Nat) (out:List Rdn) (now:Rdn) (u:List UInt8) (v:AV) (X:List Blk),f=n/\u.length<=4096/\m=out.length/\m<=32/\now.length<=8/\Hid (u.length<f/\se f out now u=R/\(∀a∈now,a.1.length<=32)/\ake L.length now v L')/\L'[L.length]?=some (.spare m 1)/\T'=[(5,v),(4,.gsl (out.map cC) m L.length 1),(0,.str u)]/\L'=L++X) aoD ⟨s.length+1,0,[],[],s,_,[.spare 0 1],rfl,hs.o,rfl,aoz,aoA,hid ⟨aoz,hR,aoA,.inl ⟨rfl,rfl,rfl⟩⟩,aoA,rfl,rfl⟩ ?_;clear h2;clear hs;rintro _ _ _ ⟨f,m,out,now,u,v,X,rfl,hu,hm,hm32,hn8,hI,ho,rfl,rfl⟩;obtain⟨hf,hp,ht,hv⟩:=hI.o;clear hI;clear hR;obtain⟨f,rfl⟩:∃g,f=g+1:=⟨f-1,aoz⟩;have hB:L.length<(L++X).length:=(ald.1 ho).1;refine Y8 5 2 L.length rfl hB hv λi Y hBi hi=>?_
 rw[alv]at hi⊢;have ho2:(L++(X++Y))[L.length]?=some (.spare m 1):=by rw[<- alv,alm hB];exact ho
 generalize X++Y=Z at hi ho2⊢;clear ho hB hv;have s5:∀A,(L++Z).set i A=L++Z.set (i-L.length) A:=λA=>al4 _ _ aoz
 have s4:∀(W:List Blk) A,(L++W).set L.length A=L++W.set 0 A:=λW A=>by rw[al4 _ _ (ale _),amz]
 have hz:i-L.length≠0:=aoz;have s54:∀A,(L++Z.set (i-L.length) A)[L.length]?=some (.spare m 1):=λA=>by rw[<- s5,alE aoz];exact ho2
 have s55:∀A,(L++Z.set (i-L.length) A)[i]?=some A:=λA=>by rw[<- s5,alC,if_pos rfl,if_pos (ald.1 hi).1]
 have hul:=hu;obtain⟨c,hc⟩:∃c:Nat,now.length=c:=⟨_,rfl⟩;rw[se]at hp;rw[hc]at hp hi hn8⊢;by_cases hlim:out.length=32\/c=8;rw[if_pos hlim]at hp;have h':=h.o;rw[<- hp]at h';replace h':=hid h';have k:(m:Int)=32\/(m:Int)≠32/\(c:Int)=8:=aoz;clear hp hlim;clear hm;rcases k with k|⟨k,k'⟩;refine wk ?_;exact gm h'.o;refine wk ?_;exact gm h'.o;rw[if_neg hlim]at hp;have k1:¬(m:Int)=32:=aoz;have k2:¬(c:Int)=8:=aoz;replace hm:=hid hm;clear hlim;replace hp:=hid hp;replace ht:=hid ht;refine wk ?_;refine akF aoz ?_;rcases hcut:lN u with _|⟨typ,rest⟩;rw[show V2 u=.tup [.str u,.str [],.bool false]by simp only[V2,hcut]];have h':=h.o;rw[<- hp.o,hcut]at h';simp only at h';replace h':=hid h';refine aoH ?_;exact gm h'.o;rw[show V2 u=.tup [.str typ,.str rest,.bool true]by simp only[V2,hcut]];have hp2:=hp.o;rw[hcut]at hp2;simp only at hp2;have hlen:=aag hcut;replace hp2:=hid hp2;clear hcut hp;refine sk ?_;cases hty:eV typ with
 | false =>
   have h':=h.o;rw[<- hp2.o,if_pos hty]at h';replace h':=hid h';have kk1:=@hid _ @Yi;refine wk ?_;exact gm h'.o
 | true =>
   have hp3:=hp2.o;rw[if_neg (by rw[hty];simp)]at hp3;replace hp3:=hid hp3;clear hp2;have kk1:=@hid _ @Yi;refine wk ?_;refine ajT hc hn8 ht.o aoz ?_;cases hha:lZ now typ with
   | true =>
     have h':=h.o;rw[<- hp3.o,if_pos hha]at h';replace h':=hid h';refine aoH ?_;exact gm h'.o
   | false =>
     have hp4:=hp3.o;rw[if_neg (by rw[hha];simp)]at hp4;replace hp4:=hid hp4;clear hp3;refine aoH ?_;refine ahu aoz ?_;rcases hvl:fR [] false rest with _|⟨w,r2,okk⟩
     .have h':=h.o;rw[<- hp4.o,hvl]at h';simp only at h';replace h':=hid h';simp only[acM];refine aoH ?_;exact gm h'.o
     .have hp5:=hp4.o;rw[hvl]at hp5;simp only at hp5;have hl2:=aeI _ (ale _) hvl;replace hp5:=hid hp5;clear hp4 hvl;simp only[acM];refine sk ?_;cases okk with
      | false =>
        have h':=h.o;rw[<- hp5.o,if_pos rfl]at h';replace h':=hid h';refine wk ?_;exact gm h'.o
      | true =>
        have hp6:=hp5.o;rw[if_neg aoA]at hp6;replace hp6:=hid hp6;clear hp5;have q1:(c+1)*32<=140737488355328:=aoz;have q2:c+1<=140737488355328:=aoz;have q3:(m+1)*24<=140737488355328:=aoz;have q4:m+1<=140737488355328:=aoz;have e1:aV now++[AV.str typ,AV.str w]=aV (now++[(typ,w)]):=(X9 _ _ _).symm;have e2:out.map cC++[AV.sl (AV.frzL (aV now++[AV.str typ,AV.str w])) (c+1) none]=(out++[now++[(typ,w)]]).map cC:=by rw[e1,ju,alM];simp[hc]
        have e3:(out++[now++[(typ,w)]]).length=m+1:=(by simp[hm.o]);have e4:(now++[(typ,w)]).length=c+1:=(by simp[hc]);have e5:∀a∈now++[(typ,w)],a.1.length<=32:=λa ha=>by
         rcases alh.1 ha with h|h
         .exact ht.o a h
         .rw[alB.1 h];exact tS hty
        replace e1:=hid e1;replace e2:=hid e2;replace e3:=hid e3;replace e4:=hid e4;replace e5:=hid e5;cases r2 with
        | nil =>
          have h':=h.o;rw[<- hp6.o]at h';simp only at h';replace h':=hid h';refine wk ?_;rw[e2.o];refine aW (ae ?_ ?_)
          .simp only[AV.frz,AV.frzL,tV,AV.refs,AV.refsL,Ma,alX]
          .simp only[AV.frz,AV.frzL,tV];have:=h'.o;simp only[aaY,e3.o]at this;exact this
        | cons x s' =>
          simp only at hp6;have q5:¬(x::s'=[]):=aoA;have q7:((s'.length:Int)+1).toNat-1=s'.length:=aoz;have q8:s'.take (((s'.length:Int)+1).toNat-1)=s':=(by rw[q7,alt]);simp only[alp]at hl2;clear q7;replace q8:=hid q8;by_cases hx:x=44
          .subst hx;refine wk ?_;rw[q8.o,e2.o];refine aoE ?_ (CutS (b:=?_)) ⟨f,m+1,out++[now++[(typ,w)]],[],s',.sl [] 0 (some 0),_,rfl,aoz,e3.o.symm,aoz,aoA,hid ⟨aoz,?_,aoA,.inl ⟨rfl,rfl,rfl⟩⟩,?_,rfl,rfl⟩
           .omega
           .have:=(ald.1 ho2).1;simp at this⊢;omega
           .rw[<- hp6.o,if_pos rfl]
           .have:=(ald.1 ho2).1;rw[<- s4,alC,if_pos rfl,if_pos (by simp at this⊢;omega)]
          .have q6:¬(x.toNat:Int)=44:=λe=>hx ((bv x 44).1 e)
           refine wk ?_;rw[q8.o,e1.o];refine aoE ?_ (CutS (b:=?_)) ⟨f,m,out,now++[(typ,w)],s',.gsl (aV (now++[(typ,w)])) (c+1) i 2,_,rfl,aoz,hm.o,hm32,by rw[e4.o];omega,hid ⟨aoz,?_,e5.o,.inr ⟨i,hBi,by rw[e4.o],by rw[e4.o];exact s55 _⟩⟩,s54 _,rfl,rfl⟩
           .omega
           .have:=(ald.1 ho2).1;simp at this⊢;omega
           .rw[<- hp6.o,if_neg hx]
def dP:Rdn->Rdn->Int
 |_,[]=>0
 |done,a::t=>if done.length=8 then 9 else if eV a.1=false then 20 else if lZ done a.1=true then 21 else dP (done++[a]) t
def l3:Nat->List Rdn->Int
 |_,[]=>0
 |i,r::t=>if i=32 then 9 else if r=[]then 2 else if dP [] r≠0 then dP [] r else l3 (i+1) t
theorem PD{d:List Rdn}{k:Nat}(h:k<d.length):(d.map cC).getD k .undef=cC (d.getD k []):=by simp[h]
theorem Tq{r:Rdn}{k:Nat}:(aV r).take (k*2)=aV (r.take k):=by
 induction r generalizing k with
 |nil=>simp[aV]
 | cons a r ih =>
   cases k with
   |zero=>simp[aV]
   | succ k =>
     have:=@ih k;simp only[aV]at this;rw[show(k+1)*2=k*2+1+1 by omega];simp[aV,sf,this]
theorem ajS{r:Rdn}{n:Nat}(hr:r.length=n)(hn:n<=8)(h1:∀a∈r,a.1.length<=32)(h2:typ.length<=32)(h:K (.bool (lZ r typ)) L):
  alb 175 [.sl (aV r) n cap,.str typ] L K:=by
 subst hr;exact ai6 aoz (λa ha=>by have:=h1 a ha;omega) aoz h
theorem aiC{d:List Rdn}(hn:d.length<=1100000)(hr:∀r∈d,r.length<=1100000)(h:K (.int .i64 (l3 0 d)) L):alb 212 [.sl (d.map cC) d.length cap] L K:=by
 replace h:=hid h;have hat:=hid (λk=>@PD d k);replace hr:=hid hr;refine ala W0 ?_;refine ah (λn T' L'=>∃(i:Nat) (X:List Blk),n=d.length-i/\i<=d.length/\i<=32/\Hid (l3 i (d.drop i)=l3 0 d)/\T'=[(9,.int .i64 (i:Int)),(8,.int .i64 d.length),(7,.sl (d.map cC) d.length cap)]/\L'=L++X) aoD ⟨0,[],rfl,ali _,aoz,hid rfl,rfl,aoA⟩ ?_;rintro _ _ _ ⟨i,X,rfl,hi,hi32,he,rfl,rfl⟩;by_cases hlt:i<d.length
 .have g1:(i:Int)<(d.length:Int):=aoz;have g2:=ak9 i aoz;have e2:=hat.o i hlt;have hrl:=hr.o (d.getD i []) (by rw[alD,alu hlt];exact al6 _);obtain⟨r,hri⟩:=ak7 (d.getD i []);have hdr:d.drop i=r::d.drop (i+1):=(by rw[al1 hlt,<- hri];simp[hlt]);rw[hri]at e2 hrl;have he2:=he.o;rw[hdr,l3]at he2;clear hdr hri;by_cases h32:i=32;rw[if_pos h32]at he2;have h':=h.o;rw[<- he2]at h';replace h':=hid h';have k1:(i:Int)=32:=aoz;have g1':(32:Int)<(d.length:Int):=aoz;clear h32 he2;refine wk ?_;exact ae rfl h'.o;rw[if_neg h32]at he2;have k1:¬(i:Int)=32:=aoz;by_cases hr0:r=[];rw[if_pos hr0]at he2;subst hr0;have h':=h.o;rw[<- he2]at h';replace h':=hid h';clear h32 he2;refine wk ?_;exact ae rfl h'.o;rw[if_neg hr0]at he2;have k2:¬(r.length:Int)=0:=(by have:=amv.2 hr0;omega);have herr:∀e:Int,dP [] r=e->e≠0->K (.int .i64 e) L:=λe a1 a2=>by rw[if_pos (by rw[a1];exact a2),a1]at he2;rw[he2];exact h.o
  replace herr:=hid herr;replace he2:=hid he2;clear h32;refine wk ?_;refine ah (λn T' L'=>∃(k:Nat) (Y:List Blk),n=r.length-k/\k<=r.length/\k<=8/\Hid (dP (r.take k) (r.drop k)=dP [] r/\∀a∈r.take k,a.1.length<=32)/\T'=[(23,.int .i64 (k:Int)),(22,.int .i64 r.length),(21,cC r),(4,cC r),(9,.int .i64 (i:Int)),(8,.int .i64 d.length),(7,.sl (d.map cC) d.length cap)]/\L'=L++(X++Y)) aoD ⟨0,[],rfl,ali _,aoz,hid ⟨rfl,aoA⟩,rfl,aoA⟩ ?_;rintro _ _ _ ⟨k,Y,rfl,hk,hk8,hrow,rfl,rfl⟩;by_cases hkl:k<r.length
  .have g3:(k:Int)<(r.length:Int):=aoz;have g4:=ak9 k aoz;have e3:=gf hkl;have e4:k*2+2<=(aV r).length:=(by rw[dM];omega);obtain⟨⟨ty,va⟩,ha⟩:∃a,r.getD k ([],[])=a:=⟨_,rfl⟩;have hdk:r.drop k=(ty,va)::r.drop (k+1):=(by rw[al1 hkl,<- ha];simp[hkl]);have htk:r.take (k+1)=r.take k++[(ty,va)]:=(by rw[aly hkl,<- ha];simp[hkl]);rw[ha]at e3;simp only[sf]at e3;obtain⟨hr1,hr2⟩:=hrow.o;rw[hdk,dP]at hr1;have hlk:(r.take k).length=k:=(by simp;omega);rw[hlk]at hr1;clear hdk ha hrow;have e5:(aV r).take (k*2)=aV (r.take k):=Tq;have g5:(k:Int)<=(r.length:Int):=aoz;replace hr1:=hid hr1;replace hr2:=hid hr2;replace htk:=hid htk;have e6:=hid hlk;clear hlk
   repeat' first
    |refine bu ?_
    | (first|refine bj aoB ?_|refine aJ aoB ?_|refine aM ?_|refine cN ?_|refine bE (fun _=>?_)|refine aC ?_|refine bo ?_)
      refine sm ?_
    | (first|refine a8 aoB ?_|refine ba ?_|refine aL ?_|refine bm ?_|refine bJ (aB ?_))
      refine sl ?_
    |exact bF
    |first|apply bG|apply be|apply bH|apply bf|apply bI|apply bg
    |refine aP ?_
    |refine aK ?_
    |first|refine aN rfl ?_|refine aO rfl ?_|refine ax rfl ?_ ?_|refine aT rfl (λ_=>?_) (λ_=>?_)|refine aS rfl (λ_=>?_) (λ_=>?_)
    |((first|refine au (λ_=>?_) (λ_=>?_)|refine aA (λ_=>?_) (λ_=>?_))<;>try refine sm ?_)
    |refine And.intro trivial ?_
    |refine And.intro aoz ?_
    |refine aY rfl (λ_=>?_) (λ_=>?_)
    |refine And.intro ?_ ?_
   rename_i h8;have h':=herr.o 9 (by rw[<- hr1.o,if_pos aoz]) (by decide);exact ae rfl h';rename_i h8;have hr3:=hr1.o;rw[if_neg aoz]at hr3;refine Yi ?_;cases hty:eV ty with
   | false =>
     have h':=hid (herr.o 20 (by rw[<- hr3,if_pos hty]) (by decide));clear hr3;refine aoH ?_;exact ae rfl h'.o
   | true =>
     rw[if_neg (by rw[hty];simp)]at hr3;replace hr3:=hid hr3;have htl:=tS hty;refine aoH ?_;refine aF (ajS e6.o aoz hr2.o htl ⟨rfl,rfl⟩) ?_;cases hha:lZ (r.take k) ty with
     | true =>
       have h':=hid (herr.o 21 (by rw[<- hr3.o,if_pos hha]) (by decide));refine aoH ?_;exact ae rfl h'.o
     | false =>
       have hr4:=hr3.o;rw[if_neg (by rw[hha];simp),<- htk.o]at hr4;replace hr4:=hid hr4;clear hr3;refine aoH ?_;refine aoE aoz aoD ⟨k+1,Y++[.cells [.str ty,.str va]],rfl,hkl,aoz,hid ⟨hr4.o,λa ha=>?_⟩,rfl,aoA⟩;rw[htk.o]at ha;rcases alh.1 ha with h|h
       .exact hr2.o a h
       .rw[alB.1 h];exact htl
  have hke:k=r.length:=aoz;subst hke;have g3:¬(r.length:Int)<(r.length:Int):=aoz;have hz:=hrow.o.1;rw[alY,dP]at hz;have he3:=he2.o;rw[<- hz]at he3;simp only[ne_eq,not_true_eq_false,if_false]at he3;replace he3:=hid he3;clear hz;refine wk ?_;exact aoE aoz aoD ⟨i+1,X++Y,rfl,hlt,aoz,hid he3.o,rfl,rfl⟩
 have hke:i=d.length:=aoz;subst hke;have g1:¬(d.length:Int)<(d.length:Int):=aoz;have h':=h.o;rw[<- he.o,alY,l3]at h';replace h':=hid h';refine wk ?_;exact ae rfl h'.o
end Go.Proofs.YtcmfcpjnhephaaaGreatDoor.Av
namespace Go.Proofs
open Go.Shelf
def Tryz.lays190_ren:Go.Shelf.Ren:=⟨λ|190=>214|125=>149|258=>235|128=>187|129=>188|302=>243|303=>244|304=>245|305=>246|306=>247|307=>248|308=>249|309=>250|310=>251|333=>254|329=>217|330=>218|334=>255|335=>256|336=>257|344=>260|n=>n,λ|31=>22|9=>9|3=>3|46=>176|0=>0|51=>76|53=>232|4=>4|183=>240|182=>239|131=>133|5=>5|218=>265|222=>125|228=>288|229=>156|n=>n,λ|n=>n⟩
theorem Tryz.lays190:Go.Proofs.Lays.n190 Tryz.prog Tryz.lays190_ren:={
 mixed:=by kernel_rfl
 f125:=Tryz.func149.trans (congrArg some (by kernel_rfl))
 f128:=Tryz.func187.trans (congrArg some (by kernel_rfl))
 f129:=Tryz.func188.trans (congrArg some (by kernel_rfl))
 f190:=Tryz.func214.trans (congrArg some (by kernel_rfl))
 f258:=Tryz.func235.trans (congrArg some (by kernel_rfl))
 f302:=Tryz.func243.trans (congrArg some (by kernel_rfl))
 f303:=Tryz.func244.trans (congrArg some (by kernel_rfl))
 f304:=Tryz.func245.trans (congrArg some (by kernel_rfl))
 f305:=Tryz.func246.trans (congrArg some (by kernel_rfl))
 f306:=Tryz.func247.trans (congrArg some (by kernel_rfl))
 f307:=Tryz.func248.trans (congrArg some (by kernel_rfl))
 f308:=Tryz.func249.trans (congrArg some (by kernel_rfl))
 f309:=Tryz.func250.trans (congrArg some (by kernel_rfl))
 f310:=Tryz.func251.trans (congrArg some (by kernel_rfl))
 f329:=Tryz.func217.trans (congrArg some (by kernel_rfl))
 f330:=Tryz.func218.trans (congrArg some (by kernel_rfl))
 f333:=Tryz.func254.trans (congrArg some (by kernel_rfl))
 f334:=Tryz.func255.trans (congrArg some (by kernel_rfl))
 f335:=Tryz.func256.trans (congrArg some (by kernel_rfl))
 f336:=Tryz.func257.trans (congrArg some (by kernel_rfl))
 f344:=Tryz.func260.trans (congrArg some (by kernel_rfl))
 t0:=Tryz.underlying0
 a0:=Tryz.isAgg0
 z0:=Tryz.sizeOf0
 v0:=Tryz.zeroValue0
 t3:=Tryz.underlying3
 a3:=Tryz.isAgg3
 z3:=Tryz.sizeOf3
 v3:=Tryz.zeroValue3
 t4:=Tryz.underlying4
 a4:=Tryz.isAgg4
 z4:=Tryz.sizeOf4
 v4:=Tryz.zeroValue4
 t5:=Tryz.underlying5
 a5:=Tryz.isAgg5
 z5:=Tryz.sizeOf5
 v5:=Tryz.zeroValue5
 t9:=Tryz.underlying9
 a9:=Tryz.isAgg9
 z9:=Tryz.sizeOf9
 v9:=Tryz.zeroValue9
 t31:=Tryz.underlying22
 a31:=Tryz.isAgg22
 z31:=Tryz.sizeOf22
 v31:=Tryz.zeroValue22
 t46:=Tryz.underlying176
 a46:=Tryz.isAgg176
 z46:=Tryz.sizeOf176
 v46:=Tryz.zeroValue176
 t51:=Tryz.underlying76
 a51:=Tryz.isAgg76
 z51:=Tryz.sizeOf76
 v51:=Tryz.zeroValue76
 t53:=Tryz.underlying232
 a53:=Tryz.isAgg232
 z53:=Tryz.sizeOf232
 v53:=Tryz.zeroValue232
 t131:=Tryz.underlying133
 a131:=Tryz.isAgg133
 z131:=Tryz.sizeOf133
 v131:=Tryz.zeroValue133
 t182:=Tryz.underlying239
 a182:=Tryz.isAgg239
 z182:=Tryz.sizeOf239
 v182:=Tryz.zeroValue239
 t183:=Tryz.underlying240
 a183:=Tryz.isAgg240
 z183:=Tryz.sizeOf240
 v183:=Tryz.zeroValue240
 t218:=Tryz.underlying265
 a218:=Tryz.isAgg265
 z218:=Tryz.sizeOf265
 v218:=Tryz.zeroValue265
 t222:=Tryz.underlying125
 a222:=Tryz.isAgg125
 z222:=Tryz.sizeOf125
 v222:=Tryz.zeroValue125
 t228:=Tryz.underlying288
 a228:=Tryz.isAgg288
 z228:=Tryz.sizeOf288
 v228:=Tryz.zeroValue288
 t229:=Tryz.underlying156
 a229:=Tryz.isAgg156
 z229:=Tryz.sizeOf156
 v229:=Tryz.zeroValue156}
open Go.Sort Go.RowKit in
theorem Tryz.slices_Sort_string(blk off cap:Nat)(ss:List (List UInt8))(w:World)(hH:Holds encStr w blk off ss.toArray)(hblk:blk<w.heap.size)(hsz:ss.length<4611686018427387904):
 Calls Tryz.prog 214 #[.slice (some ⟨blk,off,none⟩) ss.length cap] w λe w' =>
  e=.returned (.tuple #[])/\∃n os,w'=grow (putRow encStr (Sort.ahead w n) blk off (ss.mergeSort λx y=>decide (x<=y)).toArray) os:=Any.slices_Sort_string Tryz.lays190 blk off cap ss w hH hblk hsz
open Go.RowKit Go.Sort in
theorem Tryz.slices_Sort_string_none(p:Option Addr)(cap:Nat)(w:World):
 Calls Tryz.prog 214 #[.slice p 0 cap] w λe w'=>e=.returned (.tuple #[])/\w'=w:=Any.slices_Sort_string_none Tryz.lays190 p cap w
end Go.Proofs
namespace Go.Proofs.YtcmfcpjnhephaaaGreatDoor.Av
open Go Go.Sort
variable {L:List Blk}{K:alc}
abbrev cB(xs:List (List UInt8)):List AV:=xs.map AV.str
theorem VC{xs:List (List UInt8)}{sep:List UInt8}{cap:Option Nat}(hn:xs.length<=1100000)(hl:(Lib.join xs sep).length<=140737488355328)(h:K (.str (Lib.join xs sep)) L):
  alb 215 [.sl (cB xs) xs.length cap,.str sep] L K :=
 da Tryz.func215 rfl aoB (λw0 S0 E w vs hR hv=>by
  simp only[VRL,VR]at hv;obtain⟨_,_,rfl,⟨p,c,rfl,hle,_,hp⟩,_,_,rfl,rfl,rfl⟩:=hv;by_cases hx:xs=[];subst hx;exact(Tryz.strings_Join_none p c ⟨⟨sep⟩⟩ w).mono λe w' ⟨he,hw⟩=>⟨_,he,by simp[VR,Lib.join],by subst hw;exact tP.refl _⟩
  rcases hp with⟨e0,_⟩|⟨b,o,rfl,hcells⟩;exact absurd (alS.1 e0) hx;have hmem:∀(j:Nat) x,(xs.map λs=>(⟨⟨s⟩⟩:ByteArray))[j]?=some x->w.cell? ⟨b,o+j,none⟩=some (.string x):=λj x hj=>by rw[al3]at hj;rcases hxs:xs[j]? with _|s;rw[hxs]at hj;cases hj;rw[hxs]at hj;simp only[alz,alf]at hj;subst hj;obtain⟨v,g1,g2⟩:=hcells.get (i:=j) (a:=.str s) (by rw[al3,hxs];rfl);simp only[VR]at g2;subst g2;exact hR.mem _ _ _ g1
  have hb:b<w.heap.size:=by have hx0:0<xs.length:=amv.2 hx;have h0:=hmem 0 ⟨⟨xs[0]⟩⟩ (by rw[al3,alu hx0];rfl);rcases alA b w.heap.size with g|g;exact g;simp[World.cell?,anH g]at h0
  have hmm:(xs.map λs=>(⟨⟨s⟩⟩:ByteArray)).map (·.data.toList)=xs:=(by rw[alR];exact List.map_id'' (λ_=>rfl) xs);have key:=Tryz.strings_Join b o c (xs.map λs=>(⟨⟨s⟩⟩:ByteArray)) ⟨⟨sep⟩⟩ w hmem hb (by rw[alU];omega) (by rw[alU];exact hle) (by rw[hmm];exact hl);rw[hmm]at key;simp only[alU]at key;exact key.mono λe w' ⟨he,hbel⟩=>⟨_,he,by simp[VR],⟨λb hb=>hbel.block b hb,hbel.size,hbel.os,hbel.tape,hbel.output⟩⟩) h
theorem Rel.putStrs{w0:World}{S0:SB}{E:Env}{L:List Blk}{w:World}(h:Rel w0 S0 E L w){i:Nat}{xs d:List (List UInt8)}{rest:List AV}{c:Loc}(hi:L[i]?=some (.cells (cB xs++rest)))(hc:E.loc i=some c)(hd:d.length=xs.length)(q:Nat):
  Rel w0 S0 E (L.set i (.cells (cB d++rest))) (putRow encStr (Sort.ahead w q) c.blk c.off d.toArray):=by
 obtain⟨c',cs,ty,fr,h1,h2,h3,h4,h5,h6⟩:=h.blk i _ hi;rw[hc]at h1;cases h1;have hlt:c.blk<w.heap.size:=(ami.1 h2).1;have e1:(putRow encStr (Sort.ahead w q) c.blk c.off d.toArray).heap[c.blk]?=some (.cells (putCells encStr c.off d.toArray cs) ty fr):=by simp[putRow,mapBlock,Sort.ahead,anf,h2,onCells]
 have hlen:(cB xs++rest).length=xs.length+rest.length:=aoA;refine h.turn (k':=.cells (cB d++rest)) hi rfl hc aoA (λb hb=>?_) rfl rfl rfl ⟨c,_,ty,fr,hc,e1,by simp[putCells,h3],?_,λj a ha=>?_,h6⟩ (λ_ _ e=>by cases e);have:c.blk≠b:=λe=>hb e.symm
 simp[putRow,mapBlock,Sort.ahead,anf,this];rw[hlen]at h4;simp only[alw,alU,hd];omega;rw[hlen]at h4;have hj:j<d.length+rest.length:=by have:=(ald.1 ha).1;simpa using this
 have hcs:c.off+j<cs.size:=aoz;have ep:(putCells encStr c.off d.toArray cs)[c.off+j]?=some (if c.off<=c.off+j/\c.off+j<c.off+d.length then encStr (d.toArray[c.off+j-c.off]!)else cs[c.off+j]):=by simp[putCells,hcs]
 by_cases hjd:j<d.length;have ea:a=.str d[j]:=by rw[alm (by simpa using hjd)]at ha;simpa[hjd]using ha.symm
 subst ea;refine⟨_,ep,?_⟩;rw[if_pos aoz,show c.off+j-c.off=j by omega];simp[VR,encStr,hjd];have ha':(cB xs++rest)[j]?=some a:=by rw[alH (by simp;omega)]at ha⊢;simpa[hd]using ha
 obtain⟨v,g1,g2⟩:=h5 j a ha';refine⟨v,?_,g2⟩;rw[ep,if_neg aoz,<- g1];simp[hcs]
theorem U9{w0:World}{S0:SB}{E:Env}{L:List Blk}{w:World}(h:Rel w0 S0 E L w){i:Nat}{xs:List (List UInt8)}{rest:List AV}{c:Loc}(hi:L[i]?=some (.cells (cB xs++rest)))(hc:E.loc i=some c):
  Holds encStr w c.blk c.off xs.toArray/\c.blk<w.heap.size:=by
 obtain⟨c',cs,ty,fr,h1,h2,h3,h4,h5,h6⟩:=h.blk i _ hi;rw[hc]at h1;cases h1;refine⟨λj hj=>?_,(ami.1 h2).1⟩;have hj':j<xs.length:=by simpa using hj
 obtain⟨v,g1,g2⟩:=h5 j (.str xs[j]) (by rw[alm (by simpa using hj')];simp[hj']);simp only[VR]at g2;subst g2;refine⟨by simp[World.cell?,encStr,h2,g1,hj'],?_⟩;have h7:=h6 (c.off+j) aoz (by simp only[alw,alU]at h4;omega);simp only[World.frozen?,h2];obtain⟨f1,f2⟩:=fr;simp only at h7;simp only[anw,decide_eq_false_iff_not];omega
theorem GJ{P:Program}{f:FuncId}{fn:Func}(hf:P.funcs[f]?=some fn)(hb:fn.body.isSome=true)(hn:(fn.name == "runtime.NumGoroutine")=false)(args:Array Value)(w:World):(callFunc f args).run P w=.ok (.enter f args) w:=by
 simp only[callFunc,alo,run_program,alq,hf,hn];cases h:fn.body with
 |none=>simp[h]at hb
 |some c=>simp
def dO(xs:List (List UInt8)):List (List UInt8):=xs.mergeSort λx y=>decide (x<=y)
theorem ahB{xs:List (List UInt8)}{i:Nat}{cp:Option Nat}{rest:List AV}(hx:xs≠[])(hn:xs.length<=1100000)(hL:L[i]?=some (.cells (cB xs++rest)))(h:K (.tup []) (L.set i (.cells (cB (dO xs)++rest)))):
  alb 214 [.lsl i 0 xs.length cp 1] L K:=λw0 S0 E w vs hR hv=>by
 simp only[VRL,VR]at hv;obtain⟨_,_,rfl,⟨c,rc,d,hc,rfl,hd,hle,_,_⟩,rfl⟩:=hv;have hpos:0<xs.length:=amv.2 hx;have hd':d=c.off:=by have:=hd aoz;omega
 subst hd';obtain⟨hH,hlt⟩:=U9 hR hL hc;refine .inl ⟨GJ Tryz.func214 rfl aoB _ _,(Tryz.slices_Sort_string c.blk c.off rc xs w hH hlt aoz).mono ?_⟩;rintro e w' ⟨rfl,q,os,rfl⟩;have r1:=hR.putStrs hL hc (d:=dO xs) (by simp[dO]) q;refine⟨E,_,_,_,rfl,.refl E,h,by simp[VR,VRL],r1.grown ?_⟩;exact⟨λb hb=>an5 hb,by simp[grow],rfl,rfl,rfl⟩
theorem aeU{cap:Option Nat}(h:K (.tup []) L):alb 214 [.sl [] 0 cap] L K :=
 da Tryz.func214 rfl aoB (λw0 S0 E w vs hR hv=>by simp only[VRL,VR]at hv;obtain⟨_,_,rfl,⟨p,c,rfl,_⟩,rfl⟩:=hv;exact(Tryz.slices_Sort_string_none p c w).mono λe w' ⟨he,hw⟩=>⟨_,he,by simp[VR,VRL],by subst hw;exact tP.refl _⟩) h
theorem aih{xs:List (List UInt8)}{sep:List UInt8}{i:Nat}{cp:Option Nat}(hx:xs≠[])(hn:xs.length<=1100000)(hl:(Lib.join xs sep).length<=140737488355328)(hL:L[i]?=some (.cells (cB xs)))(h:K (.str (Lib.join xs sep)) L):
  alb 215 [.lsl i 0 xs.length cp 1,.str sep] L K:=λw0 S0 E w vs hR hv=>by
 simp only[VRL,VR]at hv;obtain⟨_,_,rfl,⟨c,rc,d,hc,rfl,hd,hle,_,_⟩,_,_,rfl,rfl,rfl⟩:=hv;have hpos:0<xs.length:=amv.2 hx;have hd':d=c.off:=by have:=hd aoz;omega
 subst hd';obtain⟨hH,hlt⟩:=U9 (rest:=[]) hR (by simpa using hL) hc;have hmem:∀(j:Nat) x,(xs.map λs=>(⟨⟨s⟩⟩:ByteArray))[j]?=some x->w.cell? ⟨c.blk,c.off+j,none⟩=some (.string x):=λj x hj=>by have hjl:j<xs.length:=(by have:=(ald.1 hj).1;simpa using this);have e:=(hH j (by simpa using hjl)).1;rw[al3,alu hjl]at hj;simp only[alz,alf]at hj;subst hj;rw[e];simp[encStr,hjl]
 have hmm:(xs.map λs=>(⟨⟨s⟩⟩:ByteArray)).map (·.data.toList)=xs:=by rw[alR];exact List.map_id'' (λ_=>rfl) xs
 have key:=Tryz.strings_Join c.blk c.off rc (xs.map λs=>(⟨⟨s⟩⟩:ByteArray)) ⟨⟨sep⟩⟩ w hmem hlt (by rw[alU];omega) (by rw[alU];exact hle) (by rw[hmm];exact hl);rw[hmm]at key;simp only[alU]at key;refine .inl ⟨GJ Tryz.func215 rfl aoB _ _,key.mono ?_⟩;rintro e w' ⟨rfl,hbel⟩;exact⟨E,_,_,_,rfl,.refl E,h,by simp[VR],hR.grown ⟨λb hb=>hbel.block b hb,hbel.size,hbel.os,hbel.tape,hbel.output⟩⟩
end Go.Proofs.YtcmfcpjnhephaaaGreatDoor.Av
set_option maxRecDepth 100000
namespace Go.Proofs.YtcmfcpjnhephaaaGreatDoor.Av
open Go
def TD:LSO:=[Au 4]
def TC:LSO:=[Ah 5]
def TB:LSO:=[Aa 11 0,Ak 12 11,Ad 13 0]
def TA:LSO:=[Al 14 13 12]
def Tz:LSO:=[An 15 1 11 13,Ab 16 1 15,Aa 7 16]
def Ty:LSO:=[Ah 8]
def Tx:LSO:=[Aa 17 7,Ak 18 17,Ad 19 0]
def Tw:LSO:=[Al 20 19 18]
def Tv:LSO:=[An 21 2 17 19,Ap 22 2 21,Bh 10,Ai 2 10 22]
def Tu:LSO:=[Aa 23 1]
def Re:List (aj×Kd):=
 [A7 24 0 10,A0 25 1 24 0 0,Bb 26 38 25 0 0,A7 27 1 10,A0 28 1 27 0 0]
def OS:List aj :=
 [⟨(some 29),(.call 95 [(tm 28)]),none⟩,⟨(some 30),(.build [(.str []),(.str [])] [(0,(1,(tm 26))),(1,(1,(tm 29)))]),none⟩,⟨none,(.store 2 (tm 10) (tm 30)),none⟩]
def Rc:List (aj×Kd):=
 [A8 31 8,A7 32 0 10,A0 33 1 32 0 0,od 34 (.bin .add (tm 33) (.av (.str [61]))) .pure,A7 35 1 10,A0 36 1 35 0 0,Bb 37 213 36 0 0,od 38 (.bin .add (tm 34) (tm 37)) .pure,
 od 39 (.bslice false 1 1 [(.str [])] [(0,(1,(tm 38)))]) (.read 0 0)]
def OR:List aj :=
 [⟨(some 40),(.app 2 1 16 [(.str [])] (tm 31) (tm 39)),none⟩,⟨(some 8),(.mv (tm 40)),none⟩]
def Rb:LSO:=[Af 41 19 1,Aa 19 41]
def Ra:LSO:=[Aa 42 1]
def Q9:LSO:=[Aa 43 8,Am 44 214 43]
def Q8:LSO:=[Aa 45 5,Aa 46 8,o1 47 (.call 215 [(tm 46),(.av (.str [43]))]),Bo 48 47,Bi 49 45 48,Aa 5 49]
def Q7:LSO:=[Af 50 13 1,Aa 13 50]
def Q6:LSO:=[Aa 51 5,o1 52 (.call 215 [(tm 51),(.av (.str [44]))]),Aa 4 52]
def yf:aG:=⟨53,(aos TD [] (aos TC [] (.seq (aos TB [] (aov 0 (aos TA [] (.seq (aow 14 0) (.seq (.block 1 (aos Tz Cv (aos Ty [] (.seq (aos Tx [] (aov 2 (aos Tw [] (.seq (aow 20 2) (.seq (.block 3 (aos Tv Cv (.seq (aos Tu [] (aot 23 (.dregM Re OS C7) .skip)) (.dregM Rc OR CP)))) (.sreg Rb Cu)))))) (.seq (aos Ra [] (aot 42 (.sreg Q9 C3) .skip)) (.sreg Q8 Cy)))))) (.sreg Q7 Cu)))))) (aos Q6 Cv .ret)))),[(.tmp 4)]⟩
attribute [push_cast] TD TC TB TA Tz Ty Tx Tw Tv Tu Re OS Rc OR Rb Ra Q9 Q8 Q7 Q6
theorem Sf:aI Tryz.prog (λr i=>if r=11/\i=9 then 2 else 1) 178=some yf.raw:=aoB
attribute [push_cast] yf
variable {L:List Blk}{K:alc}
set_option maxHeartbeats 8000000
set_option maxRecDepth 100000
def avT(key:Bool)(a:Ava):List UInt8:=if key=true then af a.1++[61]++eH (bL a.2)else a.1++[61]++eH a.2
def dw(key:Bool)(r:Rdn):List UInt8:=Lib.join (if key=true then dO (r.map (avT key))else r.map (avT key)) [43]
def ee(key:Bool)(d:List Rdn):List UInt8:=Lib.join (d.map (dw key)) [44]
theorem Qc(n:Nat):∀(s:List UInt8) (i:Nat),(wrL n i s).length<=3*s.length
 |[],_=>by simp[wrL]
 |c::s,i=>by have h1:=Qc n s (i+1);have h2:=aht i n c;simp only[wrL,alw,alp];omega
theorem acW(l:List (List UInt8)):AV.frzL (cB l)=cB l:=by rw[AV.frzL_eq,alR];rfl
theorem aci{xs:List (List UInt8)}{sep:List UInt8}{i n:Nat}(hx:n=xs.length)(hn:xs.length<=1100000)(hl:(Lib.join xs sep).length<=140737488355328)(h:K (.str (Lib.join xs sep)) L):
  alb 215 [.gsl (cB xs) n i 1,.str sep] L K:=by
 subst hx;exact fI (by simpa only[AV.frzL,AV.frz,acW]using VC (cap:=none) hn hl h)
theorem ZN{xs:List (List UInt8)}{sep:List UInt8}{i n:Nat}{cp:Option Nat}(he:n=xs.length)(hx:xs≠[])(hn:xs.length<=1100000)(hl:(Lib.join xs sep).length<=140737488355328)(hL:L[i]?=some (.cells (cB xs)))(h:K (.str (Lib.join xs sep)) L):
  alb 215 [.lsl i 0 n cp 1,.str sep] L K:=by
 subst he;exact aih hx hn hl hL h
theorem ahy{d:List Rdn}{cap:Option Nat}(hn:d.length<=1000)(hr:∀r∈d,r.length<=1000/\∀a∈r,a.1.length<=10000/\a.2.length<=10000)(hj1:∀r∈d,(dw false r).length<=140737488355328)(hj2:(ee false d).length<=140737488355328)(h:K (.str (ee false d)) L):
  alb 178 [.sl (d.map cC) d.length cap,.bool false] L K:=by
 replace h:=hid h;have hat:=hid (λk=>@PD d k);replace hr:=hid hr;replace hj1:=hid hj1;have s4:∀(W:List Blk) (j:Nat) (A:Blk),L.length<=j->(L++W).set j A=L++W.set (j-L.length) A:=λW j A hj=>al4 _ _ hj
 replace s4:=hid s4;refine ala Sf ?_;refine bt (l:=[]) (n:=0) 5 1 rfl (alG 1).symm ?_;refine ah (λn T' L'=>∃(i:Nat) (all:List (List UInt8)) (Z:List Blk),n=d.length-i/\i<=d.length/\Hid (all=(d.take i).map (dw false))/\L'[L.length]?=some (.spare i 1)/\T'=[(13,.int .i64 (i:Int)),(12,.int .i64 d.length),(11,.sl (d.map cC) d.length cap),(5,.gsl (cB all) i L.length 1),(1,.bool false)]/\L'=L++Z) aoD ⟨0,[],[.spare 0 1],rfl,ali _,hid rfl,aoA,rfl,rfl⟩ ?_;rintro _ _ _ ⟨i,all,X,rfl,hi,hall,ho,rfl,rfl⟩;by_cases hlt:i<d.length
 .have g1:(i:Int)<(d.length:Int):=aoz;have g2:=ak9 i aoz;have e2:=hat.o i hlt;have hrm:d.getD i []∈d:=(by rw[alD,alu hlt];exact al6 _);have hrl:=hr.o _ hrm;have hjr:=hj1.o _ hrm;obtain⟨r,hri⟩:=ak7 (d.getD i []);have htk:d.take (i+1)=d.take i++[r]:=(by rw[aly hlt,<- hri];simp[hlt]);rw[hri]at e2 hrl hjr;clear hri hrm;obtain⟨hrl1,hrl2⟩:=hrl;replace hrl2:=hid hrl2;replace htk:=hid htk;have hX:=(ald.1 ho).1;rw[alw]at hX;replace hX:=hid hX;refine wk ?_;refine ah (λn T' L'=>∃(k:Nat) (v:AV) (Z:List Blk),n=r.length-k/\k<=r.length/\X.length<=Z.length/\L'[L.length]?=some (.spare i 1)/\Hid ((v=.sl [] 0 (some 0)/\k=0)\/∃j,(0<k/\L.length<j)/\v=.lsl j 0 k none 1/\L'[j]?=some (.cells (cB ((r.take k).map (avT false)))))/\T'=[(19,.int .i64 (k:Int)),(18,.int .i64 r.length),(17,cC r),(8,v),(13,.int .i64 (i:Int)),(12,.int .i64 d.length),(11,.sl (d.map cC) d.length cap),(5,.gsl (cB all) i L.length 1),(1,.bool false)]/\L'=L++Z) aoD ⟨0,_,X,rfl,ali _,ale _,ho,hid (.inl ⟨rfl,rfl⟩),rfl,rfl⟩ ?_;rintro _ _ _ ⟨k,v,Z,rfl,hk,hXZ,ho2,hv,rfl,rfl⟩;replace hXZ:=hid hXZ;by_cases hkl:k<r.length
  .have g3:(k:Int)<(r.length:Int):=aoz;have g4:=ak9 k aoz;have e3:=gf hkl;have e4:k*2+2<=(aV r).length:=(by rw[dM];omega);obtain⟨⟨ty,va⟩,ha⟩:∃a,r.getD k ([],[])=a:=⟨_,rfl⟩;have ham:(ty,va)∈r:=(by rw[<- ha];simp[hkl]);have htk2:(r.take (k+1)).map (avT false)=(r.take k).map (avT false)++[ty++61::eH va]:=by rw[aly hkl];have:r[k]=(ty,va):=(by rw[<- ha];simp[hkl]);rw[this];simp[avT]
   rw[ha]at e3;simp only[sf]at e3;have hva:=hrl2.o _ ham;simp only at hva;have hva':va.length<=100000:=aoz;have hwl:=Qc va.length va 0;have b1:(ty.length:Int)+1<=9223372036854775807:=aoz;have b2:(ty.length:Int)+1+((eH va).length:Int)<=9223372036854775807:=(by unfold eH;omega);clear hwl ha ham hva;replace htk2:=hid htk2;have q1:(k+1)*16<=140737488355328:=aoz;have q2:k+1<=140737488355328:=aoz;have q3:k<=140737488355327:=aoz;rcases hv.o with⟨rfl,hk0⟩|⟨j,⟨hk1,hBj⟩,rfl,hj⟩;replace hk0:=hid hk0;have kk1:=@aoG _ _ _ _ (fF hva');refine wk ?_;refine aoE aoz (CutL (b:=?_)) ⟨k+1,.lsl (L.length+(Z.length+1)) 0 1 none 1,_,rfl,hkl,?_,?_,hid (.inr ⟨L.length+(Z.length+1),⟨aoz,aoz⟩,by rw[hk0.o],?_⟩),rfl,rfl⟩;have:=hXZ.o;simp;omega;have:=hXZ.o;simp;omega;rw[<- alv,alm (ald.1 ho2).1];exact ho2;rw[oi,oi,htk2.o,hk0.o];rfl
   .obtain⟨cur,hcur⟩:=ak7 ((r.take k).map (avT false));have hcl:cur.length=k:=(by rw[<- hcur];simp;omega);rw[hcur]at hj;have f1:(L++(Z++[Blk.cells [.str ty,.str va]]))[j]?=some (.cells (cB cur)):=by rw[<- alv,alm (ald.1 hj).1];exact hj
    have f2:(L++(Z++[Blk.cells [.str ty,.str va]])).set j .dead=L++(Z++[Blk.cells [.str ty,.str va]]).set (j-L.length) .dead:=s4.o _ _ _ aoz;have f3:k<=(cB cur).length:=(by simp[hcl]);have f4:(cB cur).take k=cB cur:=amb (by simp[hcl]);replace hcur:=hid hcur;replace hcl:=hid hcl;have hjL:=hid (show j≠L.length by omega);have f2':=hid f2
    repeat' first
     |refine bu ?_
     | (first|refine bj aoB ?_|refine aJ aoB ?_|refine aM ?_|refine cN ?_|refine bE (fun _=>?_)|refine aC ?_|refine bo ?_|refine fF hva' ?_|refine bh (fF hva' ⟨rfl,rfl⟩) (fF hva' ⟨rfl,rfl⟩) ?_|refine aF (fF hva' ⟨rfl,rfl⟩) ?_)
       refine sm ?_
     | (first|refine a8 aoB ?_|refine ba ?_|refine aL ?_|refine bm ?_|refine bJ (aB ?_))
       refine sl ?_
     |exact bF
     |first|apply bG|apply be|apply bH|apply bf|apply bI|apply bg
     |refine aP ?_
     |refine aK ?_
     |first|refine aN rfl ?_|refine aO rfl ?_|refine ax rfl ?_ ?_|refine aT rfl (λ_=>?_) (λ_=>?_)|refine aS rfl (λ_=>?_) (λ_=>?_)
     |((first|refine au (λ_=>?_) (λ_=>?_)|refine aA (λ_=>?_) (λ_=>?_))<;>try refine sm ?_)
     |refine And.intro trivial ?_
     |refine And.intro aoz ?_
     |refine aY rfl (λ_=>?_) (λ_=>?_)
     |refine And.intro ?_ ?_
    rw[hcl.o];exact ale _;have hA:((Z++[Blk.cells [.str ty,.str va]]).set (j-L.length) .dead).length=Z.length+1:=aoA;refine aoE aoz (CutL (b:=?_)) ⟨k+1,.lsl (L.length+(Z.length+1)) 0 (k+1) none 1,_,rfl,hkl,?_,?_,hid (.inr ⟨L.length+(Z.length+1),⟨aoz,aoz⟩,rfl,?_⟩),rfl,rfl⟩;have:=hXZ.o;simp;omega;have:=hXZ.o;simp;omega;rw[<- alv,<- f2'.o,alm aoA,alE hjL.o,<- alv,alm (ald.1 ho2).1];exact ho2;rw[oi,<- hA,re,htk2.o,hcur.o];simp
  have hke:k=r.length:=aoz;subst hke;have g3:¬(r.length:Int)<(r.length:Int):=aoz;have q4:(i+1)*16<=140737488355328:=aoz;have q5:i+1<=140737488355328:=aoz;have hrow:dw false r=Lib.join (r.map (avT false)) [43]:=(by simp[dw]);rw[hrow]at hjr;have htk3:(d.take (i+1)).map (dw false)=all++[Lib.join (r.map (avT false)) [43]]:=by rw[htk.o,alM,<- hall.o,<- hrow];rfl
  have f0:(L++Z).set L.length (.spare (i+1) 1)=L++Z.set 0 (.spare (i+1) 1):=(by rw[s4.o _ _ _ (ale _),amz]);have f1:(L++Z.set 0 (.spare (i+1) 1))[L.length]?=some (.spare (i+1) 1):=by rw[<- f0,alC,if_pos rfl,if_pos (ald.1 ho2).1]
  replace hrow:=hid hrow;replace htk3:=hid htk3;replace f1:=hid f1;rcases hv.o with⟨rfl,hk0⟩|⟨j,⟨hk1,hBj⟩,rfl,hj⟩;have hr0:r=[]:=alS.1 hk0;replace hk0:=hid hk0;refine wk ?_;refine VC (xs:=[]) aoA (by simp[Lib.join]) ?_;refine aoH ?_;rw[show cB all++[AV.str (Lib.join [] [43])]=cB (all++[Lib.join [] [43]])by simp];exact aoE aoz (CutL (b:=by have:=hX.o;have h0:=(ald.1 ho2).1;simp at h0⊢;omega)) ⟨i+1,all++[Lib.join [] [43]],_,rfl,hlt,hid (by rw[htk3.o,hr0];rfl),f1.o,rfl,rfl⟩;rw[alt]at hj;by_cases hr0:r=[];rw[hr0]at hk1;cases hk1;refine wk ?_;refine ZN (xs:=r.map (avT false)) aoA (by simpa using hr0) (by simp;omega) hjr (by simpa using hj) ?_;refine aoH ?_;rw[show cB all++[AV.str (Lib.join (r.map (avT false)) [43])]=cB (all++[Lib.join (r.map (avT false)) [43]])by simp];exact aoE aoz (CutL (b:=by have h0:=(ald.1 ho2).1;simp at h0⊢;omega)) ⟨i+1,all++[Lib.join (r.map (avT false)) [43]],_,rfl,hlt,hid htk3.o.symm,f1.o,rfl,rfl⟩
 have hke:i=d.length:=aoz;subst hke;have g1:¬(d.length:Int)<(d.length:Int):=aoz;have e:=hall.o;rw[alt]at e;have h':=h.o;simp only[ee]at h' hj2;replace h':=hid h';clear hall;subst e;refine wk ?_;refine aci aoA (by simp;omega) hj2 ?_;refine aoH ?_;exact ae rfl h'.o
theorem aaR(s:List UInt8):(bR s).length<=s.length:=by have:=rk s s.length;rwa[alt]at this
theorem xM(s:List UInt8):(bL s).length<=s.length:=by
 have h1:=aaR (af s);have h2:(af s).length=s.length:=by simp[af]
 unfold bL du;split;simp only[List.length_dropLast];omega;omega
theorem aeT{xs:List (List UInt8)}{i n:Nat}{cp:Option Nat}(he:n=xs.length)(hx:xs≠[])(hn:xs.length<=1100000)(hL:L[i]?=some (.cells (cB xs)))(h:K (.tup []) (L.set i (.cells (cB (dO xs))))):
  alb 214 [.lsl i 0 n cp 1] L K:=by
 subst he;exact ahB (rest:=[]) hx hn (by simpa using hL) (by simpa using h)
theorem Xf(xs:List (List UInt8)):(dO xs).length=xs.length:=by simp[dO]
theorem ahx{d:List Rdn}{cap:Option Nat}(hn:d.length<=1000)(hr:∀r∈d,r.length<=1000/\∀a∈r,a.1.length<=10000/\a.2.length<=10000)(hj1:∀r∈d,(dw true r).length<=140737488355328)(hj2:(ee true d).length<=140737488355328)(h:K (.str (ee true d)) L):
  alb 178 [.sl (d.map cC) d.length cap,.bool true] L K:=by
 replace h:=hid h;have hat:=hid (λk=>@PD d k);replace hr:=hid hr;replace hj1:=hid hj1;have s4:∀(W:List Blk) (j:Nat) (A:Blk),L.length<=j->(L++W).set j A=L++W.set (j-L.length) A:=λW j A hj=>al4 _ _ hj
 replace s4:=hid s4;refine ala Sf ?_;refine bt (l:=[]) (n:=0) 5 1 rfl (alG 1).symm ?_;refine ah (λn T' L'=>∃(i:Nat) (all:List (List UInt8)) (Z:List Blk),n=d.length-i/\i<=d.length/\Hid (all=(d.take i).map (dw true))/\L'[L.length]?=some (.spare i 1)/\T'=[(13,.int .i64 (i:Int)),(12,.int .i64 d.length),(11,.sl (d.map cC) d.length cap),(5,.gsl (cB all) i L.length 1),(1,.bool true)]/\L'=L++Z) aoD ⟨0,[],[.spare 0 1],rfl,ali _,hid rfl,aoA,rfl,rfl⟩ ?_;rintro _ _ _ ⟨i,all,X,rfl,hi,hall,ho,rfl,rfl⟩;by_cases hlt:i<d.length
 .have g1:(i:Int)<(d.length:Int):=aoz;have g2:=ak9 i aoz;have e2:=hat.o i hlt;have hrm:d.getD i []∈d:=(by rw[alD,alu hlt];exact al6 _);have hrl:=hr.o _ hrm;have hjr:=hj1.o _ hrm;obtain⟨r,hri⟩:=ak7 (d.getD i []);have htk:d.take (i+1)=d.take i++[r]:=(by rw[aly hlt,<- hri];simp[hlt]);rw[hri]at e2 hrl hjr;clear hri hrm;obtain⟨hrl1,hrl2⟩:=hrl;replace hrl2:=hid hrl2;replace htk:=hid htk;have hX:=(ald.1 ho).1;rw[alw]at hX;replace hX:=hid hX;refine wk ?_;refine ah (λn T' L'=>∃(k:Nat) (v:AV) (Z:List Blk),n=r.length-k/\k<=r.length/\X.length<=Z.length/\L'[L.length]?=some (.spare i 1)/\Hid ((v=.sl [] 0 (some 0)/\k=0)\/∃j,(0<k/\L.length<j)/\v=.lsl j 0 k none 1/\L'[j]?=some (.cells (cB ((r.take k).map (avT true)))))/\T'=[(19,.int .i64 (k:Int)),(18,.int .i64 r.length),(17,cC r),(8,v),(13,.int .i64 (i:Int)),(12,.int .i64 d.length),(11,.sl (d.map cC) d.length cap),(5,.gsl (cB all) i L.length 1),(1,.bool true)]/\L'=L++Z) aoD ⟨0,_,X,rfl,ali _,ale _,ho,hid (.inl ⟨rfl,rfl⟩),rfl,rfl⟩ ?_;rintro _ _ _ ⟨k,v,Z,rfl,hk,hXZ,ho2,hv,rfl,rfl⟩;replace hXZ:=hid hXZ;by_cases hkl:k<r.length
  .have g3:(k:Int)<(r.length:Int):=aoz;have g4:=ak9 k aoz;have e3:=gf hkl;have e4:k*2+2<=(aV r).length:=(by rw[dM];omega);obtain⟨⟨ty,va⟩,ha⟩:∃a,r.getD k ([],[])=a:=⟨_,rfl⟩;have ham:(ty,va)∈r:=(by rw[<- ha];simp[hkl]);have htk2:(r.take (k+1)).map (avT true)=(r.take k).map (avT true)++[af ty++61::eH (bL va)]:=by rw[aly hkl];have:r[k]=(ty,va):=(by rw[<- ha];simp[hkl]);rw[this];simp[avT]
   rw[ha]at e3;simp only[sf]at e3;have hva:=hrl2.o _ ham;simp only at hva;have hpl:=xM va;have hva':(bL va).length<=100000:=aoz;have hva2:(va.length:Int)<=100000:=aoz;have hty2:(ty.length:Int)<=100000:=aoz;have hwl:=Qc (bL va).length (bL va) 0;have hfl:(af ty).length=ty.length:=(by simp[af]);have b1:((af ty).length:Int)+1<=9223372036854775807:=aoz;have b2:((af ty).length:Int)+1+((eH (bL va)).length:Int)<=9223372036854775807:=(by unfold eH;omega);clear hwl ha ham hva hfl hpl;replace htk2:=hid htk2;have q1:(k+1)*16<=140737488355328:=aoz;have q2:k+1<=140737488355328:=aoz;have q3:k<=140737488355327:=aoz;rcases hv.o with⟨rfl,hk0⟩|⟨j,⟨hk1,hBj⟩,rfl,hj⟩;replace hk0:=hid hk0;have kk1:=@aoG _ _ _ _ (Ln hty2);have kk2:=@aoG _ _ _ _ (yl hva2);have kk3:=@aoG _ _ _ _ (fF hva');refine wk ?_;refine aoE aoz (CutL (b:=?_)) ⟨k+1,.lsl (L.length+(Z.length+1)) 0 1 none 1,_,rfl,hkl,?_,?_,hid (.inr ⟨L.length+(Z.length+1),⟨aoz,aoz⟩,by rw[hk0.o],?_⟩),rfl,rfl⟩;have:=hXZ.o;simp;omega;have:=hXZ.o;simp;omega;rw[<- alv,alm (ald.1 ho2).1];exact ho2;rw[oi,oi,htk2.o,hk0.o];rfl
   .obtain⟨cur,hcur⟩:=ak7 ((r.take k).map (avT true));have hcl:cur.length=k:=(by rw[<- hcur];simp;omega);rw[hcur]at hj;have f1:(L++(Z++[Blk.cells [.str (af ty),.str (bL va)]]))[j]?=some (.cells (cB cur)):=by rw[<- alv,alm (ald.1 hj).1];exact hj
    have f2:(L++(Z++[Blk.cells [.str (af ty),.str (bL va)]])).set j .dead=L++(Z++[Blk.cells [.str (af ty),.str (bL va)]]).set (j-L.length) .dead:=s4.o _ _ _ aoz;have f3:k<=(cB cur).length:=(by simp[hcl]);have f4:(cB cur).take k=cB cur:=amb (by simp[hcl]);replace hcur:=hid hcur;replace hcl:=hid hcl;have hjL:=hid (show j≠L.length by omega);have f2':=hid f2
    repeat' first
     |refine bu ?_
     | (first|refine bj aoB ?_|refine aJ aoB ?_|refine aM ?_|refine cN ?_|refine bE (fun _=>?_)|refine aC ?_|refine bo ?_|refine Ln hty2 ?_|refine yl hva2 ?_|refine fF hva' ?_|refine bh (Ln hty2 ⟨rfl,rfl⟩) (Ln hty2 ⟨rfl,rfl⟩) ?_|refine bh (yl hva2 ⟨rfl,rfl⟩) (yl hva2 ⟨rfl,rfl⟩) ?_|refine bh (fF hva' ⟨rfl,rfl⟩) (fF hva' ⟨rfl,rfl⟩) ?_|refine aF (Ln hty2 ⟨rfl,rfl⟩) ?_|refine aF (yl hva2 ⟨rfl,rfl⟩) ?_|refine aF (fF hva' ⟨rfl,rfl⟩) ?_)
       refine sm ?_
     | (first|refine a8 aoB ?_|refine ba ?_|refine aL ?_|refine bm ?_|refine bJ (aB ?_))
       refine sl ?_
     |exact bF
     |first|apply bG|apply be|apply bH|apply bf|apply bI|apply bg
     |refine aP ?_
     |refine aK ?_
     |first|refine aN rfl ?_|refine aO rfl ?_|refine ax rfl ?_ ?_|refine aT rfl (λ_=>?_) (λ_=>?_)|refine aS rfl (λ_=>?_) (λ_=>?_)
     |((first|refine au (λ_=>?_) (λ_=>?_)|refine aA (λ_=>?_) (λ_=>?_))<;>try refine sm ?_)
     |refine And.intro trivial ?_
     |refine And.intro aoz ?_
     |refine aY rfl (λ_=>?_) (λ_=>?_)
     |refine And.intro ?_ ?_
    rw[hcl.o];exact ale _;have hA:((Z++[Blk.cells [.str (af ty),.str (bL va)]]).set (j-L.length) .dead).length=Z.length+1:=aoA;refine aoE aoz (CutL (b:=?_)) ⟨k+1,.lsl (L.length+(Z.length+1)) 0 (k+1) none 1,_,rfl,hkl,?_,?_,hid (.inr ⟨L.length+(Z.length+1),⟨aoz,aoz⟩,rfl,?_⟩),rfl,rfl⟩;have:=hXZ.o;simp;omega;have:=hXZ.o;simp;omega;rw[<- alv,<- f2'.o,alm aoA,alE hjL.o,<- alv,alm (ald.1 ho2).1];exact ho2;rw[oi,<- hA,re,htk2.o,hcur.o];simp
  have hke:k=r.length:=aoz;subst hke;have g3:¬(r.length:Int)<(r.length:Int):=aoz;have q4:(i+1)*16<=140737488355328:=aoz;have q5:i+1<=140737488355328:=aoz;have hrow:dw true r=Lib.join (dO (r.map (avT true))) [43]:=(by simp[dw]);rw[hrow]at hjr;have htk3:(d.take (i+1)).map (dw true)=all++[Lib.join (dO (r.map (avT true))) [43]]:=by rw[htk.o,alM,<- hall.o,<- hrow];rfl
  replace hrow:=hid hrow;replace htk3:=hid htk3;rcases hv.o with⟨rfl,hk0⟩|⟨j,⟨hk1,hBj⟩,rfl,hj⟩;have hr0:r=[]:=alS.1 hk0;have f0:(L++Z).set L.length (.spare (i+1) 1)=L++Z.set 0 (.spare (i+1) 1):=(by rw[s4.o _ _ _ (ale _),amz]);have f1:(L++Z.set 0 (.spare (i+1) 1))[L.length]?=some (.spare (i+1) 1):=by rw[<- f0,alC,if_pos rfl,if_pos (ald.1 ho2).1]
  replace f1:=hid f1;replace hk0:=hid hk0;refine wk ?_;refine aeU ?_;refine aoH ?_;refine VC (xs:=[]) aoA (by simp[Lib.join]) ?_;refine aoH ?_;rw[show cB all++[AV.str (Lib.join [] [43])]=cB (all++[Lib.join [] [43]])by simp];exact aoE aoz (CutL (b:=by have:=hX.o;have h0:=(ald.1 ho2).1;simp at h0⊢;omega)) ⟨i+1,all++[Lib.join [] [43]],_,rfl,hlt,hid (by rw[htk3.o,hr0];simp[dO]),f1.o,rfl,rfl⟩;rw[alt]at hj;have hr0:r≠[]:=λe=>by rw[e]at hk1;cases hk1
  obtain⟨xs,hxs⟩:=ak7 (r.map (avT true));have hxl:r.length=xs.length:=(by rw[<- hxs];simp);have hxne:xs≠[]:=λe=>hr0 (by have:=hxl;rw[e]at this;exact alS.1 this)
  rw[hxs]at hj hjr htk3;have hsl:=Xf xs;have hjl:L.length+(j-L.length)=j:=aoz;have f2:(L++Z).set j (.cells (cB (dO xs)))=L++Z.set (j-L.length) (.cells (cB (dO xs))):=s4.o _ _ _ aoz;have f3:(L++Z.set (j-L.length) (.cells (cB (dO xs))))[j]?=some (.cells (cB (dO xs))):=by rw[<- f2,alC,if_pos rfl,if_pos (ald.1 hj).1]
  have ho3:(L++Z.set (j-L.length) (.cells (cB (dO xs))))[L.length]?=some (.spare i 1):=by rw[<- f2,alE aoz];exact ho2
  clear ho2;replace hj:=hid hj;generalize hZ1:Z.set (j-L.length) (.cells (cB (dO xs)))=Z1 at f2 f3 ho3;have f0:(L++Z1).set L.length (.spare (i+1) 1)=L++Z1.set 0 (.spare (i+1) 1):=(by rw[s4.o _ _ _ (ale _),amz]);have f1:(L++Z1.set 0 (.spare (i+1) 1))[L.length]?=some (.spare (i+1) 1):=by rw[<- f0,alC,if_pos rfl,if_pos (ald.1 ho3).1]
  replace f1:=hid f1;replace f2:=hid f2;replace f3:=hid f3;replace hxs:=hid hxs;replace hxl:=hid hxl;replace hsl:=hid hsl;clear hZ1;replace hxne:=hid hxne;refine wk ?_;refine aeT hxl.o hxne.o (by have:=hxl.o;omega) hj.o ?_;rw[f2.o];refine aoH ?_;refine ZN (xs:=dO xs) (by rw[hsl.o];exact hxl.o) (λe=>hxne.o (by have:=hsl.o;rw[e]at this;exact alS.1 this.symm)) (by have:=hxl.o;rw[hsl.o];omega) hjr f3.o ?_;refine aoH ?_;rw[show cB all++[AV.str (Lib.join (dO xs) [43])]=cB (all++[Lib.join (dO xs) [43]])by simp];exact aoE aoz (CutL (b:=by have h0:=(ald.1 ho3).1;simp at h0⊢;omega)) ⟨i+1,all++[Lib.join (dO xs) [43]],_,rfl,hlt,hid htk3.o.symm,f1.o,rfl,rfl⟩
 have hke:i=d.length:=aoz;subst hke;have g1:¬(d.length:Int)<(d.length:Int):=aoz;have e:=hall.o;rw[alt]at e;have h':=h.o;simp only[ee]at h' hj2;replace h':=hid h';clear hall;subst e;refine wk ?_;refine aci aoA (by simp;omega) hj2 ?_;refine aoH ?_;exact ae rfl h'.o
def Le(r:Rdn):Bool:=r.any λa=>decide (4096<a.2.length)
def RQ(d:List Rdn):Bool:=d.any Le
theorem X5:∀(t done:Rdn),dP done t=0->done.length<=8->(done++t).length<=8/\∀a∈t,a.1.length<=32
 |[],done,_,h=>by simp;exact h
 | a::t,done,h,hd=>by
   simp only[dP]at h;split at h
   .cases h
   .split at h
    .cases h
    .split at h
     .cases h
     .rename_i h1 h2 h3;have:=X5 t (done++[a]) h (by simp;omega);refine⟨by simpa using this.1,λb hb=>?_⟩;rcases alj.1 hb with rfl|hb
      .exact tS (by simpa using h2)
      .exact this.2 b hb
theorem US:∀(d:List Rdn) (i:Nat),l3 i d=0->i<=32->i+d.length<=32/\∀r∈d,r.length<=8/\∀a∈r,a.1.length<=32
 |[],i,_,h=>by simp;exact h
 | r::d,i,h,hi=>by
   simp only[l3]at h;split at h
   .cases h
   .split at h
    .cases h
    .split at h
     .rename_i h3;exact absurd h h3
     .rename_i h1 h2 h3;have h3':dP [] r=0:=(by simpa using h3);have a1:=X5 r [] h3' aoA;have a2:=US d (i+1) h aoz;refine⟨by simp;omega,λq hq=>?_⟩;rcases alj.1 hq with rfl|hq
      .exact⟨by simpa using a1.1,a1.2⟩
      .exact a2.2 q hq
theorem LU(s:List UInt8):(eH s).length<=3*s.length:=Qc _ _ _
theorem aiI{key:Bool}{a:Ava}(h1:a.1.length<=32)(h2:a.2.length<=4096):(avT key a).length<=20000:=by
 have e1:=LU a.2;have e2:=LU (bL a.2);have e3:=xM a.2;have e4:(af a.1).length=a.1.length:=by simp[af]
 unfold avT;split;simp;omega;simp;omega
theorem VE{B:Nat}{sep:List UInt8}:∀xs:List (List UInt8),(∀x∈xs,x.length<=B)->(Lib.join xs sep).length<=xs.length*(B+sep.length)
 |[],_=>by simp[Lib.join]
 |[x],h=>by have:=h x aoA;simp[Lib.join,List.intercalate];omega
 | x::y::l,h=>by
   have h1:=VE (sep:=sep) (y::l) λz hz=>h z (amp _ hz)
   have h2:=h x aoA;have e:Lib.join (x::y::l) sep=x++(sep++Lib.join (y::l) sep):=(by simp[Lib.join,List.intercalate]);rw[e];simp only[alw,alp,anp]at h1⊢;omega
theorem Zo{key:Bool}{r:Rdn}(h0:r.length<=8)(h1:∀a∈r,a.1.length<=32)(h2:∀a∈r,a.2.length<=4096):(dw key r).length<=200000:=by
 have key1:∀xs:List (List UInt8),xs.length<=8->(∀x∈xs,x.length<=20000)->(Lib.join xs [43]).length<=200000:=λxs a b=>by have c:=VE (sep:=[43]) xs b;have d:xs.length*(20000+[(43:UInt8)].length)<=8*(20000+1):=amj _ a;omega
 have hm:∀x∈r.map (avT key),x.length<=20000:=λx hx=>by obtain⟨a,ha,rfl⟩:=alg.1 hx;exact aiI (h1 a ha) (h2 a ha)
 unfold dw;split;refine key1 _ (by rw[Xf];simpa using h0) λx hx=>hm x ?_
 exact(anx (r.map (avT key)) _).mem_iff.1 hx;exact key1 _ (by simpa using h0) hm
theorem Zh{key:Bool}{d:List Rdn}(h0:d.length<=32)(h1:∀r∈d,(dw key r).length<=200000):(ee key d).length<=10000000:=by
 have c:=VE (sep:=[44]) (B:=200000) (d.map (dw key)) λx hx=>by obtain⟨r,hr,rfl⟩:=alg.1 hx;exact h1 r hr
 have e:(d.map (dw key)).length*(200000+[(44:UInt8)].length)<=32*(200000+1):=amj _ (by simpa using h0);unfold ee;omega
def prS(d:List Rdn):List UInt8×Int:=if l3 0 d≠0 then([],l3 0 d)else if RQ d=true then([],5)else if 4096<(ee false d).length then([],5)else(ee false d,0)
def tT(p:List UInt8×Int):AV:=.tup [.str p.1,.int .i64 p.2]
def Vv(d:List Rdn):List UInt8×Int:=if(prS d).2≠0 then([],(prS d).2)else(ee true d,0)
def Lh(s:List UInt8):List UInt8×Int:=if(xN s).2≠0 then([],(xN s).2)else Vv (xN s).1
theorem ah4{d:List Rdn}{cap:Option Nat}(hn:d.length<=1100000)(hr:∀r∈d,r.length<=1100000)(h:K (tT (prS d)) L):
  alb 177 [.sl (d.map cC) d.length cap] L K:=by
 have hat:=hid (λk=>@PD d k);unfold prS tT at h;refine ala W1 ?_;refine aiC hn hr ?_;by_cases hc:l3 0 d=0;rotate_left;rw[if_pos hc]at h;replace h:=hid h;refine aoH ?_;exact aa h.o;rw[if_neg (by simpa using hc)]at h;obtain⟨hd32,hd8⟩:=US d 0 hc aoz;rw[hc];replace hd8:=hid hd8;replace h:=hid h;clear hr hn hc;refine aoH ?_;refine ah (λn T' L'=>∃(i:Nat) (c:Int) (Z:List Blk),n=d.length-i/\i<=d.length/\Hid (RQ (d.take i)=false/\0<=c/\c<=8*i)/\T'=[(18,.int .i64 (i:Int)),(17,.int .i64 d.length),(16,.sl (d.map cC) d.length cap),(5,.int .i64 c),(0,.sl (d.map cC) d.length cap)]/\L'=L++Z) aoD ⟨0,0,[],rfl,ali _,hid ⟨rfl,aoz,aoz⟩,rfl,aoA⟩ ?_;rintro _ _ _ ⟨i,c,X,rfl,hi,hI,rfl,rfl⟩;by_cases hlt:i<d.length;have g1:(i:Int)<(d.length:Int):=aoz;have g2:=ak9 i aoz;have e2:=hat.o i hlt;have hrm:d.getD i []∈d:=by rw[alD,alu hlt];exact al6 _
 obtain⟨r,hri⟩:=ak7 (d.getD i []);have htk:d.take (i+1)=d.take i++[r]:=by rw[aly hlt,<- hri];simp[hlt]
 rw[hri]at e2 hrm;have hr8:=(hd8.o r hrm).1;have bad:Le r=true->K (.tup [.str [],.int .i64 5]) L:=λe=>by have h':=h.o;rw[if_pos (show RQ d=true from am1.2 ⟨r,hrm,e⟩)]at h';exact h'
 replace bad:=hid bad;replace htk:=hid htk;clear hri hrm;refine wk ?_;refine ah (λn T' L'=>∃(k:Nat) (c':Int) (Z:List Blk),n=r.length-k/\k<=r.length/\X.length<=Z.length/\Hid (Le (r.take k)=false/\c'=c+k)/\T'=[(24,.int .i64 (k:Int)),(23,.int .i64 r.length),(22,cC r),(18,.int .i64 (i:Int)),(17,.int .i64 d.length),(16,.sl (d.map cC) d.length cap),(5,.int .i64 c'),(0,.sl (d.map cC) d.length cap)]/\L'=L++Z) aoD ⟨0,c,X,rfl,ali _,ale _,hid ⟨rfl,aoz⟩,rfl,rfl⟩ ?_;rintro _ _ _ ⟨k,c',Z,rfl,hk,hXZ,hJ,rfl,rfl⟩;replace hXZ:=hid hXZ;by_cases hkl:k<r.length;have g3:(k:Int)<(r.length:Int):=aoz;have g4:=ak9 k aoz;have g5:IntKind.i64.wrap (c'+1)=c'+1:=by obtain⟨_,z1,z2⟩:=hI.o;have:=hJ.o.2;exact ab aoz aoz
 have e3:=gf hkl;have e4:k*2+2<=(aV r).length:=by rw[dM];omega
 obtain⟨⟨ty,va⟩,ha⟩:∃a,r.getD k ([],[])=a:=⟨_,rfl⟩;have ham:(ty,va)∈r:=by rw[<- ha];simp[hkl]
 have htk2:r.take (k+1)=r.take k++[(ty,va)]:=by rw[aly hkl,<- ha];simp[hkl]
 rw[ha]at e3;simp only[sf]at e3;have LN:4096<va.length->Le r=true:=λe=>am1.2 ⟨_,ham,by simpa using e⟩
 replace LN:=hid LN;replace htk2:=hid htk2;clear ha ham;by_cases hlv:(4096:Int)<(va.length:Int);have h':=hid (bad.o (LN.o aoz));refine wk ?_;exact ae rfl h'.o;refine wk ?_;refine aoE aoz (CutL (b:=?_)) ⟨k+1,c'+1,_,rfl,hkl,?_,hid ⟨?_,by have:=hJ.o.2;omega⟩,rfl,rfl⟩;have:=hXZ.o;simp;omega;have:=hXZ.o;simp;omega;rw[htk2.o,Le,anP,show(r.take k).any _=Le (r.take k)from rfl,hJ.o.1];simp;omega;have hke:k=r.length:=aoz;subst hke;have g3:¬(r.length:Int)<(r.length:Int):=aoz;have hlr:=hJ.o.1;rw[alt]at hlr;replace hlr:=hid hlr;refine wk ?_;refine aoE aoz aoC ⟨i+1,c',_,rfl,hlt,hid ⟨?_,?_,?_⟩,rfl,rfl⟩;rw[htk.o,RQ,anP,show(d.take i).any _=RQ (d.take i)from rfl,hI.o.1];simp[hlr.o];obtain⟨_,z1,z2⟩:=hI.o;have:=hJ.o.2;omega;obtain⟨_,z1,z2⟩:=hI.o;have:=hJ.o.2;omega;have hke:i=d.length:=aoz;subst hke;have g1:¬(d.length:Int)<(d.length:Int):=aoz;have hld:=hI.o.1;rw[alt]at hld;have h':=h.o;rw[if_neg (by rw[hld];simp)]at h';have hv:∀r∈d,∀a∈r,a.2.length<=4096:=λr hr a ha=>by have h1:=am3.1 hld r hr;have h1':Le r=false:=(by simpa using h1);unfold Le at h1';have h2:=am3.1 h1' a ha;simpa using h2
 have hrl:∀r∈d,(dw false r).length<=200000:=λr hr=>Zo (hd8.o r hr).1 (hd8.o r hr).2 (hv r hr)
 have htl:=Zh aoz hrl;replace h':=hid h';clear hld;replace hv:=hid hv;replace hrl:=hid hrl;refine wk ?_;refine ahy aoz (λr hr=>⟨by have:=(hd8.o r hr).1;omega,λa ha=>⟨by have:=(hd8.o r hr).2 a ha;omega,by have:=hv.o r hr a ha;omega⟩⟩) (λr hr=>by have:=hrl.o r hr;omega) aoz ?_;by_cases hlg:4096<(ee false d).length;have k1:(4096:Int)<((ee false d).length:Int):=aoz;have h2:=h'.o;rw[if_pos hlg]at h2;replace h2:=hid h2;clear hlg;refine aoH ?_;exact ae rfl h2.o;have k1:¬(4096:Int)<((ee false d).length:Int):=aoz;have h2:=h'.o;rw[if_neg hlg]at h2;replace h2:=hid h2;clear hlg;refine aoH ?_;exact ae rfl h2.o
theorem afo{d:List Rdn}(h:(prS d).2=0):d.length<=32/\∀r∈d,r.length<=8/\∀a∈r,a.1.length<=32/\a.2.length<=4096:=by
 unfold prS at h;split at h;rename_i hc;exact absurd h hc;rename_i hc;split at h;cases h;rename_i hl;have h0:l3 0 d=0:=by simpa using hc
 obtain⟨h1,h2⟩:=US d 0 h0 aoz;have hld:RQ d=false:=by simpa using hl
 refine⟨aoz,λr hr=>⟨(h2 r hr).1,λa ha=>⟨(h2 r hr).2 a ha,?_⟩⟩⟩;have k1:=am3.1 hld r hr;have k1':Le r=false:=by simpa using k1
 unfold Le at k1';have k2:=am3.1 k1' a ha;simpa using k2
theorem ajz{d:List Rdn}{cap:Option Nat}(hn:d.length<=1100000)(hr:∀r∈d,r.length<=1100000)(h:K (tT (Vv d)) L):
  alb 140 [.sl (d.map cC) d.length cap] L K:=by
 unfold Vv tT at h;refine ala YY ?_;refine ah4 hn hr ?_;unfold tT;obtain⟨⟨ps,pe⟩,hp⟩:∃p,prS d=p:=⟨_,rfl⟩;rw[hp]at h⊢;simp only at h⊢;by_cases h0:pe=0;subst h0;obtain⟨q1,q2⟩:=afo (by rw[hp]);rw[if_neg aoA]at h;have hrl:∀r∈d,(dw true r).length<=200000:=λr hr=>Zo (q2 r hr).1 (λa ha=>((q2 r hr).2 a ha).1) (λa ha=>((q2 r hr).2 a ha).2)
 have htl:=Zh aoz hrl;replace h:=hid h;replace q2:=hid q2;replace hrl:=hid hrl;clear hp hr;refine aoH ?_;refine ahx aoz (λr hr=>⟨by have:=(q2.o r hr).1;omega,λa ha=>⟨by have:=((q2.o r hr).2 a ha).1;omega,by have:=((q2.o r hr).2 a ha).2;omega⟩⟩) (λr hr=>by have:=hrl.o r hr;omega) aoz ?_;refine aoH ?_;exact aa h.o;rw[if_pos h0]at h;replace h:=hid h;clear hp hr;refine aoH ?_;exact aa h.o
theorem Yt:∀(f:Nat) (out:List Rdn) (now:Rdn) (s:List UInt8),out.length<=32->now.length<=8->(∀r∈out,r.length<=8)->(se f out now s).1.length<=33/\∀r∈(se f out now s).1,r.length<=8
 |0,_,_,_,_,_,_=>by simp[se]
 | f+1,out,now,s,h1,h2,h3=>by
   rw[se];split
   .simp
   rename_i hlim;have hrow:∀t v:List UInt8,(now++[(t,v)]).length<=8:=λt v=>by simp;omega
   have hout:∀t v:List UInt8,∀r∈out++[now++[(t,v)]],r.length<=8:=λt v r hr=>by
    rcases alh.1 hr with h|h
    .exact h3 r h
    .rw[alB.1 h];exact hrow t v
   split
   .simp
   split
   .simp
   split
   .simp
   split
   .simp
   split
   .simp
   split
   .exact⟨by simp;omega,hout _ _⟩
   split
   .exact Yt f _ _ _ (by simp;omega) aoA (hout _ _)
   .exact Yt f _ _ _ h1 (hrow _ _) h3
theorem acd(s:List UInt8):(xN s).1.length<=33/\∀r∈(xN s).1,r.length<=8:=by unfold xN;split;simp;split;simp;exact Yt _ _ _ _ aoA aoA aoA
theorem ai5{s:List UInt8}(h:K (tT (Lh s)) L):alb 100 [.str s] L K:=by unfold Lh at h;refine ala aan ?_;refine ah7 ?_;obtain⟨q1,q2⟩:=acd s;obtain⟨⟨pd,pe⟩,hp⟩:∃p,xN s=p:=⟨_,rfl⟩;rw[hp]at h q1 q2⊢;simp only[aaY]at h q1 q2⊢;clear hp;by_cases h0:pe=0;subst h0;rw[if_neg aoA]at h;replace h:=hid h;replace q2:=hid q2;refine aoH ?_;refine ajz aoz (λr hr=>by have:=q2.o r hr;omega) ?_;have h':=h.o;unfold tT at h'⊢;replace h':=hid h';refine aoH ?_;exact aa h'.o;rw[if_pos h0]at h;unfold tT at h;replace h:=hid h;clear q1 q2;refine aoH ?_;exact aa h.o
end Go.Proofs.YtcmfcpjnhephaaaGreatDoor.Av
