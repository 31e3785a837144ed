/- Joined texts of the walk, made small by a program. -/
import Derived.Test.YtcmfcpjnhephaaaGreatDoorPk4
import Derived.Test.YtcmfcpjnhephaaaGreatDoorRows
import Derived.KernelRfl
import Derived.Test.YtcmfcpjnhephaaaGreatDoorPk5
set_option linter.unusedSimpArgs false
set_option linter.unusedVariables false
set_option maxRecDepth 100000
namespace Go.Proofs.YtcmfcpjnhephaaaGreatDoor.Av
open Go
def JZ:LSO:=[A4 4 1,Ah 6,Ag 7]
def JY:LSO:=[Aa 11 0,Ap 12 5 4,Aa 13 2,AA 14 59 11 12 13,Aa 10 14,As 15 10,Aw 16 10,Aa 8 15,Aa 9 16]
def JW:LSO:=[Aa 17 9,Ay 18 17,Aa 19 18,.grp none 19 false
 [Aj 20 19 8,Bc 21 19 20,Aj 22 19 2,og 23 19 false (.bin .gtr (tm 21) (tm 22))]
 24 (tm 23)]
def JV:LSO:=[Ah 6,Ag 7]
def JU:LSO:=[Aa 25 8,Aa 6 25,Az 7]
def fc:aG:=⟨26,(aos JZ [] (aos JY CK (.seq (aos JW Cw (aou 24 (.sreg JV []))) (aos JU Cz .ret)))),[(.tmp 6),(.tmp 7)]⟩
attribute [push_cast] JZ JY JW JV JU
theorem qh:aox 27=aoy fc:=aoB
def JS:LSO:=[A4 4 1,Ah 6,Ag 7]
def JR:LSO:=[Ac 13 0 4,Ab 14 1 13]
def JQ:LSO:=[Ao 16 14 0,Aa 15 16]
def JP:LSO:=[Ao 17 14 1,Aa 15 17]
def JO:LSO:=[Ah 8]
def JN:LSO:=[Ac 18 4 4,Ab 19 1 18,Ak 20 19,Ad 21 0]
def JM:LSO:=[Al 22 21 20]
def JL:LSO:=[An 23 5 19 21,Ap 24 5 23,AX 10,Ai 5 10 24]
def JK:LSO:=[Aa 26 0,Ap 27 5 10,Aa 28 2,AA 29 27 26 27 28,Aa 25 29,As 30 25,Aw 31 25,Aa 11 30,Aa 12 31]
def JJ:LSO:=[Aa 33 12,Aa 32 33]
def Fx:LSO:=[Aa 34 8,Aa 35 11,Bx 36 35,By 37 34 36,Aa 8 37]
def Fw:LSO:=[Ac 39 0 4,Ab 40 1 39,Ao 41 40 1,Aa 38 41]
def Fv:LSO:=[Ah 6,Ag 7]
def Fu:LSO:=[Af 42 21 1,Aa 21 42]
def Fs:LSO:=[Ac 43 0 4,Ab 44 1 43,Ao 45 44 1]
def Fq:LSO:=[Aa 46 8,Am 47 108 46,Aa 6 47,Az 7]
def Fp:LSO:=[Aa 48 8,Am 49 29 48,Aa 50 8,Ak 51 50,A3 52 51 0,Aa 6 49,Aa 7 52]
def Fo:LSO:=[Ao 54 14 3,Aa 53 54]
def Fn:LSO:=[Ao 55 14 8,Aa 53 55]
def Fm:LSO:=[Aa 56 0,Ac 57 1 4,Ab 58 1 57,Ac 59 2 4,Ab 60 1 59,AA 61 18 56 58 60,Aa 62 0,Ac 63 1 4,Ab 64 1 63,Aq 65 11 62 64,Aa 6 61,Aa 7 65]
def Fl:LSO:=[Ao 67 14 7,Aa 66 67]
def Fk:LSO:=[Aa 68 0,Ac 69 1 4,Ab 70 1 69,Aq 71 14 68 70,Aa 72 0,Ac 73 1 4,Ab 74 1 73,Aq 75 11 72 74,Aa 6 71,Aa 7 75]
def Fj:LSO:=[Ao 77 14 4,Aa 76 77]
def Fi:LSO:=[Aa 78 0,Ac 79 1 4,Ab 80 1 79,Aq 81 11 78 80,Ay 82 81,Aa 83 82,.grp none 83 false
 [Aj 84 83 0,AK 85 83 1 4,AF 86 83 1 85,og 87 83 false (.call 109 [(tm 84),(tm 86)]),Bl 88 83 87]
 89 (tm 88),Aa 90 89,.grp none 90 false
 [AK 91 90 3 4,AF 92 90 1 91,
 og 93 90 false (.build [(.int .i64 0),(.str []),(.str []),(.sl [] 0 (some 0)),(.sl [] 0 (some 0))] [(0,(1,(iv 4))),(1,(1,(.av (.str [97])))),(3,(1,(tm 92)))]),Ba 94 90 76 93,
 og 95 90 false (.bin .neq (tm 94) (iv 0))]
 96 (tm 95)]
def Fh:LSO:=[Ah 6,Ag 7]
def Fg:LSO:=[Aa 97 0,Ac 98 1 4,Ab 99 1 98,Ac 100 3 4,Ab 101 1 100,AA 102 13 97 99 101,Aa 6 102,Az 7]
def Ff:LSO:=[Ah 6,Ag 7]
def bw:aG:=⟨103,(aos JS [] (.seq (aos JR Cu (.block 0 (.seq (aos JQ Cu (aot 15 .skip (.sreg JP Cu))) (aot 15 (aos JO [] (.seq (aos JN CD (aov 1 (aos JM [] (.seq (aow 22 1) (.seq (.block 2 (aos JL Cv (aos JK CK (.block 3 (aos JJ Cu (aot 32 (.sreg Fx Cx) (aos Fw Cw (aou 38 (.sreg Fv []))))))))) (.sreg Fu Cu)))))) (.seq (aos Fs Cv (aou 45 (.sreg Fq CB))) (aos Fp CH .ret)))) (.seq (aos Fo Cu (aot 53 .skip (.sreg Fn Cu))) (aot 53 (.seq (.sdreg Fm [.pure,.pure,(.read 0 0),.pure,(.read 0 0),(.read 0 0),.pure,.pure,(.read 0 0)] CY) .ret) (aos Fl Cu (aot 66 (.seq (.sdreg Fk [.pure,.pure,(.read 0 0),(.read 0 0),.pure,.pure,(.read 0 0)] CU) .ret) (aos Fj Cu (aot 76 (.seq (aos Fi CG (aou 96 (.sreg Fh []))) (aos Fg CE .ret)) .skip)))))))))) (aos Ff [] .ret))),[(.tmp 6),(.tmp 7)]⟩
attribute [push_cast] JS JR JQ JP JO JN JM JL JK JJ Fx Fw Fv Fu Fs Fq Fp Fo Fn Fm Fl Fk Fj Fi Fh Fg Ff
theorem cY:aox 59=aoy bw:=aoB
def mN:LSO:=[Ah 6]
def mM:LSO:=[Ah 7]
def mL:LSO:=[Aa 10 0,Ar 11 10,Ac 12 3 11,Ab 13 1 12,Ak 14 13,Ad 15 0]
def mK:LSO:=[Al 16 15 14]
def mJ:LSO:=[An 17 2 13 15,Ap 18 2 17,B5 9,Ai 2 9 18]
def mI:LSO:=[Aa 19 0,Aa 20 1,Aq 21 63 19 20,Aa 22 21,.grp none 22 true
 [Ae 23 22 0,AS 24 22 23,A6 25 22 0 24,og 26 22 true (.load true 2 (tm 25)),A6 27 22 1 9,A5 28 22 1 27,Ae 29 22 1,Ae 30 22 2,
 og 31 22 true (.call 112 [(tm 26),(tm 28),(tm 29),(tm 30)])]
 32 (tm 31)]
def mH:LSO:=[Aa 33 7,Ac 34 0 9,Ab 35 1 34,Bq 36 35,Bj 37 33 36,Aa 7 37]
def mG:LSO:=[Af 38 15 1,Aa 15 38]
def mF:LSO:=[Aa 39 7,Aa 6 39]
def gK:aG:=⟨40,(aos mN [] (aos mM [] (.seq (aos mL CL (aov 0 (aos mK [] (.seq (aow 16 0) (.seq (.block 1 (aos mJ Cv (.seq (.sdreg mI [.pure,.pure,(.read 0 0),.pure,.pure,(.read 0 0),.pure,(.read 0 0),.pure,(.read 0 0),.pure,.pure] Cx) (aot 32 (.sreg mH Cy) .skip)))) (.sreg mG Cu)))))) (aos mF Cu .ret)))),[(.tmp 6)]⟩
attribute [push_cast] mN mM mL mK mJ mI mH mG mF
theorem yF:aox 62=aoy gK:=aoB
def iN:LSO:=[Ah 4]
def iM:LSO:=[Ah 5]
def iL:LSO:=[Aa 8 0,Ar 9 8,Ac 10 3 9,Ab 11 1 10,Ak 12 11,Ad 13 0]
def iK:LSO:=[Al 14 13 12]
def iJ:LSO:=[An 15 2 11 13,Ap 16 2 15,B5 7,Ai 2 7 16]
def iI:LSO:=[Aa 17 0,Aa 18 1,Aq 19 63 17 18,Aa 20 19,.grp none 20 true
 [A6 21 20 1 7,A5 22 20 1 21,Ae 23 20 1,B4 24 20 15 22 23,AU 25 20 24,BR 26 20 25 0]
 27 (tm 26)]
def iH:LSO:=[Aa 28 5,Ac 29 0 7,Ab 30 1 29,Bq 31 30,Bj 32 28 31,Aa 5 32]
def iG:LSO:=[Af 33 13 1,Aa 13 33]
def iF:LSO:=[Aa 34 5,Aa 4 34]
def fM:aG:=⟨35,(aos iN [] (aos iM [] (.seq (aos iL CL (aov 0 (aos iK [] (.seq (aow 14 0) (.seq (.block 1 (aos iJ Cv (aos iI Cx (aot 27 (.sreg iH Cy) .skip)))) (.sreg iG Cu)))))) (aos iF Cu .ret)))),[(.tmp 4)]⟩
attribute [push_cast] iN iM iL iK iJ iI iH iG iF
theorem tv:aox 64=aoy fM:=aoB
def oL:LSO:=[Ah 6]
def oK:LSO:=[Ah 7]
def oJ:LSO:=[Aa 17 0,Aa 18 1,Aq 19 63 17 18,Ay 20 19]
def oI:LSO:=[Ah 6]
def oH:LSO:=[Aa 21 0,Ar 22 21,Ac 23 0 22,Ac 24 0 23,Ab 25 1 24,Aa 26 0,Ar 27 26,Ac 28 0 27,Ac 29 0 28,Ab 30 1 29,Aa 31 1,Aq 32 12 30 31,An 33 4 25 32,
 Ac 34 1 33,Ab 35 1 34,Aa 8 35]
def oG:LSO:=[Aa 36 0,Ar 37 36,Ac 38 3 37,Ab 39 1 38,Ak 40 39,Ad 41 0]
def oF:LSO:=[Al 42 41 40]
def oE:LSO:=[An 43 2 39 41,Ap 44 2 43,B5 10,Ai 2 10 44]
def oD:LSO:=[Ac 45 1 10,Ab 46 1 45,Aa 47 1,Aq 48 15 46 47,Aa 11 48]
def oC:LSO:=[Aa 49 11,Ak 50 49,A3 51 50 0,Aa 12 51]
def mE:LSO:=[Aa 52 2,Ak 53 52,Ad 54 0]
def mD:LSO:=[Al 55 54 53]
def mC:LSO:=[An 56 2 52 54,Ap 57 2 56,BH 14,Ai 2 14 57]
def mB:LSO:=[Ac 58 1 14,Ab 59 1 58,Aa 15 59]
def mA:LSO:=[Aa 60 8,AE 61 60 2]
def mz:LSO:=[Aa 62 15,Am 63 39 62,Aa 15 63]
def my:LSO:=[Ad 16 0]
def mw:LSO:=[Aa 64 16,Af 65 64 3,Aa 66 15,Ax 67 66,B9 68 65 67,Aa 69 68,.grp none 69 true
 [Ae 70 69 12]
 71 (tm 70)]
def mu:LSO:=[Aa 74 8,Aa 75 11,Aa 76 15,Aa 77 16,Aa 78 16,Af 79 78 3,Bm 80 76 77 79,AA 81 113 74 75 80,Aa 12 81]
def ms:LSO:=[Aa 72 16,Af 73 72 1,Aa 16 73]
def mq:LSO:=[Af 82 54 1,Aa 54 82]
def mo:LSO:=[Aa 83 12]
def mn:LSO:=[Aa 84 7,Ac 85 0 10,Ab 86 1 85,Bq 87 86,Bj 88 84 87,Aa 7 88]
def mm:LSO:=[Af 89 41 1,Aa 41 89]
def ml:LSO:=[Aa 90 7,Aa 6 90]
def iw:aG:=⟨91,(aos oL [] (aos oK [] (.seq (aos oJ Cw (aou 20 (.sreg oI []))) (.seq (.sdreg oH [.pure,(.read 0 0),.pure,.pure,(.read 0 0),.pure,(.read 0 0),.pure,.pure,(.read 0 0),.pure,(.read 0 0)] [true,false,false,false,false,false,false,false,false,false,false,false,false,false,false,false]) (.seq (aos oG CL (aov 0 (aos oF [] (.seq (aow 42 0) (.seq (.block 1 (aos oE Cv (aos oD Cx (aos oC Cw (.seq (aos mE [] (aov 2 (aos mD [] (.seq (aow 55 2) (.seq (.block 3 (aos mC Cv (aos mB Cv (.seq (aos mA Cu (aot 61 (.sreg mz Cv) .skip)) (aos my [] (aov 4 (.seq (aos mw C0 (aow 71 4)) (.seq (.block 5 (.sreg mu CG)) (.sreg ms Cv))))))))) (.sreg mq Cu)))))) (aos mo [] (aot 83 (.sreg mn Cy) .skip))))))) (.sreg mm Cu)))))) (aos ml Cu .ret)))))),[(.tmp 6)]⟩
attribute [push_cast] oL oK oJ oI oH oG oF oE oD oC mE mD mC mB mA mz my mw mu ms mq mo mn mm ml
theorem GX:aox 65=aoy iw:=aoB
def uW:LSO:=[Ag 6]
def uV:LSO:=[Aa 12 1,Ak 13 12,Ad 14 0]
def uU:LSO:=[Al 15 14 13]
def uT:LSO:=[An 16 1 12 14,Ab 17 1 16,Aa 8 17]
def uS:LSO:=[Aa 19 0,Aa 20 8,Aq 21 45 19 20,Aa 18 21,As 22 18,Aw 23 18,Aa 9 22,Aa 10 23]
def uR:LSO:=[Ad 11 0]
def uQ:LSO:=[Aa 24 11,Af 25 24 3,Aa 26 9,Ax 27 26,B9 28 25 27]
def uP:LSO:=[Aa 31 9,Aa 32 11,Aa 33 11,Af 34 33 3,Bm 35 31 32 34,Aa 36 2,AC 37 35 36]
def uO:LSO:=[Az 6]
def uN:LSO:=[Aa 29 11,Af 30 29 1,Aa 11 30]
def sH:LSO:=[Af 38 14 1,Aa 14 38]
def sG:LSO:=[Ag 6]
def rV:aG:=⟨39,(aos uW [] (.seq (aos uV [] (aov 0 (aos uU [] (.seq (aow 15 0) (.seq (.block 1 (aos uT Cv (aos uS CV (aos uR [] (aov 2 (.seq (aos uQ Cx (aow 28 2)) (.seq (.block 3 (aos uP C0 (aou 37 (.sreg uO [])))) (.sreg uN Cv)))))))) (.sreg sH Cu)))))) (aos sG [] .ret))),[(.tmp 6)]⟩
attribute [push_cast] uW uV uU uT uS uR uQ uP uO uN sH sG
theorem Sa:aox 113=aoy rV:=aoB
def zB:LSO:=[A4 4 1,Ah 6,Ag 7]
def zA:LSO:=[Ah 8]
def zy:LSO:=[Ag 9]
def zx:LSO:=[Ac 16 0 4,Ab 17 1 16]
def zw:LSO:=[Ao 19 17 0,Aa 18 19]
def zu:LSO:=[Ao 20 17 1,Aa 18 20]
def zt:LSO:=[Ah 10]
def zr:LSO:=[Az 11]
def zq:LSO:=[Ac 21 4 4,Ab 22 1 21,Ak 23 22,Ad 24 0]
def zp:LSO:=[Al 25 24 23]
def uM:LSO:=[Aa 26 24,Aa 12 26]
def uL:LSO:=[Aa 28 0,Ac 29 4 4,Ab 30 1 29,Aa 31 12,An 32 5 30 31,Ap 33 5 32,Aa 34 2,AA 35 28 28 33 34,Aa 27 35,As 36 27,Aw 37 27,Aa 13 36,Aa 14 37]
def uK:LSO:=[Aa 38 11,Aa 39 38,.grp none 39 true
 [Ae 40 39 14]
 41 (tm 40),Aa 11 41]
def uJ:LSO:=[Aa 42 14]
def uI:LSO:=[Aa 43 10,Aa 44 13,Bx 45 44,By 46 43 45,Aa 10 46]
def uH:LSO:=[Af 47 24 1,Aa 24 47]
def uG:LSO:=[Ac 48 0 4,Ab 49 1 48,Ao 50 49 0]
def uF:LSO:=[Aa 51 10,Am 52 60 51,Aa 8 52]
def uE:LSO:=[Aa 53 10,Ak 54 53,A3 55 54 0,Aa 9 55]
def uD:LSO:=[Aa 56 10,Am 57 61 56,Aa 8 57]
def uC:LSO:=[Aa 58 11,Aa 9 58]
def uB:LSO:=[Ao 60 17 3,Aa 59 60]
def uA:LSO:=[Ao 61 17 8,Aa 59 61]
def uz:LSO:=[Aa 62 0,Ac 63 1 4,Ab 64 1 63,Ac 65 2 4,Ab 66 1 65,AA 67 62 62 64 66,Aa 8 67]
def uy:LSO:=[Aa 68 0,Ac 69 1 4,Ab 70 1 69,Aq 71 63 68 70,Aa 9 71]
def ux:LSO:=[Ao 73 17 7,Aa 72 73]
def uw:LSO:=[Aa 74 0,Ac 75 1 4,Ab 76 1 75,Aq 77 64 74 76,Aa 8 77]
def uv:LSO:=[Aa 78 0,Ac 79 1 4,Ab 80 1 79,Aq 81 63 78 80,Aa 9 81]
def uu:LSO:=[Ao 83 17 4,Aa 82 83]
def ut:LSO:=[Aa 84 0,Ac 85 1 4,Ab 86 1 85,Aq 87 63 84 86,Aa 88 87,.grp none 88 true
 [A6 89 88 3 4,A5 90 88 1 89,
 og 91 88 true (.build [(.int .i64 0),(.str []),(.str []),(.sl [] 0 (some 0)),(.sl [] 0 (some 0))] [(0,(1,(iv 4))),(1,(1,(.av (.str [97])))),(3,(1,(tm 90)))]),AL 92 88 46 91,
 AZ 93 88 92 0]
 94 (tm 93)]
def ur:LSO:=[Aa 95 0,Ar 96 95,Ac 97 0 96,Ac 98 0 97,Ab 99 1 98,Aa 100 0,Ar 101 100,Ac 102 0 101,Ac 103 0 102,Ab 104 1 103,Ac 105 1 4,Ab 106 1 105,Aq 107 12 104 106,
 An 108 4 99 107,Ac 109 1 108,Ab 110 1 109,Aa 15 110]
def uq:LSO:=[Aa 111 15,Bg 112 111 1,Aa 113 112,.grp none 113 true
 [Ae 114 113 15,Cp 115 113 114 3]
 116 (tm 115),Aa 9 116]
def uo:LSO:=[Aa 117 0,Ac 118 1 4,Ab 119 1 118,Ac 120 3 4,Ab 121 1 120,AA 122 65 117 119 121,Aa 8 122]
def um:LSO:=[Aa 123 9,Ay 124 123,Aa 125 124,.grp none 125 false
 [Aj 126 125 8,Bc 127 125 126,Aj 128 125 2,og 129 125 false (.bin .gtr (tm 127) (tm 128))]
 130 (tm 129)]
def ul:LSO:=[Ah 6,Ag 7]
def uk:LSO:=[Aa 131 8,Aa 6 131,Az 7]
def ay:aG:=⟨132,(aos zB [] (aos zA [] (aos zy [] (.seq (aos zx Cu (.block 0 (.seq (aos zw Cu (aot 18 .skip (.sreg zu Cu))) (aot 18 (aos zt [] (aos zr [] (.seq (aos zq CB (aov 1 (aos zp [] (.seq (aow 25 1) (.seq (.block 2 (aos uM Cu (aos uL CZ (aos uK Cw (aos uJ [] (aot 42 (.sreg uI Cx) .skip)))))) (.sreg uH Cu)))))) (aos uG Cv (aot 50 (aos uF Cv (.sreg uE Cw)) (aos uD Cv (.sreg uC Cu))))))) (.seq (aos uB Cu (aot 59 .skip (.sreg uA Cu))) (aot 59 (aos uz C0 (.sreg uy Cx)) (aos ux Cu (aot 72 (aos uw Cx (.sreg uv Cx)) (aos uu Cu (aot 82 (aos ut Cy (aot 94 (.seq (.sdreg ur [.pure,(.read 0 0),.pure,.pure,(.read 0 0),.pure,(.read 0 0),.pure,.pure,(.read 0 0),.pure,(.read 0 0),(.read 0 0)] [true,false,false,false,false,false,false,false,false,false,false,false,false,false,false,false,false]) (aos uq Cx (.sreg uo C0))) .skip)) .skip)))))))))) (.seq (aos um Cw (aou 130 (.sreg ul []))) (aos uk Cz .ret)))))),[(.tmp 6),(.tmp 7)]⟩
attribute [push_cast] zB zA zy zx zw zu zt zr zq zp uM uL uK uJ uI uH uG uF uE uD uC uB uA uz uy ux uw uv uu ut ur uq uo um ul uk
theorem br:aox 28=aoy ay:=aoB
attribute [push_cast] fc bw gK fM iw rV ay
end Go.Proofs.YtcmfcpjnhephaaaGreatDoor.Av
set_option maxRecDepth 100000
namespace Go.Proofs.YtcmfcpjnhephaaaGreatDoor.Av
open Go
def Oy:LSO:=[A4 2 0,AP 4,Ad 5 0]
def Ox:LSO:=[.op ⟨(some 13),.mkmap,none⟩,
 .op ⟨(some 14),.mkmap,none⟩,
 .op ⟨(some 15),.mkmap,none⟩,
 .op ⟨(some 16),.mkmap,none⟩,o1 17 (.build [.nilmap,.nilmap,.nilmap,.nilmap] [(0,(1,(tm 13))),(1,(1,(tm 14))),(2,(1,(tm 15))),(3,(1,(tm 16)))]),A4 18 17,Aa 6 18]
def Ow:LSO:=[Aa 19 1,Ak 20 19,Ad 21 0]
def Ov:LSO:=[Al 22 21 20]
def Ou:LSO:=[An 23 1 19 21,Ab 24 1 23,Aa 8 24]
def Ot:LSO:=[Ap 26 2 2,Aa 27 8,Aq 28 49 26 27,Aa 25 28,As 29 25,Aw 30 25,B6 9,Ai 4 9 29,Aa 10 30]
def Oq:List (aj×Kd):=
 [A8 32 6,AI 33 32 0 1,A7 34 0 33,A0 35 1 34 0 1,A8 36 8,Bb 37 38 36 0 1,
 od 38 (.mget .str true (.agg [(.str []),(.int .i64 0),(.bool false),(.bool false)]) (tm 35) (tm 37)) (.read 0 1),A8 31 38,od 39 (.extract (tm 31) 0) .pure,
 od 40 (.extract (tm 31) 1) .pure,od 11 (.alloc [(.str []),(.int .i64 0),(.bool false),(.bool false)]) .eff,
 (⟨none,(.store 4 (tm 11) (tm 39)),none⟩,.eff)]
def KQ:List aj :=
 [⟨(some 12),(.mv (tm 40)),none⟩]
def Oo:LSO:=[Aa 42 10,Ay 43 42,Aa 41 43]
def On:LSO:=[AP 4,Ad 5 20]
def Om:LSO:=[Aa 45 12,Aa 44 45]
def KW:LSO:=[AP 4,Ad 5 21]
def KV:List (aj×Kd):=
 [A8 46 6,AI 47 46 0 0,A7 48 0 47,A0 49 1 48 0 0,A8 50 8,Bb 51 38 50 0 0,BI 52 4 9 0 0]
def Gp:List aj :=
 [⟨none,(.mset .str (tm 49) (tm 51) (tm 52)),none⟩]
def KU:List (aj×Kd):=
 [A8 53 6,AI 54 53 0 1,A7 55 2 54,A0 56 1 55 0 1,A8 57 8,Bb 58 38 57 0 1,
 (⟨(some 59),.mkmap,none⟩,.eff)]
def Gn:List aj :=
 [⟨none,(.mset .str (tm 56) (tm 58) (tm 59)),none⟩]
def KT:LSO:=[Af 60 21 1,Aa 21 60]
def KR:LSO:=[Aa 61 6,Aa 4 61,Ad 5 0]
def LK:aG:=⟨62,(aos Oy [] (aos Ox C0 (.seq (aos Ow [] (aov 0 (aos Ov [] (.seq (aow 22 0) (.seq (.block 1 (aos Ou Cv (aos Ot CE (.seq (.dregM Oq KQ CF) (.seq (.block 2 (aos Oo Cv (aot 41 (aos On [] .ret) (aos Om Cu (aou 44 (.sreg KW [])))))) (.seq (.dregM KV Gp C7) (.dregM KU Gn C7))))))) (.sreg KT Cu)))))) (aos KR Cz .ret)))),[(.tmp 4),(.tmp 5)]⟩
attribute [push_cast] Oy Ox Ow Ov Ou Ot Oq KQ Oo On Om KW KV Gp KU Gn KT KR
theorem Wm:aox 19=aoy LK:=aoB
def Gm:LSO:=[Ah 2]
def Gl:LSO:=[Ah 3]
def Gk:LSO:=[Ad 4 0]
def Gj:LSO:=[Aa 5 4,Af 6 5 3,Aa 7 0,Ax 8 7,B9 9 6 8]
def Gi:LSO:=[Aa 12 3,Aa 13 0,Aa 14 4,Aa 15 4,Af 16 15 3,Bm 17 13 14 16,Bo 18 17,Bi 19 12 18,Aa 3 19]
def Gh:LSO:=[Aa 10 4,Af 11 10 1,Aa 4 11]
def Gg:LSO:=[Aa 20 3,Aa 2 20]
def tM:aG:=⟨21,(aos Gm [] (aos Gl [] (.seq (aos Gk [] (aov 0 (.seq (aos Gj Cx (aow 9 0)) (.seq (.block 1 (.sreg Gi CG)) (.sreg Gh Cv))))) (aos Gg Cu .ret)))),[(.tmp 2)]⟩
attribute [push_cast] Gm Gl Gk Gj Gi Gh Gg
theorem Tl:aox 41=aoy tM:=aoB
def pi:LSO:=[Aa 14 0,Ar 15 14,Ac 16 0 15,Ab 17 1 16,o1 18 (.mrange (tm 17))]
def ph:LSO:=[o1 19 (.mnext (tm 18)),As 20 19]
def pg:LSO:=[o1 21 (.mentry (tm 18)),As 22 21,Aw 23 21,B6 7,Aa 6 22,Ai 4 7 23]
def pf:LSO:=[Aa 24 1,Aa 25 6,Aq 26 52 24 25,Ak 27 26,Ad 28 0]
def o9:LSO:=[Al 29 28 27]
def o8:LSO:=[An 30 1 26 28,Ab 31 1 30,Aa 9 31]
def o7:LSO:=[Ac 33 1 7,Ab 34 1 33,Aa 35 9,Aq 36 48 34 35,Aa 32 36,As 37 32,Aw 38 32,Aa 10 37,Aa 11 38]
def o6:LSO:=[Aa 39 11,Ay 40 39]
def o5:LSO:=[Aa 41 2,Aa 42 6,Aa 43 10,o1 44 (.build [(.str []),(.bool false),(.str [])] [(0,(1,(tm 42))),(1,(1,(.av (.bool false)))),(2,(1,(tm 43)))]),
 B7 45 41 44]
def o4:LSO:=[Aa 46 10,Am 47 41 46,Ak 48 47,Ad 49 0]
def nh:LSO:=[Al 50 49 48]
def ng:LSO:=[An 51 1 47 49,Ab 52 1 51,Aa 13 52]
def nf:LSO:=[Aa 53 2,Aa 54 6,Aa 55 13,o1 56 (.build [(.str []),(.bool false),(.str [])] [(0,(1,(tm 54))),(1,(1,(.av (.bool true)))),(2,(1,(tm 55)))]),
 B7 57 53 56]
def mZ:LSO:=[Af 58 49 1,Aa 49 58]
def mY:LSO:=[Af 59 28 1,Aa 28 59]
def iA:aG:=⟨60,(aos pi Cx (aov 0 (aos ph Cu (.seq (aow 20 0) (.block 1 (aos pg C4 (aos pf CS (aov 2 (aos o9 [] (.seq (aow 29 2) (.seq (.block 3 (aos o8 Cv (aos o7 CK (.seq (aos o6 Cu (aot 40 (.exit 3) .skip)) (aos o5 C6 (aos o4 CD (aov 4 (aos nh [] (.seq (aow 50 4) (.seq (.block 5 (aos ng Cv (.sreg nf C6))) (.sreg mZ Cu))))))))))) (.sreg mY Cu)))))))))))),[]⟩
attribute [push_cast] pi ph pg pf o9 o8 o7 o6 o5 o4 nh ng nf mZ mY
theorem G0:aox 53=aoy iA:=aoB
def qR:LSO:=[A4 3 0,A4 4 1]
def qQ:LSO:=[Ab 10 1 3,BS 11 10]
def qP:LSO:=[Ab 12 1 3,Ab 13 1 4,Aq 14 35 12 13]
def qO:LSO:=[Ah 6]
def qN:LSO:=[Aa 15 2,Ak 16 15,Ad 17 0]
def qM:LSO:=[Al 18 17 16]
def qL:LSO:=[An 19 2 15 17,Ap 20 2 19,Bz 8,Ai 2 8 20]
def qK:List (aj×Kd):=
 [A8 21 6,A7 22 0 8,A0 23 1 22 0 0,A7 24 1 8,A0 25 1 24 0 0,Bb 26 51 25 0 0,od 27 (.build [(.str []),(.sl [] 0 (some 0))] [(0,(1,(tm 23))),(1,(1,(tm 26)))]) .pure,
 od 28 (.bslice false 2 1 [(.str []),(.sl [] 0 (some 0))] [(0,(2,(tm 27)))]) (.read 0 0)]
def pl:List aj :=
 [⟨(some 29),(.app 1 2 40 [(.str []),(.sl [] 0 (some 0))] (tm 21) (tm 28)),none⟩,⟨(some 6),(.mv (tm 29)),none⟩]
def qJ:LSO:=[Af 30 17 1,Aa 17 30]
def qI:List (aj×Kd):=
 [A0 31 1 3 0 0,AI 32 31 0 0,A7 33 1 32,A0 34 1 33 0 0,A0 35 1 4 0 0,A8 36 6]
def pj:List aj :=
 [⟨none,(.mset .int (tm 34) (tm 35) (tm 36)),none⟩]
def pw:LSO:=[Ab 37 1 3,Ar 38 37,Ac 39 0 38,Ab 40 1 39,o1 41 (.mrange (tm 40))]
def pu:LSO:=[o1 42 (.mnext (tm 41)),As 43 42]
def pq:LSO:=[o1 44 (.mentry (tm 41)),As 45 44,Aa 9 45]
def pp:LSO:=[Aa 46 6,Aa 47 9,Aq 48 52 46 47,Ak 49 48,A3 50 49 0]
def po:List (aj×Kd):=
 [A0 51 1 3 0 0,AI 52 51 0 0,A7 53 2 52,A0 54 1 53 0 0,A8 55 9,od 56 (.mget .str false .nilmap (tm 54) (tm 55)) (.read 0 0),A0 57 1 4 0 0]
def nu:List aj :=
 [⟨none,(.mset .int (tm 56) (tm 57) (.av (.bool true))),none⟩]
def pn:LSO:=[Ab 58 1 3,Aa 59 6,o1 60 (.mkfn 54 [(tm 3),(tm 4)]),AA 61 53 58 59 60]
def lV:aG:=⟨62,(aos qR [] (.seq (aos qQ Cu (aot 11 .ret .skip)) (aos qP CQ (aos qO [] (.seq (aos qN [] (aov 0 (aos qM [] (.seq (aow 18 0) (.seq (.block 1 (aos qL Cv (.dregM qK pl CI))) (.sreg qJ Cu)))))) (.seq (.dregM qI pj CM) (.seq (aos pw Cx (aov 2 (aos pu Cu (.seq (aow 43 2) (.block 3 (aos pq Cv (aos pp Cx (aot 50 (.dregM po nu C7) .skip)))))))) (.sreg pn CN)))))))),[]⟩
attribute [push_cast] qR qQ qP qO qN qM qL qK pl qJ qI pj pw pu pq pp po nu pn
theorem LL:aox 21=aoy lV:=aoB
def nr:LSO:=[A4 3 0]
def nq:LSO:=[Ab 4 1 1,Ar 5 4,Ac 6 3 5,Ab 7 1 6,Ap 8 3 3,BT 9 7 8,o1 10 (.eqk false .map (tm 9) (.av .nilmap))]
def np:List (aj×Kd):=
 [A0 11 1 1 0 1,AI 12 11 0 1,A7 13 3 12,A0 14 1 13 0 1,BI 15 3 3 0 1,
 (⟨(some 16),.mkmap,none⟩,.eff)]
def lh:List aj :=
 [⟨none,(.mset (.st [.str,.bool,.str]) (tm 14) (tm 15) (tm 16)),none⟩]
def nl:List (aj×Kd):=
 [A0 17 1 1 0 0,AI 18 17 0 0,A7 19 3 18,A0 20 1 19 0 0,BI 21 3 3 0 0,od 22 (.mget (.st [.str,.bool,.str]) false .nilmap (tm 20) (tm 21)) (.read 0 0),A0 23 1 2 0 0]
def k9:List aj :=
 [⟨none,(.mset .int (tm 22) (tm 23) (.av (.bool true))),none⟩]
def cA:aG:=⟨24,(aos nr [] (.seq (.seq (.sdreg nq [(.read 0 0),(.read 0 0),.pure,(.read 0 0),(.read 0 0)] C0) (aot 10 (.dregM np lh CM) .skip)) (.dregM nl k9 C7))),[]⟩
attribute [push_cast] nr nq np lh nl k9
theorem fe:aox 54=aoy cA:=aoB
def pT:LSO:=[A4 2 0,A4 3 1]
def pS:LSO:=[Ab 8 1 2,BS 9 8]
def pR:LSO:=[Ab 11 1 2,Ar 12 11,Ac 13 1 12,Ab 14 1 13,Ab 15 1 3,o1 16 (.mget .int true (.sl [] 0 (some 0)) (tm 14) (tm 15)),Aa 10 16,As 17 10,Aw 18 10,Aa 4 17,
 Aa 5 18]
def pQ:LSO:=[Aa 19 5,Ay 20 19]
def pP:List (aj×Kd):=
 [A0 21 1 2 0 0,AI 22 21 0 0,A7 23 1 22,A0 24 1 23 0 0,A0 25 1 3 0 0]
def nL:List aj :=
 [⟨none,(.mdel .int (tm 24) (tm 25)),none⟩]
def pO:LSO:=[Ab 26 1 2,Ar 27 26,Ac 28 2 27,Ab 29 1 28,o1 30 (.mrange (tm 29))]
def pN:LSO:=[o1 31 (.mnext (tm 30)),As 32 31]
def pM:LSO:=[o1 33 (.mentry (tm 30)),Aw 34 33,Aa 7 34]
def pL:LSO:=[Aa 35 7,Ab 36 1 3,o0 (.mdel .int (tm 35) (tm 36))]
def pK:LSO:=[Ab 37 1 2,Aa 38 4,o1 39 (.mkfn 85 [(tm 2),(tm 3)]),AA 40 53 37 38 39]
def dR:aG:=⟨41,(aos pT [] (.seq (aos pS Cu (aot 9 .ret .skip)) (.seq (.sdreg pR [(.read 0 0),(.read 0 0),.pure,(.read 0 0),(.read 0 0),(.read 0 0),.pure,.pure,.pure,.pure] CR) (.seq (aos pQ Cu (aot 20 .ret .skip)) (.seq (.dregM pP nL C6) (.seq (aos pO Cx (aov 0 (aos pN Cu (.seq (aow 32 0) (.block 1 (aos pM Cv (.sreg pL C3))))))) (.sreg pK CN))))))),[]⟩
attribute [push_cast] pT pS pR pQ pP nL pO pN pM pL pK
theorem nO:aox 35=aoy dR:=aoB
def lq:LSO:=[A4 3 0]
def lp:List (aj×Kd):=
 [A0 4 1 1 0 0,AI 5 4 0 0,A7 6 3 5,A0 7 1 6 0 0,BI 8 3 3 0 0,od 9 (.mget (.st [.str,.bool,.str]) false .nilmap (tm 7) (tm 8)) (.read 0 0),A0 10 1 2 0 0]
def ja:List aj :=
 [⟨none,(.mdel .int (tm 9) (tm 10)),none⟩]
def ln:LSO:=[Ab 11 1 1,Ar 12 11,Ac 13 3 12,Ab 14 1 13,Ap 15 3 3,BT 16 14 15,o1 17 (.mlen (tm 16)),Ao 18 17 0]
def lm:List (aj×Kd):=
 [A0 19 1 1 0 0,AI 20 19 0 0,A7 21 3 20,A0 22 1 21 0 0,BI 23 3 3 0 0]
def i8:List aj :=
 [⟨none,(.mdel (.st [.str,.bool,.str]) (tm 22) (tm 23)),none⟩]
def bb:aG:=⟨24,(aos lq [] (.seq (.dregM lp ja C7) (.seq (.sdreg ln [(.read 0 0),(.read 0 0),.pure,(.read 0 0),(.read 0 0)] C2) (aot 18 (.dregM lm i8 C6) .skip)))),[]⟩
attribute [push_cast] lq lp ja ln lm i8
theorem cM:aox 85=aoy bb:=aoB
def qW:LSO:=[Ag 4]
def qV:LSO:=[Aa 7 0,BS 8 7]
def qU:LSO:=[Ag 4]
def qT:List (aj×Kd):=
 [A8 10 0,AI 11 10 0 1,A7 12 0 11,A0 13 1 12 0 1,A8 14 1,Bb 15 38 14 0 1,
 od 16 (.mget .str true (.agg [(.str []),(.int .i64 0),(.bool false),(.bool false)]) (tm 13) (tm 15)) (.read 0 1),A8 9 16,od 17 (.extract (tm 9) 0) .pure,
 od 18 (.extract (tm 9) 1) .pure,od 5 (.alloc [(.str []),(.int .i64 0),(.bool false),(.bool false)]) .eff,
 (⟨none,(.store 4 (tm 5) (tm 17)),none⟩,.eff)]
def pJ:List aj :=
 [⟨(some 6),(.mv (tm 18)),none⟩]
def qS:LSO:=[Aa 19 6,Aa 4 19]
def dZ:aG:=⟨20,(aos qW [] (.seq (aos qV Cu (aou 8 (.sreg qU []))) (.seq (.dregM qT pJ CF) (aos qS Cu .ret)))),[(.tmp 4)]⟩
attribute [push_cast] qW qV qU qT pJ qS
theorem p5:aox 11=aoy dZ:=aoB
def nj:LSO:=[Ag 4]
def ni:LSO:=[Aa 5 0,Aa 6 1,Aq 7 11 5 6,Aa 8 7,.grp none 8 true
 [Ae 9 8 0,AS 10 8 9,A6 11 8 0 10,A5 12 8 1 11,Ae 13 8 1,AL 14 8 38 13,
 og 15 8 true (.mget .str false (.agg [(.str []),(.int .i64 0),(.bool false),(.bool false)]) (tm 12) (tm 14)),og 16 8 true (.field false 1 1 (tm 15)),Cp 17 8 16 3]
 18 (tm 17),Aa 4 18]
def dH:aG:=⟨19,(aos nj [] (.seq (.sdreg ni [.pure,.pure,(.read 0 0),.pure,.pure,(.read 0 0),.pure,(.read 0 0),.pure,(.read 0 0)] Cy) .ret)),[(.tmp 4)]⟩
attribute [push_cast] nj ni
theorem lU:aox 109=aoy dH:=aoB
def i7:LSO:=[Ah 4]
def i6:LSO:=[Aa 5 0,Aa 6 1,Aq 7 11 5 6,Ay 8 7]
def iZ:LSO:=[Ah 4]
def iY:LSO:=[Aa 9 0,Ar 10 9,Ac 11 2 10,Ab 12 1 11,Aa 13 1,Am 14 38 13,o1 15 (.mget .str false .nilmap (tm 12) (tm 14)),Am 16 44 15,Aa 4 16]
def cZ:aG:=⟨17,(aos i7 [] (.seq (aos i6 Cw (aou 8 (.sreg iZ []))) (.seq (.sdreg iY [.pure,(.read 0 0),.pure,(.read 0 0),.pure,(.read 0 0)] CG) .ret))),[(.tmp 4)]⟩
attribute [push_cast] i7 i6 iZ iY
theorem il:aox 14=aoy cZ:=aoB
def nK:LSO:=[Ah 6]
def nJ:LSO:=[Aa 9 0,Aa 10 1,Aq 11 11 9 10,Ay 12 11]
def nI:LSO:=[Ah 6]
def nH:LSO:=[Aa 14 0,Ar 15 14,Ac 16 0 15,Ab 17 1 16,Aa 18 1,Am 19 38 18,
 o1 20 (.mget .str false (.agg [(.str []),(.int .i64 0),(.bool false),(.bool false)]) (tm 17) (tm 19)),o1 21 (.field false 1 1 (tm 20)),Aa 22 2,Aq 23 48 21 22,Aa 13 23,As 24 13,
 Aw 25 13,Aa 7 24,Aa 8 25]
def nG:LSO:=[Aa 26 8,Ay 27 26]
def nF:LSO:=[Ah 6]
def nE:LSO:=[Aa 28 0,Ar 29 28,Ac 30 3 29,Ab 31 1 30,Aa 32 1,Am 33 38 32,Aa 34 7,
 o1 35 (.build [(.str []),(.bool false),(.str [])] [(0,(1,(tm 33))),(1,(1,(.av (.bool false)))),(2,(1,(tm 34)))]),BT 36 31 35,Am 37 44 36,Aa 6 37]
def bC:aG:=⟨38,(aos nK [] (.seq (aos nJ Cw (aou 12 (.sreg nI []))) (.seq (.sdreg nH [.pure,(.read 0 0),.pure,(.read 0 0),.pure,(.read 0 0),(.read 0 0),(.read 0 0),.pure,(.read 0 0),.pure,.pure,.pure,.pure] [true,true,false,false,false,false,false,false,false,false,false,false,false,false,false]) (.seq (aos nG Cu (aou 27 (.sreg nF []))) (.seq (.sdreg nE [.pure,(.read 0 0),.pure,(.read 0 0),.pure,(.read 0 0),.pure,.pure] CP) .ret))))),[(.tmp 6)]⟩
attribute [push_cast] nK nJ nI nH nG nF nE
theorem dJ:aox 18=aoy bC:=aoB
def pI:LSO:=[Ah 6]
def pH:LSO:=[Aa 15 0,Aa 16 1,Aq 17 11 15 16,Ay 18 17]
def pG:LSO:=[Ah 6]
def pF:LSO:=[Aa 19 1,Am 20 38 19,Aa 7 20]
def pE:LSO:=[Aa 21 0,Ar 22 21,Ac 23 2 22,Ab 24 1 23,Aa 25 7,o1 26 (.mget .str false .nilmap (tm 24) (tm 25)),Am 27 40 26,Aa 8 27]
def pD:LSO:=[Aa 28 2,Ak 29 28,Ad 30 0]
def pB:LSO:=[Al 31 30 29]
def pA:LSO:=[An 32 2 28 30,Ap 33 2 32,BH 10,Ai 2 10 33]
def pz:LSO:=[Ac 34 1 10,Ab 35 1 34,Aa 11 35]
def py:LSO:=[Aa 36 0,Ar 37 36,Ac 38 0 37,Ab 39 1 38,Aa 40 7,
 o1 41 (.mget .str false (.agg [(.str []),(.int .i64 0),(.bool false),(.bool false)]) (tm 39) (tm 40)),o1 42 (.field false 1 1 (tm 41)),AE 43 42 2]
def nD:LSO:=[Aa 44 11,Am 45 38 44,Aa 11 45]
def nC:LSO:=[Aa 46 11,Am 47 41 46,Ak 48 47,Ad 49 0]
def nB:LSO:=[Al 50 49 48]
def nA:LSO:=[An 51 1 47 49,Ab 52 1 51,Aa 13 52]
def nz:LSO:=[Aa 53 0,Ar 54 53,Ac 55 3 54,Ab 56 1 55,Aa 57 7,Aa 58 13,
 o1 59 (.build [(.str []),(.bool false),(.str [])] [(0,(1,(tm 57))),(1,(1,(.av (.bool true)))),(2,(1,(tm 58)))]),BT 60 56 59,o1 14 (.alloc [.nilmap]),Ai 1 14 60]
def ny:LSO:=[Aa 61 8,o1 62 (.mkfn 43 [(tm 14)]),Aq 63 42 61 62]
def nx:LSO:=[Af 64 49 1,Aa 49 64]
def nw:LSO:=[Af 65 30 1,Aa 30 65]
def nv:LSO:=[Aa 66 8,Am 67 44 66,Aa 6 67]
def dQ:aG:=⟨68,(aos pI [] (.seq (aos pH Cw (aou 18 (.sreg pG []))) (aos pF Cv (aos pE C2 (.seq (aos pD [] (aov 0 (aos pB [] (.seq (aow 31 0) (.seq (.block 1 (aos pA Cv (aos pz Cv (.seq (aos py C2 (aot 43 (.sreg nD Cv) .skip)) (aos nC CD (aov 2 (aos nB [] (.seq (aow 50 2) (.seq (.block 3 (aos nA Cv (aos nz CG (.sreg ny CQ)))) (.sreg nx Cu)))))))))) (.sreg nw Cu)))))) (aos nv Cv .ret)))))),[(.tmp 6)]⟩
attribute [push_cast] pI pH pG pF pE pD pB pA pz py nD nC nB nA nz ny nx nw nv
theorem nN:aox 13=aoy dQ:=aoB
def ll:LSO:=[Ag 5]
def lk:LSO:=[Ab 6 1 2,Aa 7 0,o1 8 (.mget .int false (.bool false) (tm 6) (tm 7)),Ay 9 8,Aa 5 9]
def dt:aG:=⟨10,(aos ll [] (aos lk Cx .ret)),[(.tmp 5)]⟩
attribute [push_cast] ll lk
theorem jt:aox 43=aoy dt:=aoB
def cU:LSO:=[Aa 6 0,o1 7 (.mrange (tm 6))]
def cT:LSO:=[o1 8 (.mnext (tm 7)),As 9 8]
def cR:LSO:=[o1 10 (.mentry (tm 7)),As 11 10,Aw 12 10,Aa 4 11,Aa 5 12]
def cQ:LSO:=[Aa 13 1,Aa 14 4,Aa 15 5,o1 16 (.callv (tm 13) [(tm 14),(tm 15)])]
def cP:LSO:=[Aa 17 0,Aa 18 4,o0 (.mdel .int (tm 17) (tm 18))]
def bV:aG:=⟨19,(aos cU Cu (aov 0 (aos cT Cu (.seq (aow 9 0) (.block 1 (aos cR C4 (aos cQ Cw (aot 16 (.sreg cP C3) .skip)))))))),[]⟩
attribute [push_cast] cU cT cR cQ cP
theorem eG:aox 42=aoy bV:=aoB
attribute [push_cast] LK tM iA lV cA dR bb dZ dH cZ bC dQ dt bV
set_option maxHeartbeats 8000000
set_option maxRecDepth 100000
abbrev Atr:=List UInt8×List (List UInt8)
theorem iD(p:Nat->Bool)(xs:List (List UInt8)):AV.refsL p (xs.map AV.str)=true:=AV.refsL_iff.2 λa ha=>by obtain⟨x,_,rfl⟩:=alg.1 ha;rfl
theorem afx(xs:List (List UInt8)):(xs.map AV.str).all AV.one=true:=by rw[aln];intro a ha;obtain⟨x,_,rfl⟩:=alg.1 ha;rfl
abbrev atA(a:Atr):List AV:=[.str a.1,.sl (a.2.map AV.str) a.2.length none]
def bp(l:List Atr):List AV:=l.flatMap atA
theorem Mm(a:Atr)(l:List Atr):bp (a::l)=.str a.1 :: .sl (a.2.map AV.str) a.2.length none::bp l:=rfl
theorem Sh(l m:List Atr):bp (l++m)=bp l++bp m:=by simp[bp]
theorem p6(l:List Atr):(bp l).length=l.length*2:=by
 induction l with
 |nil=>rfl
 |cons a l ih=>rw[Mm];simp only[alp];omega
theorem Ml(p:Nat->Bool):∀l:List Atr,AV.refsL p (bp l)=true
 |[]=>rfl
 |a::l=>by rw[Mm];simp[AV.refsL,AV.refs,iD,Ml p l]
theorem eB(l:List (List UInt8)):AV.frzL (l.map AV.str)=l.map AV.str:=by rw[AV.frzL_eq,alR];rfl
theorem lW:∀l:List Atr,AV.frzL (bp l)=bp l
 |[]=>rfl
 |a::l=>by rw[Mm];simp only[AV.frzL,AV.frz,eB,lW l]
theorem rh:∀{l:List Atr}{k:Nat},k<l.length->((bp l).drop (k*2)).take 2=atA (l.getD k ([],[]))
 |a::l,0,_=>rfl
 |a::l,k+1,h=>by have ih:=@rh l k (by simpa using h);rw[show(k+1)*2=k*2+1+1 by omega,Mm];simpa using ih
abbrev G9(l:List (List UInt8)):AV:=.sl (l.map AV.str) l.length none
theorem agS{l:List Atr}{k:Nat}(hk:k<l.length):(bp l).getD (k*2+1) .undef=G9 (l.getD k ([],[])).2:=by have h2:=congrArg (λl=>l[1]?) (rh hk);simp only[amc (show 1<2 by omega),al5]at h2;rw[alD,h2];rfl
end Go.Proofs.YtcmfcpjnhephaaaGreatDoor.Av
set_option maxRecDepth 100000
namespace Go.Proofs.YtcmfcpjnhephaaaGreatDoor.Av
open Go
def H3:LSO:=[Ah 2]
def H2:LSO:=[Ah 3]
def H1:LSO:=[Aa 6 0,Ak 7 6,Ad 8 0]
def H0:LSO:=[Al 9 8 7]
def HZ:LSO:=[An 10 2 6 8,Ap 11 2 10,Bz 5,Ai 2 5 11]
def HY:List (aj×Kd):=
 [A8 12 3,A7 13 0 5,A0 14 1 13 0 1,od 15 (.bslice false 1 0 [] []) (.read 0 0),A7 16 1 5,A0 17 1 16 0 0,od 18 (.app 0 1 16 [(.str [])] (tm 15) (tm 17)) .eff,
 od 19 (.build [(.str []),(.sl [] 0 (some 0))] [(0,(1,(tm 14))),(1,(1,(tm 18)))]) .pure,od 20 (.bslice false 2 1 [(.str []),(.sl [] 0 (some 0))] [(0,(2,(tm 19)))]) (.read 0 0)]
def zG:List aj :=
 [⟨(some 21),(.app 1 2 40 [(.str []),(.sl [] 0 (some 0))] (tm 12) (tm 20)),none⟩,⟨(some 3),(.mv (tm 21)),none⟩]
def HX:LSO:=[Af 22 8 1,Aa 8 22]
def HW:LSO:=[Aa 23 3,Aa 2 23]
def yI:aG:=⟨24,(aos H3 [] (aos H2 [] (.seq (aos H1 [] (aov 0 (aos H0 [] (.seq (aow 9 0) (.seq (.block 1 (aos HZ Cv (.dregM HY zG CP))) (.sreg HX Cu)))))) (aos HW Cu .ret)))),[(.tmp 2)]⟩
attribute [push_cast] H3 H2 H1 H0 HZ HY zG HX HW
theorem Ut:aI Tryz.prog (λr i=>if r=5/\i=6 then 0 else 1) 86=some yI.raw:=aoB
def Ol:LSO:=[Ag 2]
def Ok:LSO:=[Aa 7 0,Ak 8 7,Ad 9 0]
def Oj:LSO:=[Al 10 9 8]
def Oi:LSO:=[An 11 2 7 9,Ap 12 2 11,Bz 4,Ai 2 4 12]
def Oh:LSO:=[Aa 13 0,Ak 14 13,A3 15 14 60,Aa 16 15,.grp none 16 false
 [AK 17 16 1 4,AF 18 16 1 17,Bc 19 16 18,A9 20 16 19 60]
 21 (tm 20)]
def Og:LSO:=[Ag 2]
def Of:LSO:=[Ac 22 1 4,Ab 23 1 22,Ak 24 23,Ad 25 0]
def Oe:LSO:=[Al 26 25 24]
def Od:LSO:=[An 27 1 23 25,Ab 28 1 27,Aa 6 28]
def Oc:LSO:=[Aa 29 6,Ax 30 29,A3 31 30 5000]
def KP:LSO:=[Ag 2]
def KO:LSO:=[Af 32 25 1,Aa 25 32]
def KN:LSO:=[Af 33 9 1,Aa 9 33]
def KM:LSO:=[Az 2]
def LJ:aG:=⟨34,(aos Ol [] (.seq (aos Ok [] (aov 0 (aos Oj [] (.seq (aow 10 0) (.seq (.block 1 (aos Oi Cv (.seq (aos Oh Cx (aou 21 (.sreg Og []))) (aos Of CD (aov 2 (aos Oe [] (.seq (aow 26 2) (.seq (.block 3 (aos Od Cv (aos Oc Cv (aou 31 (.sreg KP []))))) (.sreg KO Cu))))))))) (.sreg KN Cu)))))) (aos KM [] .ret))),[(.tmp 2)]⟩
attribute [push_cast] Ol Ok Oj Oi Oh Og Of Oe Od Oc KP KO KN KM
theorem Wl:aox 33=aoy LJ:=aoB
attribute [push_cast] yI LJ
variable {L:List Blk}{K:alc}
set_option maxHeartbeats 8000000
set_option maxRecDepth 100000
theorem ahM{l:List Atr}{cap:Option Nat}(hl:l.length<=1100000)(hz:∀a∈l,a.2.length<=1100000)(h:K (.sl (bp l) l.length none) L):
  alb 86 [.sl (bp l) l.length cap] L K:=by
 replace h:=hid h;refine ala Ut ?_;refine bt (l:=[]) (n:=0) 3 2 rfl (alG 2).symm ?_;refine ah (λm T' L'=>∃(k:Nat) (C:List AV) (X:List Blk),m=l.length-k/\k<=l.length/\C=bp (l.take k)/\T'=[(8,.int .i64 (k:Int)),(7,.int .i64 l.length),(6,.sl (bp l) l.length cap),(3,.gsl C k L.length 2)]/\L'=L++(.spare k 2::X)) aoD ⟨0,[],[],rfl,ali _,rfl,rfl,rfl⟩ ?_;rintro _ _ _ ⟨k,C,X,rfl,hk,hC,rfl,rfl⟩;by_cases hlt:k<l.length;have g1:(k:Int)<(l.length:Int):=aoz;have g2:=ak9 k aoz;have e3:=rh hlt;have e4:k*2+2<=(bp l).length:=by rw[p6];omega
 obtain⟨⟨nm,vs⟩,ha⟩:∃a,l.getD k ([],[])=a:=⟨_,rfl⟩;have htk:bp (l.take (k+1))=bp (l.take k)++[.str nm,.sl (vs.map AV.str) vs.length none]:=by rw[aly hlt,Sh,show l[k]=(nm,vs)by rw[<- ha];simp[hlt]];rfl
 have hvs:=hz (nm,vs) (by rw[<- ha];simp[hlt]);simp only at hvs;rw[ha]at e3;simp only[atA]at e3;have e0:AV.frzL (vs.map AV.str)=vs.map AV.str:=eB vs;replace htk:=hid htk;replace hC:=hid hC;clear ha hz;refine wk ?_;exact aoE aoz aoC ⟨k+1,_,_,rfl,hlt,by rw[htk.o,hC.o],rfl,rfl⟩;have hke:k=l.length:=aoz;subst hke;have g1:¬(l.length:Int)<(l.length:Int):=aoz;rw[alt]at hC;subst hC;have e0:=lW l;refine wk ?_;refine aW ?_;simp only[AV.frz,e0];exact ae (by simp only[AV.refs,Ml]) h.o
def YP(n:Nat)(a:Atr):Bool:=decide (n<=60)&&decide (a.2.length<=60)&&a.2.all λv=>decide (v.length<=5000)
def aad(l:List Atr):Bool:=l.all (YP l.length)
theorem acu{l:List Atr}(h:aad l=true):l.length<=60/\∀a∈l,a.2.length<=60/\∀v∈a.2,v.length<=5000:=by simp only[aad,aln,YP,alk,decide_eq_true_eq]at h;refine⟨?_,λa ha=>⟨(h a ha).1.2,(h a ha).2⟩⟩;rcases l with _|⟨x,t⟩;simp;exact(h x aoA).1.1
theorem akA{l:List Atr}{cap:Option Nat}(hl:(l.length:Int)<=9223372036854775807)(hz:∀a∈l,(a.2.length:Int)<=9223372036854775807)(h:K (.bool (aad l)) L):
  alb 33 [.sl (bp l) l.length cap] L K:=by
 obtain⟨R,hR⟩:=ak7 (l.all (YP l.length));rw[aad,hR]at h;replace h:=hid h;replace hR:=hid hR;refine ala Wl ?_;refine ah (λm T' L'=>∃(k:Nat) (X:List Blk),m=l.length-k/\k<=l.length/\Hid ((l.drop k).all (YP l.length)=R)/\T'=[(9,.int .i64 (k:Int)),(8,.int .i64 l.length),(7,.sl (bp l) l.length cap),(0,.sl (bp l) l.length cap)]/\L'=L++X) aoD ⟨0,[],rfl,ali _,hid (by simpa using hR.o),rfl,aoA⟩ ?_;rintro _ _ _ ⟨k,X,rfl,hk,hI,rfl,rfl⟩;by_cases hlt:k<l.length;have g1:(k:Int)<(l.length:Int):=aoz;have g2:=ak9 k aoz;have e3:=rh hlt;have e4:k*2+2<=(bp l).length:=by rw[p6];omega
 obtain⟨⟨nm,vs⟩,ha⟩:∃a,l.getD k ([],[])=a:=⟨_,rfl⟩;have hdr:l.drop k=(nm,vs)::l.drop (k+1):=by rw[al1 hlt,<- ha];simp[hlt]
 have hvs:=hz (nm,vs) (by rw[<- ha];simp[hlt]);simp only at hvs;rw[ha]at e3;simp only[atA]at e3;have hI2:=hI.o;rw[hdr,am7]at hI2;have no:YP l.length (nm,vs)=false->K (.bool false) L:=λe=>by rw[e,amA]at hI2;have:=h.o;rwa[<- hI2]at this
 replace no:=hid no;clear hI hdr ha hz hR;by_cases h1:(60:Int)<(l.length:Int);have h':=hid (no.o (by simp[YP];omega));clear hI2;refine wk ?_;exact ae rfl h'.o;by_cases h2:(60:Int)<(vs.length:Int);have h':=hid (no.o (by simp[YP];omega));clear hI2;refine wk ?_;exact ae rfl h'.o;obtain⟨rv,hrv⟩:=ak7 (vs.all (λv=>decide (v.length<=5000)));have hfe:YP l.length (nm,vs)=rv:=by rw[YP,hrv,decide_eq_true aoz,decide_eq_true (by simp only;omega)];rfl
 rw[hfe]at hI2;replace hI2:=hid hI2;replace hrv:=hid hrv;replace no:=hid (λe:rv=false=>no.o (hfe.trans e));clear hfe;refine wk ?_;refine ah (λm T' L'=>∃j:Nat,m=vs.length-j/\j<=vs.length/\Hid ((vs.drop j).all (λv=>decide (v.length<=5000))=rv)/\T'=[(25,.int .i64 (j:Int)),(24,.int .i64 vs.length),(23,.sl (vs.map AV.str) vs.length none),(9,.int .i64 (k:Int)),(8,.int .i64 l.length),(7,.sl (bp l) l.length cap),(0,.sl (bp l) l.length cap)]/\L'=L++(X++[.cells [.str nm,.sl (vs.map AV.str) vs.length none]])) aoD ⟨0,rfl,ali _,hid (by simpa using hrv.o),rfl,aoA⟩ ?_;rintro _ _ _ ⟨j,rfl,hj,hJ,rfl,rfl⟩;by_cases hjl:j<vs.length;have j1:(j:Int)<(vs.length:Int):=aoz;have j2:=ak9 j aoz;obtain⟨v,hv⟩:=ak7 (vs.getD j []);have g3:(vs.map AV.str).getD j .undef=.str v:=by rw[<- hv];simp[hjl]
 have hdr:vs.drop j=v::vs.drop (j+1):=by rw[al1 hjl,<- hv];simp[hjl]
 have hJ2:=hJ.o;rw[hdr,am7]at hJ2;clear hv hdr hJ;by_cases h3:(5000:Int)<(v.length:Int);have h':=hid (no.o (by rw[<- hJ2,decide_eq_false aoz,amA]));clear hJ2;refine wk ?_;exact ae rfl h'.o;rw[decide_eq_true aoz,al0]at hJ2;replace hJ2:=hid hJ2;refine wk ?_;exact aoE aoz aoC ⟨j+1,rfl,hjl,hJ2,rfl,rfl⟩;have j1:¬(j:Int)<(vs.length:Int):=aoz;have hJ2:=hJ.o;rw[amU aoz,List.all_nil]at hJ2;have hI3:=hI2.o;rw[<- hJ2,al0]at hI3;replace hI3:=hid hI3;clear hJ hJ2;refine wk ?_;exact aoE aoz aoC ⟨k+1,_,rfl,hlt,hI3,rfl,rfl⟩;have hke:k=l.length:=aoz;subst hke;have g1:¬(l.length:Int)<(l.length:Int):=aoz;have hI2:=hI.o;rw[alY,List.all_nil]at hI2;have h':=h.o;rw[<- hI2]at h';replace h':=hid h';clear hI hI2 hR;refine wk ?_;exact ae rfl h'.o
end Go.Proofs.YtcmfcpjnhephaaaGreatDoor.Av
set_option maxRecDepth 100000
namespace Go.Proofs.YtcmfcpjnhephaaaGreatDoor.Av
open Go
variable {c:UInt8}{s:List UInt8}
def Kr:LSO:=[Au 2]
def Kq:LSO:=[Aa 6 0,o1 7 (.s2bO (tm 6)),Aa 3 7]
def Kp:LSO:=[Aa 8 3,Ak 9 8,Ad 10 0]
def Ko:LSO:=[Al 11 10 9]
def Kn:LSO:=[Aa 12 10,An 13 1 8 10,Ab 14 1 13,Aa 4 12,Aa 5 14]
def Km:LSO:=[Aa 15 5,Cl 16 15,Aa 17 16,.grp none 17 true
 [Ae 18 17 5,og 19 17 true (.bin .leq (tm 18) (.av (.int .u8 90)))]
 20 (tm 19)]
def Kl:LSO:=[Aa 21 3,Aa 22 4,Aa 23 5,o1 24 (.bin .add (tm 23) (.av (.int .u8 32))),An 25 1 21 22,Ai 1 25 24]
def Kk:LSO:=[Af 26 10 1,Aa 10 26]
def Kj:LSO:=[Aa 27 3,AO 28 27,Aa 2 28]
def yT:aG:=⟨29,(aos Kr [] (aos Kq Cv (.seq (aos Kp [] (aov 0 (aos Ko [] (.seq (aow 11 0) (.seq (.block 1 (aos Kn C4 (aos Km Cw (aot 20 (.sreg Kl C6) .skip)))) (.sreg Kk Cu)))))) (aos Kj Cv .ret)))),[(.tmp 2)]⟩
attribute [push_cast] Kr Kq Kp Ko Kn Km Kl Kk Kj
theorem UE:aI Tryz.prog (λr i=>if r=1/\i=1 then 2 else 1) 38=some yT.raw:=aoB
def Ki:LSO:=[Au 2]
def Kh:LSO:=[Ah 3]
def Kg:LSO:=[Aa 6 0,Am 7 38 6,o1 8 (.s2b (tm 7)),Ak 9 8,Ad 10 0]
def Kf:LSO:=[Al 11 10 9]
def Ke:LSO:=[An 12 1 8 10,Ab 13 1 12,Aa 5 13]
def Kc:LSO:=[Aa 14 5,o1 15 (.bin .eql (tm 14) (.av (.int .u8 32))),Aa 16 15,.grp none 16 true
 [Ae 17 16 3,AU 18 16 17,AZ 19 16 18 0,Ae 20 16 19,.grp (some (16,true)) 20 false
 [Aj 21 20 3,Aj 22 20 3,Bc 23 20 22,Cj 24 20 23 1,og 25 20 false (.iaddr 1 (tm 21) (tm 24)),AF 26 20 1 25,Cm 27 20 26]
 28 (tm 27)]
 29 (tm 28)]
def Kb:LSO:=[Aa 30 3,Aa 31 5,AM 32 31,AH 33 30 32,Aa 3 33]
def Ka:LSO:=[Af 34 10 1,Aa 10 34]
def J9:LSO:=[Aa 35 3,Ak 36 35,A3 37 36 0,Aa 38 37,.grp none 38 true
 [Ae 39 38 3,Ae 40 38 3,AU 41 38 40,BQ 42 38 41 1,B8 43 38 1 39 42,A5 44 38 1 43,Bw 45 38 44]
 46 (tm 45)]
def J8:LSO:=[Aa 47 3,Aa 48 3,Ak 49 48,Bk 50 49 1,o1 51 (.slV 1 (tm 47) none (some (tm 50)) none),Aa 3 51]
def FL:LSO:=[Aa 52 3,AO 53 52,Aa 2 53]
def yS:aG:=⟨54,(aos Ki [] (aos Kh [] (.seq (aos Kg CS (aov 0 (aos Kf [] (.seq (aow 11 0) (.seq (.block 1 (aos Ke Cv (.seq (aos Kc Cw (aot 29 (.exit 1) .skip)) (.sreg Kb Cx)))) (.sreg Ka Cu)))))) (.seq (aos J9 Cx (aot 46 (.sreg J8 Cy) .skip)) (aos FL Cv .ret))))),[(.tmp 2)]⟩
attribute [push_cast] Ki Kh Kg Kf Ke Kc Kb Ka J9 J8 FL
theorem UD:aox 95=aoy yS:=aoB
def JE:LSO:=[Au 2]
def JD:LSO:=[Ah 3]
def JC:LSO:=[Ad 4 0]
def JB:LSO:=[Aa 6 4,Aa 7 0,Ax 8 7,Al 9 6 8]
def JA:LSO:=[Aa 12 0,Aa 13 4,AB 14 12 13,Aa 5 14]
def Jz:LSO:=[Aa 15 5,Cl 16 15,Aa 17 16,.grp none 17 true
 [Ae 18 17 5,og 19 17 true (.bin .leq (tm 18) (.av (.int .u8 90)))]
 20 (tm 19)]
def Jy:LSO:=[Aa 21 5,o1 22 (.bin .sub (tm 21) (.av (.int .u8 65))),o1 23 (.bin .add (tm 22) (.av (.int .u8 97))),Aa 5 23]
def Jx:LSO:=[Aa 24 3,Aa 25 5,AM 26 25,AH 27 24 26,Aa 3 27]
def Jw:LSO:=[Aa 10 4,Af 11 10 1,Aa 4 11]
def Jv:LSO:=[Aa 28 3,AO 29 28,Aa 2 29]
def yQ:aG:=⟨30,(aos JE [] (aos JD [] (.seq (aos JC [] (aov 0 (.seq (aos JB Cw (aow 9 0)) (.seq (.block 1 (aos JA Cw (.seq (aos Jz Cw (aot 20 (.sreg Jy Cw) .skip)) (.sreg Jx Cx)))) (.sreg Jw Cv))))) (aos Jv Cv .ret)))),[(.tmp 2)]⟩
attribute [push_cast] JE JD JC JB JA Jz Jy Jx Jw Jv
theorem UB:aox 39=aoy yQ:=aoB
def Ju:LSO:=[Au 2]
def Jt:LSO:=[Aa 8 0,Am 9 39 8,Aa 3 9]
def Js:LSO:=[Ah 4]
def Jr:LSO:=[Ad 5 0]
def Jq:LSO:=[Aa 10 5,Aa 11 3,Ax 12 11,Al 13 10 12]
def Jp:LSO:=[Ag 6]
def Jo:LSO:=[Aa 16 5,Aa 7 16]
def Jn:LSO:=[Aa 17 7,Aa 18 3,Ax 19 18,Al 20 17 19,Aa 21 20,.grp none 21 true
 [Ae 22 21 6,BF 23 21 22]
 24 (tm 23)]
def Jm:LSO:=[Aa 27 3,Aa 28 7,AB 29 27 28,o1 30 (.bin .neq (tm 29) (.av (.int .u8 32))),Aa 6 30]
def Jl:LSO:=[Aa 25 7,Af 26 25 1,Aa 7 26]
def Fe:LSO:=[Aa 31 6,Ay 32 31,Aa 33 32,.grp none 33 false
 [Aj 34 33 3,Aj 35 33 5,Bu 36 33 34 35,Cm 37 33 36,Aj 38 33 37,.grp (some (33,false)) 38 true
 [Ae 39 38 4,AU 40 38 39,AZ 41 38 40 0,Ae 42 38 41,.grp (some (38,true)) 42 false
 [Aj 43 42 3,Aj 44 42 5,Cj 45 42 44 1,Bu 46 42 43 45,Cm 47 42 46]
 48 (tm 47)]
 49 (tm 48)]
 50 (tm 49)]
def Fd:LSO:=[Aa 51 4,Aa 52 3,Aa 53 5,AB 54 52 53,AM 55 54,AH 56 51 55,Aa 4 56]
def Fc:LSO:=[Aa 14 5,Af 15 14 1,Aa 5 15]
def Fb:LSO:=[Aa 57 4,AO 58 57,Aa 2 58]
def yP:aG:=⟨59,(aos Ju [] (aos Jt Cv (aos Js [] (.seq (aos Jr [] (aov 0 (.seq (aos Jq Cw (aow 13 0)) (.seq (.block 1 (aos Jp [] (.seq (aos Jo Cu (aov 2 (.seq (aos Jn Cy (aow 24 2)) (.seq (.block 3 (.sreg Jm Cx)) (.sreg Jl Cv))))) (.seq (aos Fe Cw (aot 50 (.exit 1) .skip)) (.sreg Fd C0))))) (.sreg Fc Cv))))) (aos Fb Cv .ret))))),[(.tmp 2)]⟩
attribute [push_cast] Ju Jt Js Jr Jq Jp Jo Jn Jm Jl Fe Fd Fc Fb
theorem UA:aox 90=aoy yP:=aoB
def J7:LSO:=[Co 2,Ag 3]
def J6:LSO:=[Aa 5 0,o1 6 (.bin .geq (tm 5) (.av (.int .u8 48))),Aa 7 6,.grp none 7 true
 [Ae 8 7 0,og 9 7 true (.bin .leq (tm 8) (.av (.int .u8 57)))]
 10 (tm 9),Aa 4 10]
def J5:LSO:=[Aa 11 0,BN 12 11,Aa 2 12,Az 3]
def J4:LSO:=[Aa 14 0,o1 15 (.bin .geq (tm 14) (.av (.int .u8 97))),Aa 16 15,.grp none 16 true
 [Ae 17 16 0,og 18 16 true (.bin .leq (tm 17) (.av (.int .u8 102)))]
 19 (tm 18),Aa 13 19]
def J3:LSO:=[Aa 20 0,o1 21 (.bin .sub (tm 20) (.av (.int .u8 97))),o1 22 (.bin .add (tm 21) (.av (.int .u8 10))),Aa 2 22,Az 3]
def J2:LSO:=[Aa 24 0,Cl 25 24,Aa 26 25,.grp none 26 true
 [Ae 27 26 0,og 28 26 true (.bin .leq (tm 27) (.av (.int .u8 70)))]
 29 (tm 28),Aa 23 29]
def J1:LSO:=[Aa 30 0,o1 31 (.bin .sub (tm 30) (.av (.int .u8 65))),o1 32 (.bin .add (tm 31) (.av (.int .u8 10))),Aa 2 32,Az 3]
def J0:LSO:=[Co 2,Ag 3]
def yR:aG:=⟨33,(aos J7 [] (.seq (.block 0 (aos J6 Cx (aot 4 (aos J5 CB .ret) (aos J4 Cx (aot 13 (aos J3 C4 .ret) (aos J2 Cx (aou 23 (.sreg J1 C4)))))))) (aos J0 [] .ret))),[(.tmp 2),(.tmp 3)]⟩
attribute [push_cast] J7 J6 J5 J4 J3 J2 J1 J0
theorem UC:aox 234=aoy yR:=aoB
def FK:LSO:=[Au 2,Ag 3]
def FJ:LSO:=[Aa 10 0,Ax 11 10,o1 12 (.bin .rem (tm 11) (iv 2)),Ao 13 12 1]
def FI:LSO:=[Au 2,Ag 3]
def FH:LSO:=[Aa 14 0,Ax 15 14,o1 16 (.bin .quo (tm 15) (iv 2)),o1 17 (.mkslice 1 1 [(.int .u8 0)] (iv 0) (tm 16)),Aa 4 17]
def FG:LSO:=[Ad 5 0]
def FF:LSO:=[Aa 18 5,Aa 19 0,Ax 20 19,Al 21 18 20]
def FE:LSO:=[Aa 25 0,Aa 26 5,AB 27 25 26,Am 28 234 27,Aa 24 28,As 29 24,Aw 30 24,Aa 6 29,Aa 7 30]
def FD:LSO:=[Aa 32 0,Aa 33 5,Af 34 33 1,AB 35 32 34,Am 36 234 35,Aa 31 36,As 37 31,Aw 38 31,Aa 8 37,Aa 9 38]
def FC:LSO:=[Aa 39 7,Ay 40 39,Aa 41 40,.grp none 41 false
 [Aj 42 41 9,Bl 43 41 42]
 44 (tm 43)]
def FB:LSO:=[Au 2,Ag 3]
def xA:LSO:=[Aa 45 4,Aa 46 6,o1 47 (.bin .shl (tm 46) (.av (.int .u64 4))),Aa 48 8,o1 49 (.bin .or (tm 47) (tm 48)),AM 50 49,AH 51 45 50,Aa 4 51]
def xz:LSO:=[Aa 22 5,Af 23 22 2,Aa 5 23]
def xy:LSO:=[Aa 52 4,AO 53 52,Aa 2 53,Az 3]
def tI:aG:=⟨54,(aos FK [] (.seq (aos FJ Cw (aou 13 (.sreg FI []))) (aos FH Cx (.seq (aos FG [] (aov 0 (.seq (aos FF Cw (aow 21 0)) (.seq (.block 1 (aos FE CK (aos FD CU (.seq (aos FC Cw (aou 44 (.sreg FB []))) (.sreg xA C2))))) (.sreg xz Cv))))) (aos xy CB .ret))))),[(.tmp 2),(.tmp 3)]⟩
attribute [push_cast] FK FJ FI FH FG FF FE FD FC FB xA xz xy
theorem Th:aox 211=aoy tI:=aoB
def EV:LSO:=[Co 2]
def EU:LSO:=[Aa 3 0,o1 4 (.bin .lss (tm 3) (.av (.int .u8 10)))]
def ET:LSO:=[Aa 5 0,o1 6 (.bin .add (.av (.int .u8 48)) (tm 5)),Aa 2 6]
def ER:LSO:=[Aa 7 0,o1 8 (.bin .add (.av (.int .u8 97)) (tm 7)),o1 9 (.bin .sub (tm 8) (.av (.int .u8 10))),Aa 2 9]
def tF:aG:=⟨10,(aos EV [] (.seq (aos EU Cu (aou 4 (.sreg ET Cv))) (aos ER Cw .ret))),[(.tmp 2)]⟩
attribute [push_cast] EV EU ET ER
theorem Te:aox 221=aoy tF:=aoB
def Fa:LSO:=[Au 2,Ag 3]
def E9:LSO:=[Ah 4]
def E8:LSO:=[Aa 9 0,Am 10 39 9,Aa 5 10]
def E7:LSO:=[Ad 6 0]
def E6:LSO:=[Aa 11 6,Af 12 11 1,Aa 13 5,Ax 14 13,Al 15 12 14]
def E5:LSO:=[Ag 7]
def EZ:LSO:=[Ad 8 0]
def EY:LSO:=[Aa 18 8,AD 19 18 256,Aa 20 19,.grp none 20 true
 [Ae 21 20 7,BF 22 20 21]
 23 (tm 22)]
def EX:LSO:=[Aa 26 8,o1 27 (.bin .quo (tm 26) (iv 16)),o1 28 (.conv .u8 (tm 27)),Am 29 221 28,Aa 30 5,Aa 31 6,AB 32 30 31,AC 33 29 32,Aa 34 33,.grp none 34 true
 [Ae 35 34 8,BL 36 34 35 16,og 37 34 true (.conv .u8 (tm 36)),AL 38 34 221 37,Ae 39 34 5,Ae 40 34 6,Ch 41 34 40 1,AT 42 34 39 41,Cd 43 34 38 42]
 44 (tm 43)]
def EW:LSO:=[Aa 45 4,Aa 46 8,o1 47 (.conv .u8 (tm 46)),AM 48 47,AH 49 45 48,Aa 4 49]
def xx:LSO:=[Az 7]
def xw:LSO:=[Aa 24 8,Af 25 24 1,Aa 8 25]
def xv:LSO:=[Aa 50 7,Ay 51 50]
def xu:LSO:=[Au 2,Ag 3]
def xt:LSO:=[Aa 16 6,Af 17 16 2,Aa 6 17]
def xr:LSO:=[Aa 52 0,Ax 53 52,o1 54 (.bin .rem (tm 53) (iv 2)),Ao 55 54 1]
def xq:LSO:=[Au 2,Ag 3]
def xp:LSO:=[Aa 56 4,AO 57 56,Aa 2 57,Az 3]
def tG:aG:=⟨58,(aos Fa [] (aos E9 [] (aos E8 Cv (.seq (aos E7 [] (aov 0 (.seq (aos E6 Cx (aow 15 0)) (.seq (.block 1 (aos E5 [] (.seq (aos EZ [] (aov 2 (.seq (aos EY Cw (aow 23 2)) (.seq (.block 3 (.seq (.sdreg EX [.pure,.pure,.pure,(.read 0 0),.pure,.pure,(.read 0 0),.pure,.pure,.pure,.pure,.pure,(.read 0 0),.pure,.pure,.pure,(.read 0 0)] CI) (aot 44 (aos EW Cy (.sreg xx [])) .skip))) (.sreg xw Cv))))) (aos xv Cu (aou 51 (.sreg xu [])))))) (.sreg xt Cv))))) (.seq (aos xr Cw (aou 55 (.sreg xq []))) (aos xp CB .ret)))))),[(.tmp 2),(.tmp 3)]⟩
attribute [push_cast] Fa E9 E8 E7 E6 E5 EZ EY EX EW xx xw xv xu xt xr xq xp
theorem Tf:aox 189=aoy tG:=aoB
attribute [push_cast] yT yQ tI tG
variable {L:List Blk}{K:alc}
set_option maxHeartbeats 8000000
set_option maxRecDepth 100000
def dF(c:UInt8):UInt8:=if 65<=c.toNat/\c.toNat<=90 then c+32 else c
def af(s:List UInt8):List UInt8:=s.map dF
theorem YB(h1:65<=c.toNat)(h2:c.toNat<=90):((dF c).toNat:Int)=(c.toNat:Int)+32:=by rw[dF,if_pos ⟨h1,h2⟩,UInt8.toNat_add];have:(32:UInt8).toNat=32:=rfl;omega
theorem xR(h:¬(65<=c.toNat/\c.toNat<=90)):dF c=c:=by rw[dF,if_neg h]
theorem jA(l:List UInt8):(u8s l).all YG=true:=by simp only[u8s,List.all_map,aln];intro x _;have:=x.toNat_lt;simp[YG]
theorem gM(l:List UInt8):(u8s l).map Sn=l:=by
 induction l with
 |nil=>rfl
 | cons x l ih =>
   simp only[u8s,alr,alR]at ih⊢;rw[ih];simp[Sn]
theorem UI(l:List UInt8)(c:UInt8):u8s (l++[c])=u8s l++[.int .u8 c.toNat]:=by simp[u8s]
theorem VQ{k:Nat}(h:k<s.length):af (s.take (k+1))=af (s.take k)++[dF (s.getD k 0)]:=by rw[aly h,af,alM];simp[af,h]
theorem bQ(hs:(s.length:Int)<=140737488351232)(h:K (.str (af s)) L):alb 39 [.str s] L K:=by
 replace h:=hid h;refine ala UB ?_;refine bt (l:=[]) (n:=0) 3 1 rfl (alG 1).symm ?_;refine ah (λn T' L'=>∃(k:Nat) (v:List AV),n=s.length-k/\k<=s.length/\v=u8s (af (s.take k))/\T'=[(4,.int .i64 (k:Int)),(3,.gsl v k L.length 1),(2,.str []),(0,.str s)]/\L'=L++[.spare k 1]) aoD ⟨0,[],rfl,ali _,rfl,rfl,rfl⟩ ?_;rintro _ _ _ ⟨k,v,rfl,hk,rfl,rfl,rfl⟩;by_cases hlt:k<s.length
 .have h1:(k:Int)<(s.length:Int):=aoz;have h2:=ak9 k aoz;have hsucc:=hid (VQ hlt);have e:s.getD k 0=s.getD k 0:=rfl;obtain⟨c,hc⟩:=ak7 (s.getD k 0);rw[hc]at hsucc;have hc255:=c.toNat_lt;by_cases hu:65<=c.toNat/\c.toNat<=90;have u1:(65:Int)<=(c.toNat:Int):=aoz;have u2:(c.toNat:Int)<=90:=aoz;have u3:=hid (YB hu.1 hu.2);have u4:IntKind.u8.wrap ((c.toNat:Int)-65)=(c.toNat:Int)-65:=cL aoz aoz;have u5:IntKind.u8.wrap ((c.toNat:Int)-65+97)=(c.toNat:Int)-65+97:=cL aoz aoz;clear hu;refine wk ?_;refine aoE aoz aoD ⟨k+1,_,rfl,hlt,?_,rfl,rfl⟩;rw[hsucc.o,UI,u3.o];simp only[show(c.toNat:Int)-65+97=c.toNat+32 by omega]
  .have u3:=hid (xR hu);have u4:¬((65:Int)<=(c.toNat:Int)/\(c.toNat:Int)<=90):=aoz;have u5:(decide ((65:Int)<=(c.toNat:Int))&&decide ((c.toNat:Int)<=90))=false:=(by simp;omega);clear hu;refine wk ?_
   all_goals first
    |omega
    | (refine aoE aoz (CutS (b := by simp)) ⟨k + 1, _, rfl, hlt, ?_, rfl, rfl⟩
       rw[hsucc.o,UI,u3.o])
 have hke:k=s.length:=aoz;subst hke;have h1:¬(s.length:Int)<(s.length:Int):=aoz;have e1:=jA (af s);have e2:=gM (af s);have e3:s.take s.length=s:=alt;refine wk ?_;exact ae rfl h.o
theorem fO(hs:(s.length:Int)<=140737488351232)(h:K (.str (af s)) L):alb 38 [.str s] L K:=by
 replace h:=hid h;refine ala UE ?_;refine ah (λn T' L'=>∃(k:Nat) (v:List AV),n=s.length-k/\k<=s.length/\v=u8s (af (s.take k)++s.drop k)/\T'=[(10,.int .i64 (k:Int)),(9,.int .i64 s.length),(8,.lsl L.length 0 s.length none 1),(3,.lsl L.length 0 s.length none 1),(2,.str [])]/\L'=L++[.bytes v]) aoD ⟨0,_,rfl,ali _,rfl,rfl,rfl⟩ ?_;rintro _ _ _ ⟨k,v,rfl,hk,hv,rfl,rfl⟩;by_cases hlt:k<s.length
 .have h1:(k:Int)<(s.length:Int):=aoz;have h2:=ak9 k aoz;obtain⟨c,hc⟩:=ak7 (s.getD k 0);have hd:s.drop k=c::s.drop (k+1):=by rw[al1 hlt,<- hc,alD,alu hlt];rfl
  have hlk:(af (s.take k)).length=k:=(by simp[af];omega);have hv1:v=u8s (af (s.take k)) ++ .int .u8 c.toNat::u8s (s.drop (k+1)):=(by rw[hv,hd];simp[u8s]);have hl2:(u8s (af (s.take k))).length=k:=(by simp[u8s,hlk]);have hvl:v.length=s.length:=(by rw[hv];simp[u8s,af];omega);have hvk:k<v.length:=aoz;have hvg:v.getD k .undef=.int .u8 c.toNat:=(by rw[hv1];simp[alD,alH,hl2]);have hsucc:=VQ hlt;rw[hc]at hsucc;have hnew:u8s (af (s.take (k+1))++s.drop (k+1))=u8s (af (s.take k)) ++ .int .u8 (dF c).toNat::u8s (s.drop (k+1)):=(by rw[hsucc];simp[u8s]);have hspl:∀x,v.take k++x::v.drop (k+1)=u8s (af (s.take k))++x::u8s (s.drop (k+1)):=λx=>by rw[hv1,List.take_left' hl2,List.drop_append,hl2,amU aoz,show k+1-k=1 by omega];rfl
  clear hv hd hlk hsucc;replace hv1:=hid hv1;replace hnew:=hid hnew;replace hspl:=hid hspl;have hc255:=c.toNat_lt;by_cases hu:65<=c.toNat/\c.toNat<=90;have u1:(65:Int)<=(c.toNat:Int):=aoz;have u2:(c.toNat:Int)<=90:=aoz;have u3:=hid (YB hu.1 hu.2);have u4:IntKind.u8.wrap ((c.toNat:Int)+32)=(c.toNat:Int)+32:=cL aoz aoz;clear hu;refine wk ?_;refine aoE aoz aoD ⟨k+1,_,rfl,hlt,?_,rfl,rfl⟩;rw[hnew.o,u3.o];exact hspl.o _
  .have u3:=hid (xR hu);have u5:(decide ((65:Int)<=(c.toNat:Int))&&decide ((c.toNat:Int)<=90))=false:=(by simp;omega);clear hu;refine wk ?_
   all_goals first
    |omega
    | (refine aoE aoz (CutS (b := by simp)) ⟨k + 1, _, rfl, hlt, ?_, rfl, rfl⟩
       rw[hnew.o,u3.o];exact hv1.o)
 have hke:k=s.length:=aoz;subst hke;have h1:¬(s.length:Int)<(s.length:Int):=aoz;have hv1:v=u8s (af s):=by rw[hv];simp
 clear hv;subst hv1;have e1:=jA (af s);have e2:=gM (af s);have e4:(u8s (af s)).length=s.length:=by simp[u8s,af]
 have e5:(u8s (af s)).take s.length=u8s (af s):=by rw[<- e4];exact alt
 refine wk ?_;exact ae rfl h.o
theorem oe(hs:(s.length:Int)<=100000)(h:K (.str (af s)) L):alb 39 [.str s] L K:=bQ aoz h
theorem Ln(hs:(s.length:Int)<=100000)(h:K (.str (af s)) L):alb 38 [.str s] L K:=fO aoz h
def lL(c:UInt8):Option Nat:=if 48<=c.toNat/\c.toNat<=57 then some (c.toNat-48)else if 97<=c.toNat/\c.toNat<=102 then some (c.toNat-87)else if 65<=c.toNat/\c.toNat<=70 then some (c.toNat-55)else none
theorem Mg{x:Nat}(h:lL c=some x):x<16:=by unfold lL at h;split at h;cases h;omega;split at h;cases h;omega;split at h;cases h;omega;cases h
theorem abk{c:UInt8}{L:List Blk}{K:alc}(h:K (.tup [.int .u8 ((lL c).getD 0:Nat),.bool (lL c).isSome]) L):alb 234 [.int .u8 c.toNat] L K:=by
 have hc:=c.toNat_lt;obtain⟨n,hn⟩:=ak7 (c.toNat);unfold lL at h;rw[hn]at h hc⊢;clear hn;refine ac UC (by simp[yR]) ?_;simp only[yR,am];by_cases h1:48<=n/\n<=57;rw[if_pos h1]at h;replace h:=hid h;obtain⟨a1,a2⟩:=h1;have b1:(48:Int)<=(n:Int):=aoz;have b2:(n:Int)<=57:=aoz;have b3:IntKind.u8.wrap ((n:Int)-48)=(n:Int)-48:=cL aoz aoz;clear a1 a2;refine wk ?_;refine aa ?_;have:=h.o;simpa[show((n-48:Nat):Int)=(n:Int)-48 by omega]using this
 .rw[if_neg h1]at h;have c1:(decide ((48:Int)<=(n:Int))&&decide ((n:Int)<=57))=false:=(by simp;omega);by_cases h2:97<=n/\n<=102;rw[if_pos h2]at h;replace h:=hid h;obtain⟨a1,a2⟩:=h2;have b1:(97:Int)<=(n:Int):=aoz;have b2:(n:Int)<=102:=aoz;have b4:IntKind.u8.wrap ((n:Int)-97)=(n:Int)-97:=cL aoz aoz;have b5:IntKind.u8.wrap ((n:Int)-97+10)=(n:Int)-97+10:=cL aoz aoz;clear a1 a2 h1;refine wk ?_;refine aa ?_;have:=h.o;simpa[show((n-87:Nat):Int)=(n:Int)-97+10 by omega]using this
  .rw[if_neg h2]at h;have c2:(decide ((97:Int)<=(n:Int))&&decide ((n:Int)<=102))=false:=(by simp;omega);by_cases h3:65<=n/\n<=70;rw[if_pos h3]at h;replace h:=hid h;obtain⟨a1,a2⟩:=h3;have b1:(65:Int)<=(n:Int):=aoz;have b2:(n:Int)<=70:=aoz;have b4:IntKind.u8.wrap ((n:Int)-65)=(n:Int)-65:=cL aoz aoz;have b5:IntKind.u8.wrap ((n:Int)-65+10)=(n:Int)-65+10:=cL aoz aoz;clear a1 a2 h1 h2;refine wk ?_;refine aa ?_;have:=h.o;simpa[show((n-55:Nat):Int)=(n:Int)-65+10 by omega]using this
   .rw[if_neg h3]at h;have c3:(decide ((65:Int)<=(n:Int))&&decide ((n:Int)<=70))=false:=(by simp;omega);replace h:=hid h;clear h1 h2 h3
    repeat' first
     |refine bu ?_
     | (first|refine bj aoB ?_|refine aJ aoB ?_|refine aM ?_|refine cN ?_|refine bE (fun _=>?_)|refine aC ?_|refine bo ?_)
       refine sm ?_
     | (first|refine a8 aoB ?_|refine ba ?_|refine aL ?_|refine bm ?_|refine bJ (aB ?_))
       refine sl ?_
     |exact bF
     |first|apply bG|apply be|apply bH|apply bf|apply bI|apply bg
     |refine aP ?_
     |refine aK ?_
     |first|refine aN rfl ?_|refine aO rfl ?_|refine ax rfl ?_ ?_|refine aT rfl (λ_=>?_) (λ_=>?_)|refine aS rfl (λ_=>?_) (λ_=>?_)
     |((first|refine au (λ_=>?_) (λ_=>?_)|refine aA (λ_=>?_) (λ_=>?_))<;>try refine sm ?_)
     |refine And.intro trivial ?_
     |refine And.intro aoz ?_
     |refine aY rfl (λ_=>?_) (λ_=>?_)
     |refine And.intro ?_ ?_
    all_goals first
     |omega
     |(refine aa ?_;simpa using h.o)
def RX(a b:UInt8):Option UInt8:=match lL a,lL b with
 |some x,some y=>some (UInt8.ofNat (16*x+y))
 |_,_=>none
def PO(a b:UInt8):AV:=match RX a b with
 |some c=>.tup [.str [c],.bool true]
 |none=>.tup [.str [],.bool false]
theorem ajr:∀x y:_root_.Fin 16,IntKind.u8.wrap (((BitVec.ofInt IntKind.u8.bits (IntKind.u8.wrap ((x.val:Int)*2^min 4 IntKind.u8.bits)) |||BitVec.ofInt IntKind.u8.bits (y.val:Int)).toNat:Nat):Int)=16*(x.val:Int)+(y.val:Int):=by decide +kernel
theorem aeJ{a b:UInt8}(h:K (PO a b) L):alb 211 [.str [a,b]] L K:=by
 have hl:[a,b].length=2:=rfl;have ha:[a,b].getD 0 0=a:=rfl;have hb:[a,b].getD 1 0=b:=rfl;have d1:IntKind.i64.wrap (Int.tdiv 2 2)=1:=by decide
 have d2:Int.tmod 2 2=0:=by decide
 have d3:dV [AV.int IntKind.u8 0] 1=[AV.int IntKind.u8 0]:=rfl;have d4:IntKind.i64.wrap 1=1:=by decide
 have d5:IntKind.i64.wrap 2=2:=by decide
 replace h:=hid h;refine ala Th ?_;refine ah (λn T' L'=>(n=1/\T'=[(5,.int .i64 0),(4,.lsl L.length 0 0 (some 1) 1),(0,.str [a,b])]/\L'=L++[.cells [.int .u8 0]])\/(n=0/\∃x y:Nat,Hid (lL a=some x)/\Hid (lL b=some y)/\T'=[(5,.int .i64 2),(4,.lsl (L.length+1) 0 1 none 1),(0,.str [a,b])]/\L'=L++[.dead,.cells [.int .u8 ((16*x+y:Nat):Int)]])) (n0:=1) (T0:=[(5,.int .i64 0),(4,.lsl L.length 0 0 (some 1) 1),(0,.str [a,b])]) (L0:=L++[.cells [.int .u8 0]]) aoD (.inl ⟨rfl,rfl,rfl⟩) ?_;rintro _ _ _ (⟨rfl,rfl,rfl⟩|⟨rfl,x,y,hx,hy,rfl,rfl⟩);rcases hx:lL a with _|x;have h':=h.o;simp only[PO,RX,hx]at h';replace h':=hid h';have e1:(lL a).getD 0=0:=by rw[hx];rfl
 have e2:(lL a).isSome=false:=by rw[hx];rfl
 clear hx;have kk1:=@hid _ @abk;refine wk ?_;exact ae rfl h'.o;have e1:(lL a).getD 0=x:=by rw[hx];rfl
 have e2:(lL a).isSome=true:=by rw[hx];rfl
 have hx':=hid hx;rcases hy:lL b with _|y;have h':=h.o;simp only[PO,RX,hx,hy]at h';replace h':=hid h';have e3:(lL b).getD 0=0:=by rw[hy];rfl
 have e4:(lL b).isSome=false:=by rw[hy];rfl
 clear hx hy;have kk1:=@hid _ @abk;refine wk ?_;exact ae rfl h'.o;have e3:(lL b).getD 0=y:=by rw[hy];rfl
 have e4:(lL b).isSome=true:=by rw[hy];rfl
 have hy':=hid hy;have e5:=ajr ⟨x,Mg hx⟩ ⟨y,Mg hy⟩;simp only at e5;clear hx hy;have kk1:=@hid _ @abk;refine wk ?_;refine ag 0 _ _ aoz aoC (.inr ⟨rfl,x,y,hid rfl,hid rfl,rfl,?_⟩)
 first|rfl|rw[e5]
 have h':=h.o;simp only[PO,RX,hx.o,hy.o]at h';replace h':=hid h';have lx:=Mg hx.o;have ly:=Mg hy.o;have u1:YG (.int .u8 (16*(x:Int)+(y:Int)))=true:=rfl;have u2:Sn (.int .u8 (16*(x:Int)+(y:Int)))=UInt8.ofNat (16*x+y):=by simp only[Sn];rw[show(16*(x:Int)+(y:Int)).toNat=16*x+y by omega]
 refine wk ?_;exact ae rfl h'.o
def x8(b:List UInt8):Bool:=b.isEmpty ||b.getLast? == some 32
def aD(b:List UInt8)(c:UInt8):List UInt8:=if c=32/\x8 b=true then b else b++[c]
def bR(s:List UInt8):List UInt8:=s.foldl aD []
def du(b:List UInt8):List UInt8:=if b.getLast?=some 32 then b.dropLast else b
def bL(s:List UInt8):List UInt8:=du (bR (af s))
theorem RL(b:List UInt8)(c:UInt8):(aD b c).length<=b.length+1:=by unfold aD;split<;>simp
theorem ym{k:Nat}(h:k<s.length):bR (s.take (k+1))=aD (bR (s.take k)) (s.getD k 0):=by rw[aly h,bR,anb];simp[bR,h]
theorem rk(s:List UInt8):∀k,(bR (s.take k)).length<=k
 |0=>by simp[bR]
 | k+1=>by
   have ih:=rk s k;by_cases h:k<s.length
   .rw[ym h];have:=RL (bR (s.take k)) (s.getD k 0);omega
   .rw[amb aoz,<- amb (l:=s) (i:=k) aoz];omega
theorem yl(hs:(s.length:Int)<=100000)(h:K (.str (bL s)) L):alb 95 [.str s] L K:=by
 replace h:=hid h;refine ac UD (by simp[yS]) ?_;simp only[yS,am];obtain⟨t,ht⟩:=ak7 (af s);have htl:(t.length:Int)<=100000:=by rw[<- ht];simpa[af]using hs
 have kk1:=@aoG _ _ _ _ (Ln hs);refine wk ?_;refine bt (l:=[]) (n:=0) 3 1 rfl (alG 1).symm ?_;refine ah (λn T' L'=>∃(k:Nat) (b:List UInt8) (v:List AV) (m:Nat),n=t.length-k/\k<=t.length/\b=bR (t.take k)/\v=u8s b/\m=b.length/\T'=[(10,.int .i64 (k:Int)),(9,.int .i64 t.length),(8,.sl (u8s t) t.length none),(3,.gsl v m L.length 1),(2,.str [])]/\L'=L++[.spare m 1]) aoD ⟨0,[],[],0,rfl,ali _,rfl,rfl,rfl,rfl,rfl⟩ ?_;rintro _ _ _ ⟨k,b,v,m,rfl,hk,hb,rfl,rfl,rfl,rfl⟩;replace hb:=hid hb;by_cases hlt:k<t.length;have h1:(k:Int)<(t.length:Int):=aoz;have h2:=ak9 k aoz;have hsucc:=hid (ym hlt);obtain⟨c,hc⟩:=ak7 (t.getD k 0);have hg:(u8s t).getD k .undef=.int .u8 c.toNat:=by simp[u8s,hlt,<- hc]
 have hlk:k<(u8s t).length:=by simpa[u8s]using hlt
 rw[hc]at hsucc;have hbl:b.length<=k:=by rw[hb.o];exact rk t k
 have hstep:∀b',b'=aD b c->b'=bR (t.take (k+1)):=λb' e=>by rw[hsucc.o,<- hb.o];exact e
 have c32:((c.toNat:Int)=32)↔c=32:=⟨λe=>am2.1 (by have:(32:UInt8).toNat=32:=rfl;omega),λe=>by rw[e];rfl⟩;replace hstep:=hid hstep;replace c32:=hid c32;clear hsucc hb hc;have hub:(u8s b).length=b.length:=by simp[u8s]
 have rest:∀b',b'=aD b c->b'.length<=b.length+1:=λb' e=>by rw[e];exact RL b c
 clear rest;by_cases hc:(c.toNat:Int)=32;rcases anc b with hb0|⟨d,x,hb0⟩;have e0:(b.length:Int)=0:=by rw[hb0];rfl
 have e1:=hid (hstep.o b (by rw[aD,if_pos ⟨c32.o.1 hc,by rw[hb0];rfl⟩]));clear hb0;refine wk ?_;exact aoE aoz aoD ⟨k+1,b,_,_,rfl,hlt,e1.o,rfl,rfl,rfl,rfl⟩;have e0:¬(b.length:Int)=0:=by rw[hb0];simp;omega
 have e1:IntKind.i64.wrap ((b.length:Int)-1)=(d.length:Int):=by rw[ab aoz aoz,hb0];simp
 have e2:(u8s b).getD d.length .undef=.int .u8 x.toNat:=by rw[hb0];simp[u8s,alD]
 have e3:d.length<(u8s b).length:=by rw[hb0];simp[u8s]
 have e4:(d.length:Int)<(b.length:Int):=by rw[hb0];simp;omega
 have x32:x=32↔(x.toNat:Int)=32:=⟨λe=>by rw[e];rfl,λe=>am2.1 (by have:(32:UInt8).toNat=32:=rfl;omega)⟩;have hend:x8 b=true↔x=32:=by rw[hb0];simp[x8]
 replace hb0:=hid hb0;replace x32:=hid x32;replace hend:=hid hend;by_cases hx:(x.toNat:Int)=32;have e5:=hid (hstep.o b (by rw[aD,if_pos ⟨c32.o.1 hc,hend.o.2 (x32.o.2 hx)⟩]));refine wk ?_;exact aoE aoz aoD ⟨k+1,b,_,_,rfl,hlt,e5.o,rfl,rfl,rfl,rfl⟩;have e5:=hid (hstep.o (b++[c]) (by rw[aD,if_neg λe=>hx (x32.o.1 (hend.o.1 e.2))]));refine wk ?_;exact aoE aoz aoD ⟨k+1,b++[c],_,_,rfl,hlt,e5.o,(by rw[UI,hc]),aoA,rfl,rfl⟩;have e1:=hid (hstep.o (b++[c]) (by rw[aD,if_neg λe=>hc (c32.o.2 e.1)]));refine wk ?_;exact aoE aoz aoD ⟨k+1,b++[c],_,_,rfl,hlt,e1.o,(UI b c).symm,aoA,rfl,rfl⟩
 .have hke:k=t.length:=aoz;subst hke;have h1:¬(t.length:Int)<(t.length:Int):=aoz;have hbl:b.length<=t.length:=(by rw[hb.o];exact rk t _);have hub:(u8s b).length=b.length:=(by simp[u8s]);have hfin:du b=bL s:=(by rw[bL,ht,hb.o,alt]);have e1:=jA b;have e2:=gM b;replace hb:=hid hfin;clear hfin;rcases anc b with hb0|⟨d,x,hb0⟩;have e0:¬(0:Int)<(b.length:Int):=(by rw[hb0];simp);have e3:=hid (show b=bL s by rw[<- hb.o,hb0];rfl);clear hb0;refine wk ?_;refine ae rfl ?_;rw[e3.o];exact h.o
  .have e0:(0:Int)<(b.length:Int):=(by rw[hb0];simp;try omega);have e3:IntKind.i64.wrap ((b.length:Int)-1)=(d.length:Int):=(by rw[ab aoz aoz,hb0];simp);have e4:(u8s b).getD d.length .undef=.int .u8 x.toNat:=(by rw[hb0];simp[u8s,alD]);have e5:d.length<(u8s b).length:=(by rw[hb0];simp[u8s]);have e6:(d.length:Int)<(b.length:Int):=(by rw[hb0];simp;omega);have e7:(u8s b).take d.length=u8s d:=(by rw[hb0];simp[u8s]);have e10:(u8s d).length=d.length:=(by simp[u8s]);have e8:=jA d;have e9:=gM d;have x32:x=32↔(x.toNat:Int)=32:=⟨λe=>by rw[e];rfl,λe=>am2.1 (by have:(32:UInt8).toNat=32:=rfl;omega)⟩;have htr:du b=if x=32 then d else b:=by rw[hb0];simp[du]
   replace hb0:=hid hb0;replace htr:=hid htr;by_cases hx:(x.toNat:Int)=32;have r:=hid (show d=bL s by rw[<- hb.o,htr.o,if_pos (x32.2 hx)]);replace x32:=hid x32;refine wk ?_;refine ae rfl ?_;rw[r.o];exact h.o;have r:=hid (show b=bL s by rw[<- hb.o,htr.o,if_neg λe=>hx (x32.1 e)]);replace x32:=hid x32;refine wk ?_;refine ae rfl ?_;rw[r.o];exact h.o
end Go.Proofs.YtcmfcpjnhephaaaGreatDoor.Av
