/- Joined texts of the walk, made small by a program. -/
import Derived.Test.YtcmfcpjnhephaaaGreatDoorJk4
import Derived.Test.YtcmfcpjnhephaaaGreatDoorRows
import Derived.KernelRfl
import Derived.Test.YtcmfcpjnhephaaaGreatDoorJk16
import Derived.Test.YtcmfcpjnhephaaaGreatDoorJk17
import Derived.Test.YtcmfcpjnhephaaaGreatDoorJk20
import Derived.Test.YtcmfcpjnhephaaaGreatDoorJk8
import Derived.Shelf.Spec.SlicesGrow
set_option linter.unusedSimpArgs false
set_option linter.unusedVariables false
set_option maxRecDepth 100000
namespace Go.Proofs.YtcmfcpjnhephaaaGreatDoor.Av
open Go
def Fx:LSO:=[A3 2 0,AF 4,Ab 5 0]
def Fw:LSO:=[As 9 2 2,o1 10 (.build [(.sl [] 0 (some 0)),(.sl [] 0 (some 0)),(.sl [] 0 (some 0)),(.sl [] 0 (some 0))] [(0,(2,(tm 9)))]),A3 11 10,Aa 6 11]
def Fv:LSO:=[Aa 12 1,Ai 13 12,Ab 14 0]
def Fu:LSO:=[Aj 15 14 13]
def Fs:LSO:=[Am 16 1 12 14,Ac 17 1 16,Aa 8 17]
def Fq:LSO:=[Ad 18 0 2,Ac 19 1 18,Aa 20 8,Aq 21 12 19 20,AK 22 21 0]
def Fp:LSO:=[AF 4,Ab 5 20]
def Fo:LSO:=[Aa 23 6,A5 24 23,Ad 25 2 24,Ac 26 1 25,Aa 27 8,Ak 28 39 27,Aq 29 82 26 28]
def Fn:LSO:=[AF 4,Ab 5 21]
def Fm:List (aj×Kd) :=
 [A7 30 6,A7 31 6,AH 32 31 0 0,A4 33 2 32,Ay 34 1 33 0 0,A7 35 8,AP 36 39 35 0 0,od 37 (.bslice false 1 1 [(.str [])] [(0,(1,(tm 36)))]) (.read 0 0),
 od 38 (.app 1 1 16 [(.str [])] (tm 34) (tm 37)) .eff]
def xG:List aj :=
 [⟨(some 39),(.nilchk (tm 30)),none⟩,⟨(some 40),(.faddr 2 (tm 39)),none⟩,⟨none,(.store 1 (tm 40) (tm 38)),none⟩]
def xI:LSO:=[Ah 41 14 1,Aa 14 41]
def xH:LSO:=[Aa 42 6,Aa 4 42,Ab 5 0]
def Es:be:=⟨43,(.seq (.sreg Fx [])
 (.seq (.sreg Fw Cj)
 (.seq (.seq (.sreg Fv [])
 (.block 0 (.loop (.seq (.sreg Fu [])
 (.seq (.cond (tm 15) .skip
 (.exit 0))
 (.seq (.block 1 (.seq (.sreg Fs Ci)
 (.seq (.seq (.sreg Fq Ck)
 (.cond (tm 22) (.seq (.sreg Fp [])
 .ret)
 .skip))
 (.seq (.seq (.sdreg Fo [.pure,(.read 0 0),.pure,(.read 0 0),.pure,(.read 0 0)] Co)
 (.cond (tm 29) (.seq (.sreg Fn [])
 .ret)
 .skip))
 (.dregM Fm xG [false,false,false,false,false,false,false,false,false,false,false])))))
 (.sreg xI Ch)))))))
 (.seq (.sreg xH Cm)
 .ret)))),[(.tmp 4),(.tmp 5)]⟩
attribute [push_cast] Fx Fw Fv Fu Fs Fq Fp Fo Fn Fm xG xI xH
theorem NR:br Tryz.prog (fun _ _=>1) 32=some Es.raw:=by kernel_rfl
def jO:LSO:=[Al 4]
def jN:LSO:=[Aa 7 0,A5 8 7,Ad 9 3 8,Ac 10 1 9,Ai 11 10,Ab 12 0]
def jM:LSO:=[Aj 13 12 11]
def jL:LSO:=[Am 14 2 10 12,As 15 2 14,BK 6,Ao 2 6 15]
def jK:LSO:=[Ad 16 0 6,Ac 17 1 16,Aa 18 1,Bm 19 17 18]
def jJ:LSO:=[Aa 20 4,As 21 2 6,BL 22 21,BM 23 20 22,Aa 4 23]
def jI:LSO:=[Ah 24 12 1,Aa 12 24]
def jH:LSO:=[Aa 25 0,Aa 26 4,A5 27 25,Ad 28 3 27,Ao 1 28 26]
def fu:be:=⟨29,(.seq (.sreg jO [])
 (.seq (.seq (.sreg jN CB)
 (.block 0 (.loop (.seq (.sreg jM [])
 (.seq (.cond (tm 13) .skip
 (.exit 0))
 (.seq (.block 1 (.seq (.sreg jL Ci)
 (.seq (.sreg jK Cj)
 (.cond (tm 19) (.sreg jJ Ck)
 .skip))))
 (.sreg jI Ch)))))))
 (.sreg jH Cy))),[]⟩
attribute [push_cast] jO jN jM jL jK jJ jI jH
theorem xt:br Tryz.prog (fun _ _=>1) 36=some fu.raw:=by kernel_rfl
def lH:LSO:=[Aa 10 0,Aa 11 1,Aq 12 36 10 11]
def lG:LSO:=[Al 6]
def lF:LSO:=[Ae 7]
def lE:LSO:=[Aa 13 0,A5 14 13,Ad 15 3 14,Ac 16 1 15,Ai 17 16,Ab 18 0]
def lD:LSO:=[Aj 19 18 17]
def lC:LSO:=[Am 20 2 16 18,As 21 2 20,BK 9,Ao 2 9 21]
def lB:LSO:=[Aa 22 7,Az 23 22,Aa 24 23,.grp none 24 true
 [Af 25 24 1,AT 26 24 0 9,AN 27 24 1 26,Ce 28 24 25 27]
 29 (tm 28)]
def lA:LSO:=[Aa 30 6,Aa 31 1,Aa 32 2,Ak 33 86 32,o1 34 (.build [(.int .i64 0),(.sl [] 0 (some 0))] [(0,(1,(tm 31))),(1,(1,(tm 33)))]),BL 35 34,BM 36 30 35,
 Aa 6 36]
def lz:LSO:=[Ax 7]
def lw:LSO:=[Aa 37 6,As 38 2 9,BL 39 38,BM 40 37 39,Aa 6 40]
def jG:LSO:=[Ah 41 18 1,Aa 18 41]
def jF:LSO:=[Aa 42 7,Az 43 42]
def jE:LSO:=[Aa 44 6,Aa 45 1,Aa 46 2,Ak 47 86 46,o1 48 (.build [(.int .i64 0),(.sl [] 0 (some 0))] [(0,(1,(tm 45))),(1,(1,(tm 47)))]),BL 49 48,BM 50 44 49,
 Aa 6 50]
def jD:LSO:=[Aa 51 0,Aa 52 6,A5 53 51,Ad 54 3 53,Ao 1 54 52]
def gL:be:=⟨55,(.seq (.sreg lH CE)
 (.seq (.sreg lG [])
 (.seq (.sreg lF [])
 (.seq (.seq (.sreg lE CB)
 (.block 0 (.loop (.seq (.sreg lD [])
 (.seq (.cond (tm 19) .skip
 (.exit 0))
 (.seq (.block 1 (.seq (.sreg lC Ci)
 (.seq (.seq (.sreg lB Cj)
 (.cond (tm 29) (.seq (.sreg lA Cr)
 (.sreg lz []))
 .skip))
 (.sreg lw Ck))))
 (.sreg jG Ch)))))))
 (.seq (.seq (.sreg jF Ch)
 (.cond (tm 43) (.sreg jE Cr)
 .skip))
 (.sreg jD Cy)))))),[]⟩
attribute [push_cast] lH lG lF lE lD lC lB lA lz lw jG jF jE jD
theorem Et:br Tryz.prog (fun _ _=>1) 37=some gL.raw:=by kernel_rfl
def Jd:LSO:=[Ae 4]
def Jc:LSO:=[Aa 7 0,Ai 8 7,Ab 9 0]
def Jb:LSO:=[Aj 10 9 8]
def Ja:LSO:=[Am 11 1 7 9,Ac 12 1 11,Aa 6 12]
def I9:LSO:=[Aa 13 6,Aa 14 1,A9 15 13 14]
def I8:LSO:=[Ax 4]
def I7:LSO:=[Ah 16 9 1,Aa 9 16]
def I6:LSO:=[Ae 4]
def Ik:be:=⟨17,(.seq (.sreg Jd [])
 (.seq (.seq (.sreg Jc [])
 (.block 0 (.loop (.seq (.sreg Jb [])
 (.seq (.cond (tm 10) .skip
 (.exit 0))
 (.seq (.block 1 (.seq (.sreg Ja Ci)
 (.seq (.sreg I9 Ci)
 (.cond (tm 15) (.seq (.sreg I8 [])
 .ret)
 .skip))))
 (.sreg I7 Ch)))))))
 (.seq (.sreg I6 [])
 .ret))),[(.tmp 4)]⟩
attribute [push_cast] Jd Jc Jb Ja I9 I8 I7 I6
theorem Oz:br Tryz.prog (fun _ _=>1) 17=some Ik.raw:=by kernel_rfl
def wS:LSO:=[Ae 0]
def wR:LSO:=[o1 4 (.call 20 []),o1 5 (.bslice false 1 1 [(.str [])] [(0,(1,(.av (.str [99,110]))))]),Aq 6 19 4 5,Aa 3 6,Ar 7 3,Aw 8 3,Aa 1 7,Aa 2 8]
def wQ:LSO:=[Aa 9 2,AC 10 9 0,Aa 11 10,.grp none 11 false
 [Ag 12 11 1,BN 13 11 12]
 14 (tm 13)]
def wP:LSO:=[Ae 0]
def wO:LSO:=[Aa 15 1,o1 16 (.bslice false 1 1 [(.str [])] [(0,(1,(.av (.str [120,97,98,99]))))]),
 o1 17 (.build [(.str []),(.sl [] 0 (some 0))] [(0,(1,(.av (.str [99,110])))),(1,(1,(tm 16)))]),Bx 18 17,Bc 19 21 15 2 18]
def wN:LSO:=[Aa 20 1,o1 21 (.bslice false 1 1 [(.str [])] [(0,(1,(.av (.str [97,98,99,100]))))]),
 o1 22 (.build [(.str []),(.sl [] 0 (some 0))] [(0,(1,(.av (.str [99,110])))),(1,(1,(tm 21)))]),Bx 23 22,Bc 24 21 20 1 23]
def wM:LSO:=[Aa 25 1,o1 26 (.build [(.int .i64 0),(.str [])] [(0,(1,(iv 1))),(1,(1,(.av (.str [65,66,67]))))]),
 o1 27 (.bslice false 2 1 [(.int .i64 0),(.str [])] [(0,(2,(tm 26)))]),o1 28 (.call 13 [(tm 25),(.av (.str [67,78])),(tm 27)]),
 o1 29 (.bslice false 1 2 [(.int .i64 0),(.int .i64 0)] [(0,(1,(iv 1))),(1,(1,(iv 2)))]),Aq 30 22 28 29,Aa 31 30,.grp none 31 true
 [Af 32 31 1,og 33 31 true (.build [(.int .i64 0),(.str [])] [(0,(1,(iv 1))),(1,(1,(.av (.str [98,99,100]))))]),
 og 34 31 true (.bslice false 2 1 [(.int .i64 0),(.str [])] [(0,(2,(tm 33)))]),og 35 31 true (.call 13 [(tm 32),(.av (.str [99,110])),(tm 34)]),
 og 36 31 true (.bslice false 1 1 [(.int .i64 0)] [(0,(1,(iv 1)))]),BJ 37 31 22 35 36]
 38 (tm 37),Aa 0 38]
def ow:be:=⟨39,(.seq (.sreg wS [])
 (.seq (.sreg wR Ct)
 (.seq (.seq (.sreg wQ Cj)
 (.cond (tm 14) (.seq (.sreg wP [])
 .ret)
 .skip))
 (.seq (.sreg wO Cq)
 (.seq (.sreg wN Cq)
 (.seq (.sreg wM Cu)
 .ret)))))),[(.tmp 0)]⟩
attribute [push_cast] wS wR wQ wP wO wN wM
theorem Le:br Tryz.prog (fun _ _=>1) 9=some ow.raw:=by kernel_rfl
def DE:LSO:=[AF 4,AF 5,Ae 6]
def DD:LSO:=[o1 16 (.call 20 []),Cg 7,Ao 2 7 16]
def DC:LSO:=[As 18 2 7,Aa 19 0,Aq 20 19 18 19,Aa 17 20,Ar 21 17,Aw 22 17,Aa 8 21,Aa 9 22]
def DB:LSO:=[As 24 2 7,Aa 25 0,Aq 26 32 24 25,Aa 23 26,Ar 27 23,Aw 28 23,Aa 10 27,Aa 11 28]
def DA:LSO:=[Aa 29 9,Aa 30 11,Bm 31 29 30,Aa 32 31,.grp none 32 false
 [Ag 33 32 8,BN 34 32 33,Ag 35 32 10,BN 36 32 35,og 37 32 false (.eqk true .bool (tm 34) (tm 36))]
 38 (tm 37)]
def Dz:LSO:=[AF 4,AF 5,Ae 6]
def Dy:LSO:=[Aa 39 1,Ai 40 39,Ab 41 0]
def Dx:LSO:=[Aj 42 41 40]
def Dw:LSO:=[Am 43 2 39 41,As 44 2 43,BK 13,Ao 2 13 44]
def Dv:LSO:=[Aa 45 1,Ai 46 45,A0 47 46 40,Aa 48 47,.grp none 48 false
 [AJ 49 48 1 13,AB 50 48 1 49,AL 51 48 33 50,AU 52 48 51]
 53 (tm 52)]
def wL:LSO:=[AF 4,AF 5,Ax 6]
def wK:LSO:=[As 55 2 7,Ad 56 1 13,Ac 57 1 56,Aq 58 34 55 57,Aa 54 58,Ar 59 54,Aw 60 54,Aa 14 59,Aa 15 60]
def wJ:LSO:=[Aa 61 15,AC 62 61 0,Aa 63 62,.grp none 63 false
 [Ag 64 63 10,BN 65 63 64]
 66 (tm 65)]
def wI:LSO:=[Ad 67 1 13,Ac 68 1 67,Ai 69 68,Au 70 69 0]
def wH:LSO:=[Aa 71 8,Ad 72 0 13,Ac 73 1 72,Aq 74 35 71 73]
def wG:LSO:=[Aa 75 10,Ad 76 0 13,Ac 77 1 76,Aq 78 36 75 77]
def wF:LSO:=[Aa 79 8,Ad 80 0 13,Ac 81 1 80,Aa 82 14,AI 83 21 79 81 82]
def wD:LSO:=[Aa 84 10,Ad 85 0 13,Ac 86 1 85,Aa 87 14,AI 88 37 84 86 87]
def wC:LSO:=[Ah 89 41 1,Aa 41 89]
def wB:LSO:=[Aa 90 8,Aa 91 10,Aa 4 90,Aa 5 91,Ax 6]
def gN:be:=⟨92,(.seq (.sreg DE [])
 (.seq (.sreg DD Ch)
 (.seq (.sreg DC Ct)
 (.seq (.sreg DB Ct)
 (.seq (.seq (.sreg DA Ck)
 (.cond (tm 38) (.seq (.sreg Dz [])
 .ret)
 .skip))
 (.seq (.seq (.sreg Dy [])
 (.block 0 (.loop (.seq (.sreg Dx [])
 (.seq (.cond (tm 42) .skip
 (.exit 0))
 (.seq (.block 1 (.seq (.sreg Dw Ci)
 (.seq (.seq (.sreg Dv Ck)
 (.cond (tm 53) (.seq (.sreg wL [])
 .ret)
 .skip))
 (.seq (.sreg wK C6)
 (.seq (.seq (.sreg wJ Cj)
 (.cond (tm 66) (.exit 1)
 .skip))
 (.seq (.sreg wI Cj)
 (.cond (tm 70) (.seq (.sreg wH Cy)
 (.sreg wG Cy))
 (.seq (.sreg wF Cq)
 (.sreg wD Cq)))))))))
 (.sreg wC Ch)))))))
 (.seq (.sreg wB C3)
 .ret))))))),[(.tmp 4),(.tmp 5),(.tmp 6)]⟩
attribute [push_cast] DE DD DC DB DA Dz Dy Dx Dw Dv wL wK wJ wI wH wG wF wD wC wB
theorem xi:br Tryz.prog (fun _ _=>1) 10=some gN.raw:=by kernel_rfl
def lP:LSO:=[A3 1 0,Ae 2]
def lO:LSO:=[Ad 5 2 1,Ac 6 1 5,Ai 7 6,Ab 8 0]
def lN:LSO:=[Aj 9 8 7]
def lM:LSO:=[Am 10 2 6 8,As 11 2 10,BI 4,Ao 2 4 11]
def lL:LSO:=[Ad 12 2 1,Ac 13 1 12,Ai 14 13,A0 15 14 20,Aa 16 15,.grp none 16 false
 [AJ 17 16 1 4,AB 18 16 1 17,Bg 19 16 18,A8 20 16 19 300]
 21 (tm 20)]
def lK:LSO:=[Ae 2]
def lJ:LSO:=[Ah 22 8 1,Aa 8 22]
def lI:LSO:=[Ad 23 1 1,Ac 24 1 23,Ap 25 24,o1 26 (.bin .leq (tm 25) (iv 5000)),Aa 2 26]
def gO:be:=⟨27,(.seq (.sreg lP [])
 (.seq (.seq (.sreg lO Cx)
 (.block 0 (.loop (.seq (.sreg lN [])
 (.seq (.cond (tm 9) .skip
 (.exit 0))
 (.seq (.block 1 (.seq (.sreg lM Ci)
 (.seq (.sreg lL Cl)
 (.cond (tm 21) (.seq (.sreg lK [])
 .ret)
 .skip))))
 (.sreg lJ Ch)))))))
 (.seq (.sreg lI Ck)
 .ret))),[(.tmp 2)]⟩
attribute [push_cast] lP lO lN lM lL lK lJ lI
theorem EB:br Tryz.prog (fun _ _=>1) 8=some gO.raw:=by kernel_rfl
def iw:LSO:=[A3 5 2,Ae 6]
def iu:LSO:=[Aa 21 0,Ai 22 21,A0 23 22 30,Aa 24 23,.grp none 24 false
 [og 25 24 false (.load true 3 (tm 5)),AL 26 24 8 25,AU 27 24 26]
 28 (tm 27),Aa 29 28,.grp none 29 false
 [AJ 30 29 1 5,AB 31 29 1 30,Bg 32 29 31,A8 33 29 32 300]
 34 (tm 33)]
def ir:LSO:=[o1 35 (.call 9 []),Aa 6 35]
def iq:LSO:=[Aa 37 0,Aa 38 1,Aq 39 10 37 38,Aa 36 39,Ar 40 36,Aw 41 36,Be 42 36,Aa 7 40,Aa 8 41,Aa 9 42]
def io:LSO:=[Aa 43 7,BG 44 43,Aa 45 44,.grp none 45 false
 [Ag 46 45 7,AJ 47 45 0 5,AB 48 45 1 47,og 49 45 false (.call 11 [(tm 46),(tm 48)]),AU 50 45 49]
 51 (tm 50)]
def il:LSO:=[o1 52 (.call 9 []),Aa 6 52]
def ik:LSO:=[Aa 53 8,A5 54 53,Ad 55 0 54,Ad 56 0 55,Ac 57 1 56,Aa 58 8,A5 59 58,Ad 60 0 59,Ad 61 0 60,Ac 62 1 61,Ad 63 0 5,Ac 64 1 63,Aq 65 12 62 64,
 Am 66 4 57 65,Ad 67 1 66,Ac 68 1 67,Aa 10 68]
def ij:LSO:=[Aa 69 7,Ad 70 0 5,Ac 71 1 70,Ad 72 2 5,Ac 73 1 72,AI 74 13 69 71 73,Aa 75 7,Ad 76 0 5,Ac 77 1 76,Aq 78 14 75 77,Aa 11 74,Aa 12 78]
def ig:LSO:=[Aa 79 8,A5 80 79,Ad 81 3 80,Ac 82 1 81,Ai 83 82,Ab 84 0]
def ic:LSO:=[Aj 85 84 83]
def gr:LSO:=[Am 86 2 82 84,As 87 2 86,BK 14,Ao 2 14 87]
def gq:LSO:=[Ad 88 1 14,Ac 89 1 88,Ad 90 0 5,Ac 91 1 90,Aq 92 15 89 91,Ai 93 92,Ab 94 0]
def gp:LSO:=[Aj 95 94 93]
def gn:LSO:=[Am 96 1 92 94,Ac 97 1 96,Aa 16 97]
def gm:LSO:=[Aa 98 16,Ap 99 98,A0 100 99 300]
def gk:LSO:=[Ax 6]
def gj:LSO:=[Aa 102 10,Aa 103 16,Ad 104 2 5,Ac 105 1 104,AI 106 16 102 103 105,Aa 101 106,Ar 107 101,Aw 108 101,Aa 17 107,Aa 18 108]
def gi:LSO:=[Aa 109 17,Aa 110 109,.grp none 110 true
 [Af 111 110 18]
 112 (tm 111),Aa 113 112,.grp none 113 true
 [Af 114 113 11,AT 115 113 0 14,AN 116 113 1 115,BJ 117 113 17 114 116,og 118 113 true (.un .not (tm 117))]
 119 (tm 118)]
def gh:LSO:=[Ae 6]
def gg:LSO:=[Aa 120 12,Ad 121 0 14,Ac 122 1 121,Aq 123 17 120 122,Az 124 123,Aa 125 124,.grp none 125 false
 [Ag 126 125 7,AJ 127 125 0 5,AB 128 125 1 127,Ag 129 125 16,og 130 125 false (.call 18 [(tm 126),(tm 128),(tm 129)]),AJ 131 125 0 14,AB 132 125 1 131,
 og 133 125 false (.call 17 [(tm 130),(tm 132)]),AU 134 125 133]
 135 (tm 134)]
def gf:LSO:=[Ae 6]
def gc:LSO:=[Ah 136 94 1,Aa 94 136]
def gb:LSO:=[Ah 137 84 1,Aa 84 137]
def ga:LSO:=[Aa 138 7,Ad 139 0 5,Ac 140 1 139,Ad 141 1 5,Ac 142 1 141,AI 143 18 138 140 142,Ai 144 143,Ab 145 0]
def f9:LSO:=[Aj 146 145 144]
def fZ:LSO:=[Am 147 1 143 145,Ac 148 1 147,Aa 20 148]
def fY:LSO:=[Aa 149 12,Aa 150 20,Aq 151 17 149 150,Az 152 151]
def fX:LSO:=[Ae 6]
def fW:LSO:=[Ah 153 145 1,Aa 145 153]
def fV:LSO:=[o1 154 (.call 9 []),Aa 6 154]
def bz:be:=⟨155,(.seq (.sreg iw [])
 (.seq (.seq (.sreg iu Co)
 (.cond (tm 34) (.seq (.sreg ir Ch)
 .ret)
 .skip))
 (.seq (.sreg iq [false,true,true,false,false,false,false,false,false,false])
 (.seq (.seq (.sreg io Cj)
 (.cond (tm 51) (.seq (.sreg il Ch)
 .ret)
 .skip))
 (.seq (.sdreg ik [.pure,(.read 0 0),.pure,.pure,(.read 0 0),.pure,(.read 0 0),.pure,.pure,(.read 0 0),.pure,(.read 0 0),(.read 0 0)] [true,false,false,false,false,false,false,false,false,false,false,false,false,false,false,false,false])
 (.seq (.sdreg ij [.pure,.pure,(.read 0 0),.pure,(.read 0 0),(.read 0 0),.pure,.pure,(.read 0 0)] CG)
 (.seq (.seq (.sreg ig CB)
 (.block 0 (.loop (.seq (.sreg ic [])
 (.seq (.cond (tm 85) .skip
 (.exit 0))
 (.seq (.block 1 (.seq (.sreg gr Ci)
 (.seq (.sreg gq [true,true,true,false,false,false,false])
 (.block 2 (.loop (.seq (.sreg gp [])
 (.seq (.cond (tm 95) .skip
 (.exit 2))
 (.seq (.block 3 (.seq (.sreg gn Ci)
 (.seq (.seq (.sreg gm Ci)
 (.cond (tm 100) (.seq (.sreg gk [])
 .ret)
 .skip))
 (.seq (.seq (.sreg gj CH)
 (.seq (.sreg gi Ck)
 (.cond (tm 119) (.seq (.sreg gh [])
 .ret)
 .skip)))
 (.seq (.sdreg gg [.pure,.pure,(.read 0 0),(.read 0 0),.pure,.pure,.pure,.pure,(.read 0 0),.pure,(.read 0 0),.pure,(.read 0 0)] Co)
 (.cond (tm 135) (.seq (.sreg gf [])
 .ret)
 .skip))))))
 (.sreg gc Ch)))))))))
 (.sreg gb Ch)))))))
 (.seq (.seq (.sreg ga [true,true,true,false,false,false,false,false])
 (.block 4 (.loop (.seq (.sreg f9 [])
 (.seq (.cond (tm 146) .skip
 (.exit 4))
 (.seq (.block 5 (.seq (.sreg fZ Ci)
 (.seq (.sreg fY Cj)
 (.cond (tm 152) (.seq (.sreg fX [])
 .ret)
 .skip))))
 (.sreg fW Ch)))))))
 (.seq (.sreg fV Ch)
 .ret))))))))),[(.tmp 6)]⟩
attribute [push_cast] iw iu ir iq io il ik ij ig ic gr gq gp gn gm gk gj gi gh gg gf gc gb ga f9 fZ fY fX fW fV
theorem dr:br Tryz.prog (fun _ _=>1) 3=some bz.raw:=by kernel_rfl
attribute [push_cast] Es fu gL Ik ow gN gO bz
end Go.Proofs.YtcmfcpjnhephaaaGreatDoor.Av
set_option maxRecDepth 100000
namespace Go.Proofs.YtcmfcpjnhephaaaGreatDoor.Av
open Go
def tR:LSO:=[Al 6]
def tQ:LSO:=[Aa 9 2,Ai 10 9,Ab 11 0]
def tP:LSO:=[Aj 12 11 10]
def tO:LSO:=[Am 13 1 9 11,Ac 14 1 13,Aa 8 14]
def tN:LSO:=[Aa 15 0,Aa 16 8,Aa 17 1,o1 18 (.build [(.str []),(.int .i64 0),(.bool false),(.bool false)] [(0,(1,(tm 16))),(1,(1,(tm 17)))]),BO 19 18,BP 20 15 19,
 Aa 0 20]
def tM:LSO:=[Ah 21 11 1,Aa 11 21]
def tL:LSO:=[Aa 22 0,Aa 6 22]
def oh:be:=⟨23,(.seq (.sreg tR [])
 (.seq (.seq (.sreg tQ [])
 (.block 0 (.loop (.seq (.sreg tP [])
 (.seq (.cond (tm 12) .skip
 (.exit 0))
 (.seq (.block 1 (.seq (.sreg tO Ci)
 (.sreg tN Co)))
 (.sreg tM Ch)))))))
 (.seq (.sreg tL Ch)
 .ret))),[(.tmp 6)]⟩
attribute [push_cast] tR tQ tP tO tN tM tL
theorem K4:br Tryz.prog (fun _ _=>1) 50=some oh.raw:=by kernel_rfl
def yE:LSO:=[Cg 0]
def yD:LSO:=[Cg 1]
def yC:LSO:=[Ad 5 0 1,Ac 6 1 5,o1 7 (.bslice false 1 1 [(.str [])] [(0,(1,(.av (.str [111,98,106,101,99,116,67,108,97,115,115]))))]),Bc 8 50 6 3 7,Ad 9 0 1,Ao 1 9 8]
def yB:LSO:=[Ad 10 0 1,Ac 11 1 10,
 o1 12 (.bslice false 1 4 [(.str []),(.str []),(.str []),(.str [])] [(0,(1,(.av (.str [99,110])))),(1,(1,(.av (.str [115,110])))),(2,(1,(.av (.str [111,117])))),(3,(1,(.av (.str [111]))))]),
 Bc 13 50 11 1 12,Ad 14 0 1,Ao 1 14 13]
def yA:LSO:=[Ad 15 0 1,Ac 16 1 15,
 o1 17 (.bslice false 1 3 [(.str []),(.str []),(.str [])] [(0,(1,(.av (.str [100,99])))),(1,(1,(.av (.str [117,105,100])))),(2,(1,(.av (.str [109,97,105,108]))))]),
 Bc 18 50 16 3 17,Ad 19 0 1,Ao 1 19 18]
def yz:LSO:=[Ad 20 0 1,Ac 21 1 20,By 22,Bc 23 50 21 1 22,Ad 24 0 1,Ao 1 24 23]
def yy:LSO:=[Ad 25 0 1,Ac 26 1 25,o1 27 (.bslice false 1 1 [(.str [])] [(0,(1,(.av (.str [109,101,109,98,101,114]))))]),Bc 28 50 26 6 27,Ad 29 0 1,Ao 1 29 28]
def yx:LSO:=[Ad 30 0 1,Ac 31 1 30,o1 32 (.bslice false 1 1 [(.str [])] [(0,(1,(.av (.str [117,115,101,114,80,97,115,115,119,111,114,100]))))]),Bc 33 50 31 7 32,
 Ad 34 0 1,Ao 1 34 33]
def yw:LSO:=[Ad 35 0 1,Ac 36 1 35,
 o1 37 (.build [(.str []),(.int .i64 0),(.bool false),(.bool false)] [(0,(1,(.av (.str [101,109,112,108,111,121,101,101,78,117,109,98,101,114])))),(1,(1,(iv 4))),(2,(1,(.av (.bool true))))]),
 BO 38 37,BP 39 36 38,Ad 40 0 1,Ao 1 40 39]
def yv:LSO:=[Ad 41 0 1,Ac 42 1 41,
 o1 43 (.build [(.str []),(.int .i64 0),(.bool false),(.bool false)] [(0,(1,(.av (.str [97,99,116,105,118,101])))),(1,(1,(iv 5))),(2,(1,(.av (.bool true))))]),BO 44 43,
 BP 45 42 44,Ad 46 0 1,Ao 1 46 45]
def ui:LSO:=[o1 47 (.bslice false 1 5 [(.str []),(.str []),(.str []),(.str []),(.str [])] [(0,(1,(.av (.str [99,114,101,97,116,101,100,65,116])))),(1,(1,(.av (.str [99,104,97,110,103,101,100,65,116])))),(2,(1,(.av (.str [112,119,100,70,97,105,108,117,114,101])))),(3,(1,(.av (.str [112,119,100,76,111,99,107,101,100])))),(4,(1,(.av (.str [112,119,100,67,104,97,110,103,101,100]))))]),
 Ai 48 47,Ab 49 0]
def uh:LSO:=[Aj 50 49 48]
def ug:LSO:=[Am 51 1 47 49,Ac 52 1 51,Aa 3 52]
def uf:LSO:=[Aa 53 3,
 o1 54 (.build [(.str []),(.int .i64 0),(.bool false),(.bool false)] [(0,(1,(tm 53))),(1,(1,(iv 4))),(2,(1,(.av (.bool true)))),(3,(1,(.av (.bool true))))]),Bn 4,Ao 4 4 54]
def ue:LSO:=[Aa 55 3,o1 56 (.bin .eql (tm 55) (.av (.str [112,119,100,70,97,105,108,117,114,101])))]
def ud:LSO:=[Ad 57 1 4,o0 (.store 1 (tm 57) (iv 3))]
def uc:LSO:=[Ad 58 2 4,o0 (.store 1 (tm 58) (.av (.bool false)))]
def ub:LSO:=[Ad 59 0 1,Ac 60 1 59,As 61 4 4,BO 62 61,BP 63 60 62,Ad 64 0 1,Ao 1 64 63]
def ua:LSO:=[Ah 65 49 1,Aa 49 65]
def t8:LSO:=[Ad 66 1 1,Ac 67 1 66,o1 68 (.bslice false 1 1 [(.str [])] [(0,(1,(.av (.str [111,98,106,101,99,116,67,108,97,115,115]))))]),
 o1 69 (.bslice false 1 5 [(.str []),(.str []),(.str []),(.str []),(.str [])] [(0,(1,(.av (.str [99,114,101,97,116,101,100,65,116])))),(1,(1,(.av (.str [99,104,97,110,103,101,100,65,116])))),(2,(1,(.av (.str [112,119,100,70,97,105,108,117,114,101])))),(3,(1,(.av (.str [112,119,100,76,111,99,107,101,100])))),(4,(1,(.av (.str [112,119,100,67,104,97,110,103,101,100]))))]),
 o1 70 (.build [(.str []),(.str []),(.int .i64 0),(.sl [] 0 (some 0)),(.sl [] 0 (some 0))] [(0,(1,(.av (.str [116,111,112])))),(3,(1,(tm 68))),(4,(1,(tm 69)))]),AZ 71 70,
 Ba 72 67 71,Ad 73 1 1,Ao 1 73 72]
def t7:LSO:=[Ad 74 1 1,Ac 75 1 74,o1 76 (.bslice false 1 1 [(.str [])] [(0,(1,(.av (.str [100,99]))))]),By 77,
 o1 78 (.build [(.str []),(.str []),(.int .i64 0),(.sl [] 0 (some 0)),(.sl [] 0 (some 0))] [(0,(1,(.av (.str [100,111,109,97,105,110])))),(1,(1,(.av (.str [116,111,112])))),(2,(1,(iv 1))),(3,(1,(tm 76))),(4,(1,(tm 77)))]),
 AZ 79 78,Ba 80 75 79,Ad 81 1 1,Ao 1 81 80]
def tZ:LSO:=[Ad 82 1 1,Ac 83 1 82,o1 84 (.bslice false 1 1 [(.str [])] [(0,(1,(.av (.str [111]))))]),By 85,
 o1 86 (.build [(.str []),(.str []),(.int .i64 0),(.sl [] 0 (some 0)),(.sl [] 0 (some 0))] [(0,(1,(.av (.str [111,114,103,97,110,105,122,97,116,105,111,110])))),(1,(1,(.av (.str [116,111,112])))),(2,(1,(iv 1))),(3,(1,(tm 84))),(4,(1,(tm 85)))]),
 AZ 87 86,Ba 88 83 87,Ad 89 1 1,Ao 1 89 88]
def tY:LSO:=[Ad 90 1 1,Ac 91 1 90,o1 92 (.bslice false 1 1 [(.str [])] [(0,(1,(.av (.str [111,117]))))]),By 93,
 o1 94 (.build [(.str []),(.str []),(.int .i64 0),(.sl [] 0 (some 0)),(.sl [] 0 (some 0))] [(0,(1,(.av (.str [111,114,103,97,110,105,122,97,116,105,111,110,97,108,85,110,105,116])))),(1,(1,(.av (.str [116,111,112])))),(2,(1,(iv 1))),(3,(1,(tm 92))),(4,(1,(tm 93)))]),
 AZ 95 94,Ba 96 91 95,Ad 97 1 1,Ao 1 97 96]
def tX:LSO:=[Ad 98 1 1,Ac 99 1 98,o1 100 (.bslice false 1 2 [(.str []),(.str [])] [(0,(1,(.av (.str [99,110])))),(1,(1,(.av (.str [115,110]))))]),
 o1 101 (.bslice false 1 2 [(.str []),(.str [])] [(0,(1,(.av (.str [100,101,115,99,114,105,112,116,105,111,110])))),(1,(1,(.av (.str [117,115,101,114,80,97,115,115,119,111,114,100]))))]),
 o1 102 (.build [(.str []),(.str []),(.int .i64 0),(.sl [] 0 (some 0)),(.sl [] 0 (some 0))] [(0,(1,(.av (.str [112,101,114,115,111,110])))),(1,(1,(.av (.str [116,111,112])))),(2,(1,(iv 1))),(3,(1,(tm 100))),(4,(1,(tm 101)))]),
 AZ 103 102,Ba 104 99 103,Ad 105 1 1,Ao 1 105 104]
def tW:LSO:=[Ad 106 1 1,Ac 107 1 106,
 o1 108 (.bslice false 1 4 [(.str []),(.str []),(.str []),(.str [])] [(0,(1,(.av (.str [117,105,100])))),(1,(1,(.av (.str [109,97,105,108])))),(2,(1,(.av (.str [101,109,112,108,111,121,101,101,78,117,109,98,101,114])))),(3,(1,(.av (.str [97,99,116,105,118,101]))))]),
 o1 109 (.build [(.str []),(.str []),(.int .i64 0),(.sl [] 0 (some 0)),(.sl [] 0 (some 0))] [(0,(1,(.av (.str [105,110,101,116,80,101,114,115,111,110])))),(1,(1,(.av (.str [112,101,114,115,111,110])))),(2,(1,(iv 1))),(4,(1,(tm 108)))]),
 AZ 110 109,Ba 111 107 110,Ad 112 1 1,Ao 1 112 111]
def tV:LSO:=[Ad 113 1 1,Ac 114 1 113,o1 115 (.bslice false 1 2 [(.str []),(.str [])] [(0,(1,(.av (.str [99,110])))),(1,(1,(.av (.str [109,101,109,98,101,114]))))]),
 By 116,
 o1 117 (.build [(.str []),(.str []),(.int .i64 0),(.sl [] 0 (some 0)),(.sl [] 0 (some 0))] [(0,(1,(.av (.str [103,114,111,117,112])))),(1,(1,(.av (.str [116,111,112])))),(2,(1,(iv 1))),(3,(1,(tm 115))),(4,(1,(tm 116)))]),
 AZ 118 117,Ba 119 114 118,Ad 120 1 1,Ao 1 120 119]
def tU:LSO:=[Ad 121 1 1,Ac 122 1 121,o1 123 (.bslice false 1 1 [(.str [])] [(0,(1,(.av (.str [117,115,101,114,80,97,115,115,119,111,114,100]))))]),
 o1 124 (.build [(.str []),(.str []),(.int .i64 0),(.sl [] 0 (some 0)),(.sl [] 0 (some 0))] [(0,(1,(.av (.str [115,101,99,117,114,101,100])))),(1,(1,(.av (.str [116,111,112])))),(2,(1,(iv 2))),(3,(1,(tm 123)))]),
 AZ 125 124,Ba 126 122 125,Ad 127 1 1,Ao 1 127 126]
def tT:LSO:=[Ad 128 1 1,Ac 129 1 128,o1 130 (.bslice false 1 2 [(.str []),(.str [])] [(0,(1,(.av (.str [117,105,100])))),(1,(1,(.av (.str [109,97,105,108]))))]),
 o1 131 (.build [(.str []),(.str []),(.int .i64 0),(.sl [] 0 (some 0)),(.sl [] 0 (some 0))] [(0,(1,(.av (.str [108,97,98,101,108,108,101,100])))),(1,(1,(.av (.str [116,111,112])))),(2,(1,(iv 2))),(4,(1,(tm 130)))]),
 AZ 132 131,Ba 133 129 132,Ad 134 1 1,Ao 1 134 133]
def tS:LSO:=[As 135 2 1,Ao 2 0 135]
def sK:be:=⟨136,(.seq (.sreg yE [])
 (.seq (.sreg yD [])
 (.seq (.sreg yC Cq)
 (.seq (.sreg yB Cq)
 (.seq (.sreg yA Cq)
 (.seq (.sreg yz Cq)
 (.seq (.sreg yy Cq)
 (.seq (.sreg yx Cq)
 (.seq (.sreg yw C2)
 (.seq (.sreg yv C2)
 (.seq (.seq (.sreg ui [])
 (.block 0 (.loop (.seq (.sreg uh [])
 (.seq (.cond (tm 50) .skip
 (.exit 0))
 (.seq (.block 1 (.seq (.sreg ug Ci)
 (.seq (.sreg uf Ci)
 (.seq (.seq (.sreg ue Ch)
 (.cond (tm 56) (.seq (.sreg ud [false])
 (.sreg uc [false]))
 .skip))
 (.sreg ub C2)))))
 (.sreg ua Ch)))))))
 (.seq (.sreg t8 Cz)
 (.seq (.sreg t7 Cz)
 (.seq (.sreg tZ Cz)
 (.seq (.sreg tY Cz)
 (.seq (.sreg tX Cz)
 (.seq (.sreg tW Cv)
 (.seq (.sreg tV Cz)
 (.seq (.sreg tU Cv)
 (.seq (.sreg tT Cv)
 (.seq (.sreg tS [false])
 .ret))))))))))))))))))))),[(.cell true 2 0)]⟩
attribute [push_cast] yE yD yC yB yA yz yy yx yw yv ui uh ug uf ue ud uc ub ua t8 t7 tZ tY tX tW tV tU tT tS
theorem Mh:br Tryz.prog (fun _ _=>1) 20=some sK.raw:=by kernel_rfl
attribute [push_cast] oh
variable {L:List Blk} {K:abD}
set_option maxHeartbeats 8000000
set_option maxRecDepth 1000000
abbrev tnC (syn:Int) (nm:List UInt8):List AV:=[.str nm,.int .i64 syn,.bool false,.bool false]
theorem Uu {α:Type} {L:List α} {p:Nat} {b:α} (h:L[p]?=some b):L.set p b=L:=by
 apply ac6;intro i;rw [ab3];split
 ·rename_i e;subst e
  rw [h,if_pos (abE.1 h).1]
 ·rfl
theorem Yv {C:List AV} {n p:Nat} {syn:Int} {names:List (List UInt8)} {cap:Option Nat} (hn:n+names.length<=1100000) (hp:L[p]?=some (.spare n 4))
  (h:K (.gsl (C++names.flatMap (tnC syn)) (n+names.length) p 4) (L.set p (.spare (n+names.length) 4))) :
  abC 50 [.gsl C n p 4,.int .i64 syn,.sl (names.map AV.str) names.length cap] L K:=by
 have hpl:p<L.length:=(abE.1 hp).1;have hset:∀ b,(L.set p b)[p]?=some b:=fun b=>by simp [hpl]
 replace h:=hid h;refine abB K4 ?_;refine ak (fun m T' L'=>∃ (j z:Nat) (D:List AV) (M:List Blk),m=names.length - j/\j<=names.length/\z=n+j/\Hid (D=C++(names.take j).flatMap (tnC syn))/\Hid (M=L.set p (.spare z 4))/\T'=[(11,.int .i64 (j:Int)),(10,.int .i64 names.length),(9,.sl (names.map AV.str) names.length cap),(0,.gsl D z p 4),(1,.int .i64 syn)]/\M=L') (CutS (b:=abF _)) ⟨0,n,C,L,rfl,abL _,rfl,hid (by simp),hid (Uu hp).symm,rfl,rfl⟩ ?_;rintro _ _ _ ⟨j,z,D,M,rfl,hj,hz,hD,hM,rfl,rfl⟩;by_cases hlt:j<names.length
 ·have g1:(j:Int)<(names.length:Int):=by omega
  have g2:=abA j (by omega);obtain ⟨x,hx⟩:=aby (names.getD j []);have j3:(names.map AV.str).getD j .undef=.str x:=by rw [<- hx];simp [hlt]
  have htk:names.take (j+1)=names.take j++[x]:=by rw [ab2 hlt,<- hx];simp [hlt]
  have hMp:M[p]?=some (.spare z 4):=by rw [hM.out];exact hset _
  have hD2:D++[.str x,.int .i64 syn,.bool false,.bool false]=C++(names.take (j+1)).flatMap (tnC syn):=by rw [hD.out,htk];simp
  have hM2:M.set p (.spare (z+1) 4)=L.set p (.spare (z+1) 4):=by rw [hM.out,ad8]
  have hMl:M.length=L.length:=by rw [hM.out];simp
  replace hD2:=hid hD2;replace hM2:=hid hM2;have hz1:z+1<=1100000:=by omega
  have hz2:z+1=n+(j+1):=by omega
  replace hz2:=hid hz2;clear hx htk hD hM hset hz;refine wk ?_;exact ai _ _ _ (by omega) (CutL (b:=by simp;omega)) ⟨j+1,z+1,_,_,rfl,hlt,hz2.out,hD2,hM2,rfl,rfl⟩
 ·have hke:j=names.length:=by omega
  subst hke;have g1:¬ (names.length:Int)<(names.length:Int):=by omega
  have hD2:=hD.out;have hM2:=hM.out;rw [abY] at hD2;subst hD2 hz;rw [hM2] at *;clear hD hM hM2;refine wk ?_;exact aa h.out
def aA:List Typ:=[([111,98,106,101,99,116,67,108,97,115,115],3,false,false),([99,110],1,false,false),([115,110],1,false,false),([111,117],1,false,false),([111],1,false,false),([100,99],3,false,false),([117,105,100],3,false,false),([109,97,105,108],3,false,false),([100,101,115,99,114,105,112,116,105,111,110],1,false,false),([109,101,109,98,101,114],6,false,false),([117,115,101,114,80,97,115,115,119,111,114,100],7,false,false),([101,109,112,108,111,121,101,101,78,117,109,98,101,114],4,true,false),([97,99,116,105,118,101],5,true,false),([99,114,101,97,116,101,100,65,116],4,true,true),([99,104,97,110,103,101,100,65,116],4,true,true),([112,119,100,70,97,105,108,117,114,101],3,false,true),([112,119,100,76,111,99,107,101,100],4,true,true),([112,119,100,67,104,97,110,103,101,100],4,true,true)]
def Py:List AV:=[.str [116,111,112],.str [],.int .i64 0,.sl [.str [111,98,106,101,99,116,67,108,97,115,115]] 1 none,.sl [.str [99,114,101,97,116,101,100,65,116],.str [99,104,97,110,103,101,100,65,116],.str [112,119,100,70,97,105,108,117,114,101],.str [112,119,100,76,111,99,107,101,100],.str [112,119,100,67,104,97,110,103,101,100]] 5 none,.str [100,111,109,97,105,110],.str [116,111,112],.int .i64 1,.sl [.str [100,99]] 1 none,.sl [.str [100,101,115,99,114,105,112,116,105,111,110]] 1 none,.str [111,114,103,97,110,105,122,97,116,105,111,110],.str [116,111,112],.int .i64 1,.sl [.str [111]] 1 none,.sl [.str [100,101,115,99,114,105,112,116,105,111,110]] 1 none,.str [111,114,103,97,110,105,122,97,116,105,111,110,97,108,85,110,105,116],.str [116,111,112],.int .i64 1,.sl [.str [111,117]] 1 none,.sl [.str [100,101,115,99,114,105,112,116,105,111,110]] 1 none,.str [112,101,114,115,111,110],.str [116,111,112],.int .i64 1,.sl [.str [99,110],.str [115,110]] 2 none,.sl [.str [100,101,115,99,114,105,112,116,105,111,110],.str [117,115,101,114,80,97,115,115,119,111,114,100]] 2 none,.str [105,110,101,116,80,101,114,115,111,110],.str [112,101,114,115,111,110],.int .i64 1,.sl [] 0 none,.sl [.str [117,105,100],.str [109,97,105,108],.str [101,109,112,108,111,121,101,101,78,117,109,98,101,114],.str [97,99,116,105,118,101]] 4 none,.str [103,114,111,117,112],.str [116,111,112],.int .i64 1,.sl [.str [99,110],.str [109,101,109,98,101,114]] 2 none,.sl [.str [100,101,115,99,114,105,112,116,105,111,110]] 1 none,.str [115,101,99,117,114,101,100],.str [116,111,112],.int .i64 2,.sl [.str [117,115,101,114,80,97,115,115,119,111,114,100]] 1 none,.sl [] 0 none,.str [108,97,98,101,108,108,101,100],.str [116,111,112],.int .i64 2,.sl [] 0 none,.sl [.str [117,105,100],.str [109,97,105,108]] 2 none]
theorem oA:∀ ts:List Typ,AV.frzL (cq ts)=cq ts
 | []=>rfl
 | ty::ts=>by
   rw [show cq (ty::ts)=tyC ty++cq ts from rfl];simp only [tyC,acn,aci,AV.frzL,AV.frz,oA ts]
theorem OJ (p:Nat->Bool):∀ ts:List Typ,AV.refsL p (cq ts)=true
 | []=>rfl
 | ty::ts=>by
   rw [show cq (ty::ts)=tyC ty++cq ts from rfl];simp only [tyC,acn,aci,AV.refsL,AV.refs,OJ p ts,adv]
theorem Yi {P:Program} {N:Nat} {own:Nat->Nat->Nat} {Q:Exit->Tm->List Blk->Prop} {T:Tm} {lc:bW} {L L':List Blk} (e:L=L') (h:AW P N own lc Q T L'):AW P N own lc Q T L:=e ▸ h
theorem XK (h:K (.agg [.sl (cq aA) aA.length none,.sl Py 9 none]) L):abC 20 [] L K:=by
 have st:∀ (a:Nat) (syn:Int) (ns:List (List UInt8)) (b:Nat),cq (aA.take a)++ns.flatMap (tnC syn)=cq (aA.take b)->a+ns.length=b->b<=100->∀ K:AV->List Blk->Prop,K (.gsl (cq (aA.take b)) b (L.length+2) 4) (L++[.cells [.sl [] 0 (some 0),.sl [] 0 (some 0)],.cells [.gsl (cq (aA.take a)) a (L.length+2) 4,.gsl [] 0 (L.length+3) 5],.spare b 4,.spare 0 5])->abC 50 [.gsl (cq (aA.take a)) a (L.length+2) 4,.int .i64 syn,.sl (ns.map AV.str) ns.length (some ns.length)] (L++[.cells [.sl [] 0 (some 0),.sl [] 0 (some 0)],.cells [.gsl (cq (aA.take a)) a (L.length+2) 4,.gsl [] 0 (L.length+3) 5],.spare a 4,.spare 0 5]) K:=fun a syn ns b h1 h2 h3 K q=>by
  refine Yv (by omega) (by simp) ?_;rw [h1,h2,acE _ _ (by omega),show L.length+2 - L.length=2 by omega];exact q
 have s1:=st 0 3 [[111,98,106,101,99,116,67,108,97,115,115]] 1 rfl rfl (by omega);have s2:=st 1 1 [[99,110],[115,110],[111,117],[111]] 5 rfl rfl (by omega);have s3:=st 5 3 [[100,99],[117,105,100],[109,97,105,108]] 8 rfl rfl (by omega);have s4:=st 8 1 [[100,101,115,99,114,105,112,116,105,111,110]] 9 rfl rfl (by omega);have s5:=st 9 6 [[109,101,109,98,101,114]] 10 rfl rfl (by omega);have s6:=st 10 7 [[117,115,101,114,80,97,115,115,119,111,114,100]] 11 rfl rfl (by omega);clear st;obtain ⟨C1,h1⟩:=aby (cq (aA.take 1));obtain ⟨C5,h5⟩:=aby (cq (aA.take 5));obtain ⟨C8,h8⟩:=aby (cq (aA.take 8));obtain ⟨C9,h9⟩:=aby (cq (aA.take 9));obtain ⟨C10,h10⟩:=aby (cq (aA.take 10));obtain ⟨C11,h11⟩:=aby (cq (aA.take 11));rw [show cq (aA.take 0)=[] from rfl] at s1;rw [h1] at s1 s2;rw [h5] at s2 s3;rw [h8] at s3 s4;rw [h9] at s4 s5;rw [h10] at s5 s6;rw [h11] at s6;simp only [abS,ado,abR,acD,acT,Nat.reduceAdd] at s1 s2 s3 s4 s5 s6;have kk1:=@hid _ (fun {K:abD}=>s1 K);have kk2:=@hid _ (fun {K:abD}=>s2 K);have kk3:=@hid _ (fun {K:abD}=>s3 K);have kk4:=@hid _ (fun {K:abD}=>s4 K);have kk5:=@hid _ (fun {K:abD}=>s5 K);have kk6:=@hid _ (fun {K:abD}=>s6 K);clear s1 s2 s3 s4 s5 s6;clear h1 h5 h8 h9 h10;replace h11:=hid h11;replace h:=hid h;refine ad Mh (by simp [sK]) ?_;simp only [sK,ao]
 iterate 6 first
  | refine a8 ?_
  | (first|refine aU (by kernel_rfl) ?_|refine aB (by kernel_rfl) ?_|refine aE ?_|refine bI ?_|refine bf (fun _=>?_)|refine ay ?_|refine aW ?_)
    simp (config:={ maxSteps:=2000000 }) only [Kon,push_cast,reduceIte,Nat.reduceEqDiff,Nat.reduceAdd,Nat.reduceMul,Nat.reduceSub,Nat.reduceLT,Nat.reduceLeDiff,Int.reduceLT,Int.reduceLE,Int.reduceAdd,Int.reduceSub,Int.reduceNeg,Int.reduceToNat,Int.reduceEq,reduceCtorEq, *]
  | (first|refine aO (by kernel_rfl) ?_|refine aP ?_|refine aD ?_|refine aV ?_|refine bp (ax ?_))
    simp only [push_cast,reduceIte,Nat.reduceEqDiff,Nat.reduceAdd,Nat.reduceMul,Nat.reduceSub,Nat.reduceLT,Nat.reduceLeDiff,Int.reduceLT,Int.reduceLE,Int.reduceAdd,Int.reduceSub,Int.reduceNeg,Int.reduceToNat,Int.reduceEq,reduceCtorEq, *]
  | exact bg
  | first|apply bh|apply aR|apply bj|apply aS|apply bm|apply aT
  | refine aH ?_
  | refine aC ?_
  | first|refine aF rfl ?_|refine aG rfl ?_|refine an rfl ?_ ?_|refine aJ rfl (fun _=>?_) (fun _=>?_)|refine aI rfl (fun _=>?_) (fun _=>?_)
  | ((first|refine am (fun _=>?_) (fun _=>?_)|refine aw (fun _=>?_) (fun _=>?_))<;>try simp (config:={ maxSteps:=2000000 }) only [Kon,push_cast,reduceIte,Nat.reduceEqDiff,Nat.reduceAdd,Nat.reduceMul,Nat.reduceSub,Nat.reduceLT,Nat.reduceLeDiff,Int.reduceLT,Int.reduceLE,Int.reduceAdd,Int.reduceSub,Int.reduceNeg,Int.reduceToNat,Int.reduceEq,reduceCtorEq, *])
  | refine And.intro trivial ?_
  | refine And.intro (by omega) ?_
  | refine aM rfl (fun _=>?_) (fun _=>?_)
  | refine And.intro ?_ ?_
 refine Oi (L.length+1) 0 4 (c:=[.sl [] 0 (some 0),.sl [] 0 (some 0)]) (l:=[]) (n:=0) (by simp) rfl rfl ?_;refine Oi (L.length+1) 1 5 (c:=[.gsl [] 0 (L.length+2) 4,.sl [] 0 (some 0)]) (l:=[]) (n:=0) (by simp) rfl rfl ?_;refine Yi (L':=L++[.cells [.sl [] 0 (some 0),.sl [] 0 (some 0)],.cells [.gsl [] 0 (L.length+2) 4,.gsl [] 0 (L.length+3) 5],.spare 0 4,.spare 0 5]) (by simp) ?_;refine wk ?_;refine ak (fun m T' L'=>∃ (j z:Nat) (D:List AV) (X:List Blk),m=5 - j/\j<=5/\Hid (z=13+j)/\Hid (D=cq (aA.take (13+j)))/\T'=[(49,.int .i64 (j:Int)),(48,.int .i64 5),(47,.sl [.str [99,114,101,97,116,101,100,65,116],.str [99,104,97,110,103,101,100,65,116],.str [112,119,100,70,97,105,108,117,114,101],.str [112,119,100,76,111,99,107,101,100],.str [112,119,100,67,104,97,110,103,101,100]] 5 (some 5)),(1,.ptr (L.length+1) 0),(0,.ptr L.length 0)]/\L'=L++(.cells [.sl [] 0 (some 0),.sl [] 0 (some 0)] :: .cells [.gsl D z (L.length+2) 4,.gsl [] 0 (L.length+3) 5] :: .spare z 4 :: .spare 0 5::X)) (CutS (b:=by simp)) ⟨0,13,_,[],rfl,by omega,hid rfl,hid (by rw [<- h11.out];rfl),rfl,rfl⟩ ?_;clear kk1 kk2 kk3 kk4 kk5 kk6 h11;rintro _ _ _ ⟨j,z,D,X,rfl,hj,hz,hD,rfl,rfl⟩;by_cases hlt:j<5
 ·have g1:(j:Int)<5:=by omega
  have g2:=abA j (by omega);have hz1:z<=20:=by have:=hz.out;omega
  have hz2:z+1=13+(j+1):=by have:=hz.out;omega
  replace hz2:=hid hz2;have hj5:j=0\/j=1\/j=2\/j=3\/j=4:=by omega
  clear hz;rcases hj5 with e|e|e|e|e
  ·have e3:([.str [99,114,101,97,116,101,100,65,116],.str [99,104,97,110,103,101,100,65,116],.str [112,119,100,70,97,105,108,117,114,101],.str [112,119,100,76,111,99,107,101,100],.str [112,119,100,67,104,97,110,103,101,100]]:List AV).getD j .undef=.str [99,114,101,97,116,101,100,65,116]:=by rw [e];rfl
   have hD2:D++[.str [99,114,101,97,116,101,100,65,116],.int .i64 4,.bool true,.bool true]=cq (aA.take (13+(j+1))):=by rw [hD.out,e];rfl
   replace hD2:=hid hD2;replace e:=hid e;clear hD;refine wk ?_;exact ai _ _ _ (by omega) (CutL (b:=by simp)) ⟨j+1,z+1,_,_,rfl,hlt,hz2,hD2,rfl,rfl⟩
  ·have e3:([.str [99,114,101,97,116,101,100,65,116],.str [99,104,97,110,103,101,100,65,116],.str [112,119,100,70,97,105,108,117,114,101],.str [112,119,100,76,111,99,107,101,100],.str [112,119,100,67,104,97,110,103,101,100]]:List AV).getD j .undef=.str [99,104,97,110,103,101,100,65,116]:=by rw [e];rfl
   have hD2:D++[.str [99,104,97,110,103,101,100,65,116],.int .i64 4,.bool true,.bool true]=cq (aA.take (13+(j+1))):=by rw [hD.out,e];rfl
   replace hD2:=hid hD2;replace e:=hid e;clear hD;refine wk ?_;exact ai _ _ _ (by omega) (CutL (b:=by simp)) ⟨j+1,z+1,_,_,rfl,hlt,hz2,hD2,rfl,rfl⟩
  ·have e3:([.str [99,114,101,97,116,101,100,65,116],.str [99,104,97,110,103,101,100,65,116],.str [112,119,100,70,97,105,108,117,114,101],.str [112,119,100,76,111,99,107,101,100],.str [112,119,100,67,104,97,110,103,101,100]]:List AV).getD j .undef=.str [112,119,100,70,97,105,108,117,114,101]:=by rw [e];rfl
   have hD2:D++[.str [112,119,100,70,97,105,108,117,114,101],.int .i64 3,.bool false,.bool true]=cq (aA.take (13+(j+1))):=by rw [hD.out,e];rfl
   replace hD2:=hid hD2;replace e:=hid e;clear hD;refine wk ?_;exact ai _ _ _ (by omega) (CutL (b:=by simp)) ⟨j+1,z+1,_,_,rfl,hlt,hz2,hD2,rfl,rfl⟩
  ·have e3:([.str [99,114,101,97,116,101,100,65,116],.str [99,104,97,110,103,101,100,65,116],.str [112,119,100,70,97,105,108,117,114,101],.str [112,119,100,76,111,99,107,101,100],.str [112,119,100,67,104,97,110,103,101,100]]:List AV).getD j .undef=.str [112,119,100,76,111,99,107,101,100]:=by rw [e];rfl
   have hD2:D++[.str [112,119,100,76,111,99,107,101,100],.int .i64 4,.bool true,.bool true]=cq (aA.take (13+(j+1))):=by rw [hD.out,e];rfl
   replace hD2:=hid hD2;replace e:=hid e;clear hD;refine wk ?_;exact ai _ _ _ (by omega) (CutL (b:=by simp)) ⟨j+1,z+1,_,_,rfl,hlt,hz2,hD2,rfl,rfl⟩
  ·have e3:([.str [99,114,101,97,116,101,100,65,116],.str [99,104,97,110,103,101,100,65,116],.str [112,119,100,70,97,105,108,117,114,101],.str [112,119,100,76,111,99,107,101,100],.str [112,119,100,67,104,97,110,103,101,100]]:List AV).getD j .undef=.str [112,119,100,67,104,97,110,103,101,100]:=by rw [e];rfl
   have hD2:D++[.str [112,119,100,67,104,97,110,103,101,100],.int .i64 4,.bool true,.bool true]=cq (aA.take (13+(j+1))):=by rw [hD.out,e];rfl
   replace hD2:=hid hD2;replace e:=hid e;clear hD;refine wk ?_;exact ai _ _ _ (by omega) (CutL (b:=by simp)) ⟨j+1,z+1,_,_,rfl,hlt,hz2,hD2,rfl,rfl⟩
 ·have g1:¬ (j:Int)<5:=by omega
  have hj5:j=5:=by omega
  have hD2:D=cq aA:=by rw [hD.out,hj5];rfl
  have hz2:z=aA.length:=by rw [hz.out,hj5];rfl
  replace hD2:=hid hD2;replace hz2:=hid hz2;clear hz hD hj5;refine wk ?_;rw [hD2.out,hz2.out];refine bv ?_;simp only [AV.frz,AV.frzL,oA];refine ae ?_ h.out;simp only [AV.refs,AV.refsL,OJ,adv]
theorem jt:abd aA:=by
 refine ⟨by decide,fun ty h=>?_,fun ty h=>?_⟩
 ·have:aA.all (fun t=>decide (t.1.length<=1000))=true:=by kernel_rfl
  have:=abO.1 this ty h;simp only [decide_eq_true_eq] at this;unfold bd;omega
 ·have:aA.all (fun t=>decide (eA aA t.1=some t))=true:=by kernel_rfl
  simpa using abO.1 this ty h
set_option maxRecDepth 100000
theorem KA {L0 L:List Blk} {r:AV} {Q:AV->List Blk->Prop} (i:Nat) {c:List AV} (hL:L[i]?=some (.cells c)) (h:Fin L0 r (L.set i (.cells (AV.frzL c))) Q):Fin L0 r L Q:=fun w0 S0 E0 E w v h0 hn hw hR hv=>h w0 S0 E0 E w v h0 hn hw (hR.frzB hL) hv
def KY (e:bt):List AV:=[.int .i64 e.1,atV e.2]
def cn (l:List bt):List AV:=l.flatMap KY
theorem E8 (l:List bt):(cn l).length=l.length * 2:=by
 induction l with
 | nil=>rfl
 | cons e l ih=>unfold cn at ih ⊢;rw [acU,abW,ih];simp [KY];omega
theorem rQ (l m:List bt):cn (l++m)=cn l++cn m:=by unfold cn;rw [adR]
theorem Eo:∀ {l:List bt} {k:Nat},k<l.length->((cn l).drop (k * 2)).take 2=KY (l.getD k (0,[]))
 | e::l,0,_=>by unfold cn;rw [acU];simp [KY]
 | e::l,k+1,h=>by
   have ih:=Eo (l:=l) (k:=k) (by simpa using h);have:cn (e::l)=KY e++cn l:=by unfold cn;rw [acU]
   rw [this,adV];show ((cn l).drop (k * 2)).take 2=_
   rw [ih];rfl
def Zy (L:List Blk) (rt:Nat) (s:List AV) (tm:TMp) (l:List bt):Prop:=∃ k2,L[rt]?=some (.cells (s++[.sl ((tm.map (·.1)).map AV.str) tm.length none,.sl (cn l) l.length k2]))
theorem Wl {ts:List Typ} {capT:Option Nat} {c2:List AV} {n2:Nat} {cap2:Option Nat} {ns:List (List UInt8)} {cap:Option Nat} (hl:ts.length<=1100000) (hts:∀ t∈ts,bd t.1) (hc2:AV.frzL c2=c2) (hnl:ns.length<=1000000) (hn:∀ n∈ns,bd n) {R:Int×TMp} (hR:J9 ts [] ns=R) {L:List Blk} {K:abD}
  (h0:∀ L',R.1≠0->bD (fun _=>False) L L'->K (.tup [.nilptr,.int .i64 R.1]) L')
  (h1:∀ L' rt,R.1=0->Zy L' rt [.sl (cq ts) ts.length none,.sl c2 n2 none] R.2 []->bD (fun _=>False) L L'->L.length<=rt->K (.tup [.ptr rt 0,.int .i64 0]) L') :
  abC 32 [.agg [.sl (cq ts) ts.length capT,.sl c2 n2 cap2],.sl (ns.map AV.str) ns.length cap] L K:=by
 have kA:Hid (∀ {n:List UInt8},bd n->∀ {L:List Blk} {K:abD},(eA ts n=none->K (.int .i64 (-1)) L)->(∀ k:Nat,k<ts.length->eA ts n=some (ts.getD k kQ)->K (.int .i64 k) L)->abC 12 [.sl (cq ts) ts.length capT,.str n] L K):=@hid _ (fun {n} h {L K} q1 q2=>aax hl hts h q1 q2);have hfz:=oA ts;replace hR:=hid hR;replace hn:=hid hn;replace h0:=hid h0;replace h1:=hid h1;clear hts hl;obtain ⟨TS,hTS⟩:=aby (cq ts);obtain ⟨tl,htl⟩:=aby (ts.length);rw [hTS,htl] at kA ⊢;rw [hTS] at hfz;refine abB NR ?_;refine Oi (L.length+1) 2 1 (c:=[.sl TS tl capT,.sl c2 n2 cap2,.sl [] 0 (some 0),.sl [] 0 (some 0)]) (l:=[]) (n:=0) (by rw [ab8 (by omega)];simp) rfl rfl ?_;refine Yi (L':=L++(.cells [.sl TS tl capT,.sl c2 n2 cap2] :: .cells [.sl TS tl capT,.sl c2 n2 cap2,.gsl [] 0 (L.length+2) 1,.sl [] 0 (some 0)]::[.spare 0 1])) (by
  rw [acE _ _ (by omega),show L.length+1 - L.length=1 by omega];simp) ?_
 refine ak (fun m T' L'=>∃ (i:Nat) (tm:TMp) (C:List AV) (X:List Blk),m=ns.length - i/\i<=ns.length/\Hid (J9 ts tm (ns.drop i)=R)/\Hid (C=(tm.map (·.1)).map AV.str)/\Hid (tm.length<=i)/\T'=[(14,.int .i64 (i:Int)),(13,.int .i64 ns.length),(12,.sl (ns.map AV.str) ns.length cap),(6,.ptr (L.length+1) 0),(2,.ptr L.length 0)]/\L'=L++(.cells [.sl TS tl capT,.sl c2 n2 cap2] :: .cells [.sl TS tl capT,.sl c2 n2 cap2,.gsl C tm.length (L.length+2) 1,.sl [] 0 (some 0)] :: .spare tm.length 1::X)) (CutS (b:=by simp)) ⟨0,[],[],[],rfl,abL _,hid (by simpa using hR.out),hid rfl,hid (abF _),rfl,rfl⟩ ?_;rintro _ _ _ ⟨i,tm,C,X,rfl,hi,hr,hC,hti,rfl,rfl⟩;have e1:∀ (a b c:Blk) (X:List Blk),(L++a::b::c::X)[L.length+1]?=some b:=fun a b c X=>by rw [ab8 (by omega)];simp
 have e2:∀ (a b c d:Blk) (X:List Blk),(L++a::b::c::X).set (L.length+1) d=L++a::d::c::X:=fun a b c d X=>by rw [acE _ _ (by omega)];simp
 have e3:∀ (a b c:Blk) (X:List Blk),(L++a::b::c::X)[L.length+2]?=some c:=fun a b c X=>by rw [ab8 (by omega)];simp
 have e4:∀ (a b c d:Blk) (X:List Blk),(L++a::b::c::X).set (L.length+2) d=L++a::b::d::X:=fun a b c d X=>by rw [acE _ _ (by omega)];simp
 by_cases hlt:i<ns.length
 ·have j1:(i:Int)<(ns.length:Int):=by omega
  have j2:=abA i (by omega);have j3:(ns.map AV.str).getD i .undef=.str (ns.getD i []):=by simp [hlt]
  have j4:i<(ns.map AV.str).length:=by simpa using hlt
  obtain ⟨n,hn1⟩:=aby (ns.getD i []);have hrn:bd n:=hn.out n (by rw [<- hn1];simp [hlt]);have hdr:ns.drop i=n::ns.drop (i+1):=by rw [acp hlt,<- hn1];simp [hlt]
  rw [hn1] at j3;have hr2:=hr.out;rw [hdr,J9] at hr2;clear hr hn1 hdr;obtain ⟨NS,hNS⟩:=aby (ns.map AV.str);rw [hNS] at j3 j4 ⊢;replace hNS:=hid hNS;obtain ⟨f,hf⟩:=aby (ab n);rw [hf] at hr2;have kk1:Hid (Ctr Tryz.prog 39 [.str n] (.str f)):=@hid _ (by intro L K q;exact bL hrn (by rw [hf];exact q));have htb:tm.length<=1000000:=by have:=hti.out;omega
  rcases hty:eA ts n with _|ty
  ·have kk2:Hid (Ctr Tryz.prog 12 [.sl TS tl capT,.str n] (.int .i64 (-1))):=@hid _ (fun {L K} q=>kA.out hrn (fun _=>q) (fun k _ e=>by rw [hty] at e;cases e));rw [hty] at hr2;simp only at hr2;have hfin:=hid (h0.out (L++(.cells [.sl TS tl capT,.sl c2 n2 cap2] :: .cells [.sl TS tl capT,.sl c2 n2 cap2,.gsl C tm.length (L.length+2) 1,.sl [] 0 (some 0)] :: .spare tm.length 1::X)) (by rw [<- hr2];simp) (bD.app _ _));rw [<- hr2] at hfin;clear hr2 hty hR;refine wk ?_;exact aa hfin.out
  ·have kB:Hid (∀ {L:List Blk} {K:abD},(∀ k:Nat,K (.int .i64 k) L)->abC 12 [.sl TS tl capT,.str n] L K):=@hid _ (fun {L K} q=>kA.out hrn (fun e=>by rw [hty] at e;cases e) (fun k _ _=>q k));rw [hty] at hr2;simp only at hr2;clear hty;refine wk ?_;refine kB.out fun k=>?_
   have hk0:¬ (k:Int)<0:=by omega
   have kH:∀ b:Bool,decide (f∈tm.map (·.1))=b->Hid (∀ {L:List Blk} {K:abD} {j:Nat},K (.bool b) L->abC 82 [.gsl C tm.length j 1,.str f] L K):=fun b hb=>@hid _ (fun {L K j} q=>by
    refine mm ?_;have:=Y9 (xs:=tm.map (·.1)) (cap:=none) (s:=f) (by simp;omega) (L:=L) (K:=K) (by rw [acr,hb];exact q);rw [aco] at this;simp only [AV.frzL,AV.frz,hC.out,dD];exact this)
   by_cases hin:f∈tm.map (·.1)
   ·have kk2:=@kH true (decide_eq_true hin);rw [if_pos hin] at hr2;have hfin:=hid (h0.out (L++(.cells [.sl TS tl capT,.sl c2 n2 cap2] :: .cells [.sl TS tl capT,.sl c2 n2 cap2,.gsl C tm.length (L.length+2) 1,.sl [] 0 (some 0)] :: .spare tm.length 1::X)) (by rw [<- hr2];simp) (bD.app _ _));rw [<- hr2] at hfin;clear hr2 hR kH kB hin;refine wk ?_;exact aa hfin.out
   ·have kk2:=@kH false (decide_eq_false hin);rw [if_neg hin] at hr2;replace hr2:=hid hr2;have hC2:=hid (show C++[.str f]=((tm++[(f,ty,tm.length)]).map (·.1)).map AV.str by rw [hC.out];simp);have hlen:=hid (show (tm++[(f,ty,tm.length)]).length=tm.length+1 by simp);have hti2:=hid (show (tm++[(f,ty,tm.length)]).length<=i+1 by have:=hti.out;simp;omega);clear hR kH kB hin;refine wk ?_;rw [<- hNS.out];refine ai _ _ _ (by omega) (CutL (b:=by simp)) ⟨i+1,tm++[(f,ty,tm.length)],_,X,rfl,hlt,hr2,hC2,hti2,rfl,?_⟩;rw [hlen.out]
 ·have hie:i=ns.length:=by omega
  subst hie;have j1:¬ (ns.length:Int)<(ns.length:Int):=by omega
  have hr2:=hr.out;rw [acm,J9] at hr2;have hfin:=hid (h1.out (L++(.cells [.sl TS tl capT,.sl c2 n2 cap2] :: .cells [.sl TS tl none,.sl c2 n2 none,.sl C tm.length none,.sl [] 0 none] :: .spare tm.length 1::X)) (L.length+1) (by rw [<- hr2]) ⟨none,by
   rw [e1,<- hr2,hTS,htl,hC.out];rfl⟩ (bD.app _ _) (by omega))
  have hCf:AV.frzL C=C:=by rw [hC.out];exact dD _
  clear hr2 hr hR hC;refine wk ?_;refine KA (L.length+1) (e1 _ _ _ _) ?_;rw [e2];simp only [AV.frzL,AV.frz,hfz,hc2,hCf];exact aa hfin.out
theorem Pr (l:List bt):AV.frzL (cn l)=cn l:=by
 induction l with
 | nil=>rfl
 | cons e l ih =>
   have:cn (e::l)=KY e++cn l:=by unfold cn;rw [acU]
   rw [this,AV.frzL_eq,aca,<- AV.frzL_eq,<- AV.frzL_eq,ih];simp only [KY,AV.frzL,AV.frz,atV,gQ]
theorem OY {a b c:AV} {l:List bt} {k2:Option Nat} (hl:l.length<=1000000) {L:List Blk} {rt:Nat} (hL:L[rt]?=some (.cells [a,b,c,.sl (cn l) l.length k2])) (ha:a.frz=a) (hb:b.frz=b) (hc:c.frz=c) {id:Int} {K:abD}
  (h:∀ L' k,L'[rt]?=some (.cells [a,b,c,.sl (cn (b9 id l)) (b9 id l).length k])->bD (fun i=>i=rt) L L'->K (.tup []) L') :
  abC 36 [.ptr rt 0,.int .i64 id] L K:=by
 have hrl:=(abE.1 hL).1;have ar:∀ X,(L++X)[rt]?=some (.cells [a,b,c,.sl (cn l) l.length k2]):=fun X=>by rw [abQ hrl];exact hL
 have sr:∀ (X:List Blk) d,(L++X).set rt d=L.set rt d++X:=fun X d=>acH _ _ hrl
 have hel:=E8 l;have hat:=hid (fun k (q:k<l.length)=>Eo q);have hat2:=hid (fun k (q:k<l.length)=>show b9 id (l.take (k+1))=b9 id (l.take k)++(if (l.getD k (0,[])).1≠id then [l.getD k (0,[])] else []) by
  rw [ab2 q];unfold b9;rw [List.filter_append]
  congr 1
  by_cases e:l[k].1=id<;>simp [q,e])
 have hfin:=hid (show ∀ k L2,K (.tup []) (L.set rt (.cells [a,b,c,.sl (cn (b9 id l)) (b9 id l).length k])++L2) from fun k L2=>h _ k (by rw [abQ (by simpa using hrl),act hrl]) ((bD.set (B:=fun i=>i=rt) L (.inl rfl) _).trans (bD.app (B:=fun _=>False) _ _) fun i _ e=>e.elim));obtain ⟨ES,hES⟩:=aby (cn l);rw [hES] at ar hel hat hL;clear h hES;refine abB xt ?_;refine cH (l:=[]) (n:=0) 4 2 rfl (acf 2).symm ?_;refine ak (fun m T' L'=>∃ (i:Nat) (C:List AV) (k:Nat) (X:List Blk),m=l.length - i/\i<=l.length/\Hid (C=cn (b9 id (l.take i))/\k=(b9 id (l.take i)).length)/\T'=[(12,.int .i64 (i:Int)),(11,.int .i64 l.length),(10,.sl ES l.length k2),(4,.gsl C k L.length 2),(0,.ptr rt 0),(1,.int .i64 id)]/\L'=L++(.spare k 2::X)) (CutS (b:=by simp)) ⟨0,[],0,[],rfl,abL _,hid ⟨rfl,rfl⟩,rfl,rfl⟩ ?_;clear hL;rintro _ _ _ ⟨i,C,k,X,rfl,hi,hC,rfl,rfl⟩;by_cases hlt:i<l.length
 ·have j1:(i:Int)<(l.length:Int):=by omega
  have j2:=abA i (by omega);have e3:=hat.out i hlt;have e4:i * 2+2<=ES.length:=by rw [hel];omega
  have e5:=hat2.out i hlt;obtain ⟨⟨x,av⟩,hx⟩:∃ e,l.getD i (0,[])=e:=⟨_,rfl⟩;rw [hx] at e3 e5;simp only [KY] at e3;simp only at e5;have hkb:k<=1000000:=by
   rw [hC.out.2];have:=adx (fun e:bt=>decide (e.1≠id)) (l.take i);rw [ad6] at this;unfold b9;omega
  have hef:AV.frzL (bq av)=bq av:=gQ av;by_cases hq:x=id
  ·rw [if_neg (by simpa using hq),acj] at e5;have hC2:=hid (show C=cn (b9 id (l.take (i+1)))/\k=(b9 id (l.take (i+1))).length by rw [e5];exact hC.out);subst hq;clear hx e5;refine wk ?_;exact ai _ _ _ (by omega) (CutL (b:=by simp)) ⟨i+1,_,_,_,rfl,hlt,hC2,rfl,rfl⟩
  ·rw [if_pos hq] at e5;have hC2:=hid (show C++[.int .i64 x,.sl (bq av) av.length none]=cn (b9 id (l.take (i+1)))/\k+1=(b9 id (l.take (i+1))).length by
    rw [e5,rQ,hC.out.1,abW,hC.out.2];exact ⟨rfl,rfl⟩)
   clear hx e5;refine wk ?_;exact ai _ _ _ (by omega) (CutL (b:=by simp)) ⟨i+1,_,_,_,rfl,hlt,hC2,rfl,rfl⟩
 ·have hie:i=l.length:=by omega
  subst hie;have j1:¬ (l.length:Int)<(l.length:Int):=by omega
  obtain ⟨hC1,hC2⟩:=hC.out;rw [abY] at hC1 hC2;have hCf:AV.frzL C=C:=by rw [hC1];exact Pr _
  have hf2:=hid (fun X=>hfin.out none X);rw [<- hC1,<- hC2] at hf2;clear hC hC1 hC2 hfin hat hat2;refine wk ?_;refine dG rfl trivial (KA rt (by rw [abQ (by simpa using hrl),act hrl]) ?_);rw [acH _ _ (by simpa using hrl),ad8];simp only [AV.frzL,AV.frz,ha,hb,hc,hCf];exact aa (hf2.out _)
theorem U0 {x e:bt} {t:List bt} (h:¬ x.1<e.1) (l:List bt):l++gF x (e::t)=(l++[e])++gF x t:=by
 rw [gF,if_neg h];simp
theorem Wh {a b c:AV} {l:List bt} {k2:Option Nat} (hl:l.length<=900000) {L:List Blk} {rt:Nat} (hL:L[rt]?=some (.cells [a,b,c,.sl (cn l) l.length k2])) (ha:a.frz=a) (hb:b.frz=b) (hc:c.frz=c) {id:Int} {v:List Atr} {cap:Option Nat} (hv:v.length<=1100000) (hz:∀ a∈v,a.2.length<=1100000) {K:abD}
  (h:∀ L' k,L'[rt]?=some (.cells [a,b,c,.sl (cn (nZ id v l)) (nZ id v l).length k])->bD (fun i=>i=rt) L L'->K (.tup []) L') :
  abC 37 [.ptr rt 0,.int .i64 id,.sl (bq v) v.length cap] L K:=by
 have kD:Hid (∀ {K:abD},(∀ L' k,Hid (L'[rt]?=some (.cells [a,b,c,.sl (cn (b9 id l)) (b9 id l).length k])/\bD (fun i=>i=rt) L L')->K (.tup []) L')->abC 36 [.ptr rt 0,.int .i64 id] L K):=@hid _ (fun {K} q=>OY (by omega) hL ha hb hc fun L' k q1 q2=>q L' k (hid ⟨q1,q2⟩));have kk1:Hid (Ctr Tryz.prog 86 [.sl (bq v) v.length cap] (.sl (bq v) v.length none)):=@hid _ (fun {L K} q=>YK hv hz q);have hvf:AV.frzL (bq v)=bq v:=gQ v;have hdl:(b9 id l).length<=900000:=ab7 (adx _ _) hl;unfold nZ at h;obtain ⟨m,hm⟩:=aby (b9 id l);rw [hm] at h hdl kD;replace h:=hid h;clear hL hm hl hv hz;refine abB Et ?_;refine kD.out fun L1 k1 hD=>?_
 clear kD;have hL:=hD.out.1;have hrl:=(abE.1 hL).1;have ar:∀ X,(L1++X)[rt]?=some (.cells [a,b,c,.sl (cn m) m.length k1]):=fun X=>by rw [abQ hrl];exact hL
 have sr:∀ (X:List Blk) d,(L1++X).set rt d=L1.set rt d++X:=fun X d=>acH _ _ hrl
 have hel:=E8 m;have hat:=hid (fun k (q:k<m.length)=>Eo q);have hfin:=hid (show ∀ k L2,K (.tup []) (L1.set rt (.cells [a,b,c,.sl (cn (gF (id,v) m)) (gF (id,v) m).length k])++L2) from fun k L2=>h.out _ k (by rw [abQ (by simpa using hrl),act hrl]) (hD.out.2.trans ((bD.set (B:=fun i=>i=rt) L1 (.inl rfl) _).trans (bD.app (B:=fun _=>False) _ _) fun i _ e=>e.elim) fun i _ e=>e));obtain ⟨ES,hES⟩:=aby (cn m);rw [hES] at ar hel hat hL;clear h hD;refine wk ?_;refine cH (l:=[]) (n:=0) 6 2 rfl (acf 2).symm ?_;refine ak (fun n T' L'=>∃ (i:Nat) (out:List bt) (C:List AV) (k:Nat) (dn:Bool) (X:List Blk),n=m.length - i/\i<=m.length/\Hid (C=cn out/\k=out.length/\k<=i+1/\(dn=false->k<=i))/\Hid (if dn=true then out++m.drop i=gF (id,v) m else out++gF (id,v) (m.drop i)=gF (id,v) m)/\T'=[(18,.int .i64 (i:Int)),(17,.int .i64 m.length),(16,.sl ES m.length k1),(6,.gsl C k L1.length 2),(7,.bool dn),(0,.ptr rt 0),(1,.int .i64 id),(2,.sl (bq v) v.length cap)]/\L'=L1++(.spare k 2::X)) (CutS (b:=by simp)) ⟨0,[],[],0,false,[],rfl,abL _,hid ⟨rfl,rfl,by omega,fun _=>abF _⟩,hid (by simp),rfl,rfl⟩ ?_;clear hL;rintro _ _ _ ⟨i,out,C,k,dn,X,rfl,hi,hC,hI,rfl,rfl⟩;by_cases hlt:i<m.length
 ·have j1:(i:Int)<(m.length:Int):=by omega
  have j2:=abA i (by omega);have e3:=hat.out i hlt;have e4:i * 2+2<=ES.length:=by rw [hel];omega
  have hdr:m.drop i=m.getD i (0,[])::m.drop (i+1):=by rw [acp hlt];simp [hlt]
  obtain ⟨⟨x,av⟩,hx⟩:∃ e,m.getD i (0,[])=e:=⟨_,rfl⟩;rw [hx] at e3 hdr;simp only [KY] at e3;have hkb:k<=1000000:=by have:=hC.out.2.2.1;omega
  have hkb2:k+1<=1000000:=by have:=hC.out.2.2.1;omega
  have hef:AV.frzL (bq av)=bq av:=gQ av;have hI2:=hI.out;rw [hdr] at hI2;cases dn with
  | true =>
    simp only [if_true] at hI2;have hC2:=hid (show C++[.int .i64 x,.sl (bq av) av.length none]=cn (out++[(x,av)])/\k+1=(out++[(x,av)]).length/\k+1<=i+1+1/\(true=false->k+1<=i+1) by
     have h1:=hC.out.2.2.1;rw [rQ,hC.out.1,abW];refine ⟨rfl,by rw [hC.out.2.1];rfl,by omega,fun e=>by cases e⟩)
    have hI3:=hid (show (if true=true then (out++[(x,av)])++m.drop (i+1)=gF (id,v) m else (out++[(x,av)])++gF (id,v) (m.drop (i+1))=gF (id,v) m) by simpa using hI2);clear hx hdr hI hI2 hkb2;refine wk ?_;exact ai _ _ _ (by omega) (CutL (b:=by simp)) ⟨i+1,_,_,_,true,_,rfl,hlt,hC2,hI3,rfl,rfl⟩
  | false =>
    simp only [abU,if_false] at hI2;by_cases hq:id<x
    ·rw [gF,if_pos hq] at hI2;have hC2:=hid (show C++[.int .i64 id,.sl (bq v) v.length none,.int .i64 x,.sl (bq av) av.length none]=cn (out++[(id,v),(x,av)])/\k+1+1=(out++[(id,v),(x,av)]).length/\k+1+1<=i+1+1/\(true=false->k+1+1<=i+1) by
      have h1:=hC.out.2.2.2 rfl;rw [rQ,hC.out.1,abW];refine ⟨rfl,by rw [hC.out.2.1];rfl,by omega,fun e=>by cases e⟩)
     have hI3:=hid (show (if true=true then (out++[(id,v),(x,av)])++m.drop (i+1)=gF (id,v) m else (out++[(id,v),(x,av)])++gF (id,v) (m.drop (i+1))=gF (id,v) m) by simpa using hI2);clear hx hdr hI hI2;refine wk ?_;exact ai _ _ _ (by omega) (CutL (b:=by simp)) ⟨i+1,_,_,_,true,_,rfl,hlt,hC2,hI3,rfl,rfl⟩
    ·rw [U0 hq] at hI2;have hC2:=hid (show C++[.int .i64 x,.sl (bq av) av.length none]=cn (out++[(x,av)])/\k+1=(out++[(x,av)]).length/\k+1<=i+1+1/\(false=false->k+1<=i+1) by
      have h1:=hC.out.2.2.2 rfl;rw [rQ,hC.out.1,abW];refine ⟨rfl,by rw [hC.out.2.1];rfl,by omega,fun _=>by omega⟩)
     have hI3:=hid (show (if false=true then (out++[(x,av)])++m.drop (i+1)=gF (id,v) m else (out++[(x,av)])++gF (id,v) (m.drop (i+1))=gF (id,v) m) by simpa using hI2);clear hx hdr hI hI2 hkb2;refine wk ?_;exact ai _ _ _ (by omega) (CutL (b:=by simp)) ⟨i+1,_,_,_,false,_,rfl,hlt,hC2,hI3,rfl,rfl⟩
 ·have hie:i=m.length:=by omega
  subst hie;have j1:¬ (m.length:Int)<(m.length:Int):=by omega
  have hI2:=hI.out;rw [acm] at hI2;obtain ⟨hC1,hC2,hC3,hC4⟩:=hC.out;have hkb:k<=1000000:=by omega
  have hCf:AV.frzL C=C:=by rw [hC1];exact Pr _
  cases dn with
  | true =>
    simp only [if_true,acj] at hI2;have hf2:=hid (fun X=>hfin.out none X);rw [<- hI2,<- hC1,<- hC2] at hf2;clear hC hC1 hC2 hC3 hC4 hfin hat hI hI2;refine wk ?_;refine dG rfl trivial (KA rt (by rw [abQ (by simpa using hrl),act hrl]) ?_);rw [acH _ _ (by simpa using hrl),ad8];simp only [AV.frzL,AV.frz,ha,hb,hc,hCf];exact aa (hf2.out _)
  | false =>
    simp only [abU,if_false,gF] at hI2;have hf2:=hid (fun X=>hfin.out none X);rw [<- hI2,rQ,abW,<- hC1,<- hC2] at hf2;have hCf2:AV.frzL (C++[.int .i64 id,.sl (bq v) v.length none])=C++[.int .i64 id,.sl (bq v) v.length none]:=by
     rw [AV.frzL_eq,aca,<- AV.frzL_eq,hCf,<- AV.frzL_eq];simp only [AV.frzL,AV.frz,hvf]
    clear hC hC1 hC2 hC3 hC4 hfin hat hI hI2;refine wk ?_;refine dG rfl trivial (KA rt (by rw [abQ (by simpa using hrl),act hrl]) ?_);rw [acH _ _ (by simpa using hrl),ad8];simp only [AV.frzL,AV.frz,ha,hb,hc,hCf2];exact aa (hf2.out _)
end Go.Proofs.YtcmfcpjnhephaaaGreatDoor.Av
set_option maxRecDepth 100000
namespace Go.Proofs.YtcmfcpjnhephaaaGreatDoor.Av
open Go
end Go.Proofs.YtcmfcpjnhephaaaGreatDoor.Av
set_option maxRecDepth 100000
namespace Go.Proofs.YtcmfcpjnhephaaaGreatDoor.Av
open Go
def DO:LSO:=[Ae 4]
def DN:LSO:=[Aa 6 0,Ai 7 6,Aa 8 1,Ai 9 8,Bm 10 7 9]
def DM:LSO:=[Ae 4]
def DL:LSO:=[Aa 11 0,Ai 12 11,Ab 13 0]
def DK:LSO:=[Aj 14 13 12]
def DJ:LSO:=[Aa 15 13,Aa 5 15]
def DI:LSO:=[Aa 16 0,Aa 17 5,Am 18 1 16 17,Ac 19 1 18,Aa 20 1,Aa 21 5,Am 22 1 20 21,Ac 23 1 22,Bm 24 19 23]
def DH:LSO:=[Ae 4]
def DG:LSO:=[Ah 25 13 1,Aa 13 25]
def DF:LSO:=[Ax 4]
def sV:be:=⟨26,(.seq (.sreg DO [])
 (.seq (.seq (.sreg DN Ck)
 (.cond (tm 10) (.seq (.sreg DM [])
 .ret)
 .skip))
 (.seq (.seq (.sreg DL Cm)
 (.block 0 (.loop (.seq (.sreg DK [])
 (.seq (.cond (tm 14) .skip
 (.exit 0))
 (.seq (.block 1 (.seq (.sreg DJ Ch)
 (.seq (.sdreg DI [.pure,.pure,(.read 0 0),(.read 0 0),.pure,.pure,(.read 0 0),(.read 0 0)] Cu)
 (.cond (tm 24) (.seq (.sreg DH [])
 .ret)
 .skip))))
 (.sreg DG Ch)))))))
 (.seq (.sreg DF [])
 .ret)))),[(.tmp 4)]⟩
attribute [push_cast] DO DN DM DL DK DJ DI DH DG DF
theorem Mt:br Tryz.prog (fun _ _=>1) 22=some sV.raw:=by kernel_rfl
end Go.Proofs.YtcmfcpjnhephaaaGreatDoor.Av
set_option maxRecDepth 100000
namespace Go.Proofs.YtcmfcpjnhephaaaGreatDoor.Av
open Go
open Go Go.Sort
def KD (n:Nat):List AV:=Mb (List.replicate n 0)
open Go Go.Sort Go.Proofs
set_option maxHeartbeats 8000000
set_option maxRecDepth 100000
def Own (L:List Blk) (m:List Int) (v:AV) (L':List Blk):Prop:=(v=.sl [] 0 (some 0)/\m=[]/\L'=L)\/∃ z,v=.lsl L.length 0 m.length none 1/\L'=L++[.cells (Mb m++KD z)]
def X9 (L:List Blk) (m:List Int) (v:AV) (L':List Blk):Prop:=(v=.sl [] 0 (some 0)/\m=[]/\∃ X,L'=L++X)\/∃ z X,v=.lsl L.length 0 m.length none 1/\L'=L ++ .cells (Mb m++KD z)::X
theorem Own.x {L L':List Blk} {m:List Int} {v:AV} (h:Own L m v L'):X9 L m v L':=by
 rcases h with ⟨h1,h2,h3⟩|⟨z,h1,h2⟩
 ·exact .inl ⟨h1,h2,[],by simp [h3]⟩
 ·exact .inr ⟨z,[],h1,h2⟩
theorem X9.len {L L':List Blk} {m:List Int} {v:AV} (h:X9 L m v L'):L.length<=L'.length:=by
 rcases h with ⟨_,_,X,rfl⟩|⟨z,X,_,rfl⟩<;>simp
theorem X9.fin {L L':List Blk} {m:List Int} {v:AV} {K:abD} (ho:X9 L m v L') (h:∀ v L',Own L m v L'->K v L'):Fin L v L' K:=by
 rcases ho with ⟨rfl,h2,X,rfl⟩|⟨z,X,rfl,rfl⟩
 ·exact ae rfl (h _ _ (.inl ⟨rfl,h2,rfl⟩))
 ·refine Ua L.length (.cells (Mb m++KD z)) rfl (abF _) (by simp) (by simp [AV.refs]) ?_ ?_
  ·simp only [Blk.refs,KD,<- aca,KI]
  ·simpa [AV.ren] using h _ _ (.inr ⟨z,rfl,rfl⟩)
end Go.Proofs.YtcmfcpjnhephaaaGreatDoor.Av
