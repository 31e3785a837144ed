/- Joined texts of the walk, made small by a program. -/
import Derived.Test.YtdnfjhflkkpokaaGreatDoorGk4
import Derived.Test.YtdnfjhflkkpokaaGreatDoorRows
import Derived.KernelRfl
import Derived.Test.YtdnfjhflkkpokaaGreatDoorGk7
import Derived.Test.YtdnfjhflkkpokaaGreatDoorGk5
import Derived.Test.YtdnfjhflkkpokaaGreatDoorGk8
import Derived.Sort.Walk0
set_option linter.unusedSimpArgs false
set_option linter.unusedVariables false
set_option maxRecDepth 100000
namespace Go.Proofs.YtdnfjhflkkpokaaGreatDoor.Av
open Go
variable {s typ b:List UInt8}{cap:Option Nat}{n k i:Nat}{a c:UInt8}{r:Rdn}{d:List Rdn}
def LR:LSO:=[Af 2]
def LQ:LSO:=[Aa 6 0,Aj 7 49 6,Aa 3 7]
def LP:LSO:=[Aa 8 3,Ax 9 8,AL 10 9 1,Aa 11 10,.grp none 11 true
 [Ae 12 11 3,og 13 11 true (.len true (tm 12)),og 14 11 true (.bin .leq (tm 13) (iv 32))]
 15 (tm 14),Aa 4 15]
def LO:LSO:=[Ac 5 0]
def LN:LSO:=[Aa 16 5,Aa 17 3,Ax 18 17,Al 19 16 18,Aa 20 19,.grp none 20 true
 [Ae 21 20 4]
 22 (tm 21)]
def LM:LSO:=[Aa 25 3,Aa 26 5,AK 27 25 26,
 o1 28 (.call 133 [(tm 27),(.av (.str [97,98,99,100,101,102,103,104,105,106,107,108,109,110,111,112,113,114,115,116,117,118,119,120,121,122]))]),Aa 29 28,.grp none 29 false
 [Ag 30 29 5,AC 31 29 30 0,Ag 32 29 31,.grp (some (29,false)) 32 true
 [Ae 33 32 3,Ae 34 32 5,Bk 35 32 33 34,og 36 32 true (.call 133 [(tm 35),(.av (.str [48,49,50,51,52,53,54,55,56,57,45]))])]
 37 (tm 36)]
 38 (tm 37),Aa 4 38]
def LL:LSO:=[Aa 23 5,Ai 24 23 1,Aa 5 24]
def LK:LSO:=[Aa 39 4,Aa 2 39]
def Fb:aK:=⟨40,(ash LR [] (ash LQ C6 (ash LP CB (.seq (ash LO [] (ask 0 (.seq (ash LN CB (asl 22 0)) (.seq (.block 1 (.sreg LM CC)) (.sreg LL C6))))) (ash LK C4 .ret))))),[(.tmp 2)]⟩
attribute [push_cast] LR LQ LP LO LN LM LL LK
theorem X9:asm 86=asn Fb:=asq
def Ub:LSO:=[Af 4]
def Ua:LSO:=[Ac 5 0]
def T9:LSO:=[Aa 6 5,Aa 7 1,Ax 8 7,Al 9 6 8]
def T8:LSO:=[Aa 12 1,Aa 13 5,AK 14 12 13,Aa 15 0,AH 16 14 15]
def T7:LSO:=[A5 4]
def T6:LSO:=[Aa 10 5,Ai 11 10 1,Aa 5 11]
def T5:LSO:=[Af 4]
def Sx:aK:=⟨17,(ash Ub [] (.seq (ash Ua [] (ask 0 (.seq (ash T9 C7 (asl 9 0)) (.seq (.block 1 (ash T8 CA (asj 16 (.sreg T7 [])))) (.sreg T6 C6))))) (ash T5 [] .ret))),[(.tmp 4)]⟩
attribute [push_cast] Ub Ua T9 T8 T7 T6 T5
theorem aaE:asm 133=asn Sx:=asq
def QF:LSO:=[Af 4]
def QE:LSO:=[Aa 7 0,Ah 8 7,Ac 9 0]
def QD:LSO:=[Al 10 9 8]
def QC:LSO:=[Am 11 2 7 9,As 12 2 11,Bm 6,Ap 2 6 12]
def QB:LSO:=[Ad 13 0 6,Ab 14 1 13,Aj 15 49 14,Aa 16 1,Aj 17 49 16,AH 18 15 17]
def QA:LSO:=[A5 4]
def Qz:LSO:=[Ai 19 9 1,Aa 9 19]
def Qy:LSO:=[Af 4]
def NU:aK:=⟨20,(ash QF [] (.seq (ash QE [] (ask 0 (ash QD [] (.seq (asl 10 0) (.seq (.block 1 (ash QC C6 (ash QB CB (asj 18 (.sreg QA []))))) (.sreg Qz C4)))))) (ash Qy [] .ret))),[(.tmp 4)]⟩
attribute [push_cast] QF QE QD QC QB QA Qz Qy
theorem Z3:asm 87=asn NU:=asq
def H7:LSO:=[Ak 2,Ac 3 0]
def H6:LSO:=[Aa 12 0,Ax 13 12,A7 14 13 4096]
def H5:LSO:=[Ak 2,Ac 3 5]
def H4:LSO:=[Ak 4]
def H3:LSO:=[Ac 5 0]
def H2:LSO:=[Aa 15 0,Ax 16 15,A7 17 16 0]
def H1:LSO:=[Ak 6]
def H0:LSO:=[Aa 18 4,Ah 19 18,An 20 19 32]
def HZ:LSO:=[Ak 2,Ac 3 9]
def HY:LSO:=[Aa 21 6,Ah 22 21,An 23 22 8]
def Dv:LSO:=[Ak 2,Ac 3 9]
def Du:LSO:=[Aa 24 5,Aa 7 24]
def Dt:LSO:=[Aa 25 7,Aa 26 0,Ax 27 26,Al 28 25 27,Aa 29 28,.grp none 29 true
 [Ae 30 29 0,Ae 31 29 7,Bk 32 29 30 31,og 33 29 true (.bin .neq (tm 32) (.av (.int .u8 61)))]
 34 (tm 33)]
def Ds:LSO:=[Aa 35 7,Ai 36 35 1,Aa 7 36]
def Do:LSO:=[Aa 37 7,Aa 38 0,Ax 39 38,AH 40 37 39,Aa 41 40,.grp none 41 false
 [Ag 42 41 0,Ag 43 41 5,Ag 44 41 7,og 45 41 false (.slS (tm 42) (some (tm 43)) (some (tm 44))),AM 46 41 86 45,AZ 47 41 46]
 48 (tm 47)]
def At:LSO:=[Ak 2,Ac 3 4]
def z8:LSO:=[Aa 49 0,Aa 50 5,Aa 51 7,Ch 52 49 50 51,o1 53 (.build [(.str []),(.str [])] [(0,(1,(tm 52)))]),Bm 8,Ap 2 8 53]
def z7:LSO:=[Aa 54 6,Ad 55 0 8,Ab 56 1 55,Ar 57 87 54 56]
def z6:LSO:=[Ak 2,Ac 3 21]
def zZ:LSO:=[Aa 59 0,Aa 60 7,Ai 61 60 1,Ar 62 219 59 61,Aa 58 62,Ao 63 58,Aq 64 58,Be 65 58,Aa 9 63,Aa 10 64,Aa 11 65]
def zY:LSO:=[Aa 66 11,A3 67 66]
def zX:LSO:=[Ak 2,Ac 3 4]
def zW:LSO:=[Aa 68 9,Ad 69 1 8,Ap 1 69 68]
def zV:LSO:=[Aa 70 6,As 71 2 8,B9 72 71,BA 73 70 72,Aa 6 73]
def zU:LSO:=[Aa 74 10,Aa 5 74]
def zT:LSO:=[Aa 75 5,Aa 76 0,Ax 77 76,AH 78 75 77,Aa 79 78,.grp none 79 false
 [Ag 80 79 0,Ag 81 79 5,B1 82 79 80 81,og 83 79 false (.bin .eql (tm 82) (.av (.int .u8 44)))]
 84 (tm 83)]
def zS:LSO:=[Aa 85 5,Ai 86 85 1,Aa 5 86]
def zR:LSO:=[Aa 87 4,Aa 88 6,Bl 89 88,Bh 90 87 89,Aa 4 90]
def zQ:LSO:=[Aa 91 5,Aa 92 0,Ax 93 92,AH 94 91 93]
def zP:LSO:=[Aa 95 4,Aa 2 95,Ac 3 0]
def zO:LSO:=[Aa 96 5,Ai 97 96 1,Aa 5 97]
def zN:LSO:=[Ak 2,Ac 3 0]
def wH:aK:=⟨98,(ash H7 [] (.seq (ash H6 C6 (asj 14 (.sreg H5 []))) (ash H4 [] (ash H3 [] (.seq (ask 0 (.seq (ash H2 C6 (asl 17 0)) (.block 1 (ash H1 [] (.seq (ash H0 C6 (asj 20 (.sreg HZ []))) (.seq (ask 2 (.block 3 (.seq (ash HY C6 (asj 23 (.sreg Dv []))) (ash Du C4 (.seq (ask 4 (.seq (ash Dt CB (asl 34 4)) (.block 5 (.sreg Ds C6)))) (.seq (ash Do CB (asj 48 (.sreg At []))) (ash z8 CB (.seq (ash z7 C7 (asj 57 (.sreg z6 []))) (ash zZ [true,true,true,false,false,false,false,false,false,false,false] (.seq (ash zY C4 (asj 67 (.sreg zX []))) (ash zW CZ (ash zV CA (ash zU C4 (.seq (ash zT CB (asi 84 (.exit 2) .skip)) (.sreg zS C6))))))))))))))) (ash zR CA (.seq (ash zQ C7 (asj 94 (.sreg zP CD))) (.sreg zO C6))))))))) (ash zN [] .ret)))))),[(.tmp 2),(.tmp 3)]⟩
attribute [push_cast] H7 H6 H5 H4 H3 H2 H1 H0 HZ HY Dv Du Dt Ds Do At z8 z7 z6 zZ zY zX zW zV zU zT zS zR zQ zP zO zN
theorem Wz:asm 188=asn wH:=asq
def Hl:LSO:=[Aw 4,Ac 5 0,Af 6]
def Hk:LSO:=[Ak 7]
def Hj:LSO:=[A5 8]
def Hi:LSO:=[Aa 13 1,Aa 14 0,Ax 15 14,Al 16 13 15,Aa 17 16,.grp none 17 true
 [Ae 18 17 0,Ae 19 17 1,Bk 20 17 18 19,og 21 17 true (.bin .neq (tm 20) (.av (.int .u8 44)))]
 22 (tm 21),Aa 23 22,.grp none 23 true
 [Ae 24 23 0,Ae 25 23 1,Bk 26 23 24 25,og 27 23 true (.bin .neq (tm 26) (.av (.int .u8 43)))]
 28 (tm 27)]
def Hh:LSO:=[Aa 29 0,Aa 30 1,AK 31 29 30,Aa 9 31]
def Hg:LSO:=[Aa 32 1,Ai 33 32 1,Aa 1 33]
def Hf:LSO:=[Aa 34 1,Aa 35 0,Ax 36 35,AH 37 34 36,Aa 38 37,.grp none 38 false
 [Ag 39 38 0,Ag 40 38 1,B1 41 38 39 40,og 42 38 false (.bin .eql (tm 41) (.av (.int .u8 44)))]
 43 (tm 42),Aa 44 43,.grp none 44 false
 [Ag 45 44 0,Ag 46 44 1,B1 47 44 45 46,og 48 44 false (.bin .eql (tm 47) (.av (.int .u8 43)))]
 49 (tm 48),Aa 10 49]
def He:LSO:=[Aa 50 9,o1 51 (.bin .eql (tm 50) (.av (.int .u8 92)))]
def Hd:LSO:=[Aa 52 1,Aa 53 0,Ax 54 53,Al 55 52 54,Aa 56 55,.grp none 56 true
 [Ae 57 56 0,Ae 58 56 1,Bk 59 56 57 58,og 60 56 true (.call 133 [(tm 59),(.av (.str [34,43,44,59,60,62,92,32,35,61]))])]
 61 (tm 60)]
def Hc:LSO:=[Aa 62 7,Aa 63 0,Aa 64 1,AK 65 63 64,Bc 66 65,AX 67 62 66,Aa 7 67]
def zi:LSO:=[Aa 68 1,Ai 69 68 1,Aa 1 69]
def zh:LSO:=[Aa 70 1,Ai 71 70 2,Aa 72 0,Ax 73 72,o1 74 (.bin .gtr (tm 71) (tm 73))]
def zg:LSO:=[Aw 4,Ac 5 0,Af 6]
def zf:LSO:=[Aa 76 0,Aa 77 1,Aa 78 1,Ai 79 78 2,Ch 80 76 77 79,Aj 81 237 80,Aa 75 81,Ao 82 75,Aq 83 75,Aa 11 82,Aa 12 83]
def zd:LSO:=[Aa 84 12,A3 85 84]
def zc:LSO:=[Aw 4,Ac 5 0,Af 6]
def zb:LSO:=[Aa 86 7,Aa 87 11,BO 88 87 0,Bc 89 88,AX 90 86 89,Aa 7 90]
def za:LSO:=[Aa 91 1,Ai 92 91 2,Aa 1 92]
def y9:LSO:=[Aa 93 9,BS 94 93,Aa 95 94,.grp none 95 false
 [Ag 96 95 9,og 97 95 false (.call 133 [(tm 96),(.av (.str [34,59,60,62]))])]
 98 (tm 97),Aa 99 98,.grp none 99 false
 [Ag 100 99 8,Ag 101 99 100,.grp (some (99,false)) 101 true
 [Ae 102 101 9,og 103 101 true (.call 133 [(tm 102),(.av (.str [32,35]))])]
 104 (tm 103)]
 105 (tm 104),Aa 106 105,.grp none 106 false
 [Ag 107 106 10,Ag 108 106 107,.grp (some (106,false)) 108 true
 [Ae 109 108 9,B3 110 108 109]
 111 (tm 110)]
 112 (tm 111)]
def y8:LSO:=[Aw 4,Ac 5 0,Af 6]
def yZ:LSO:=[Aa 113 7,Aa 114 9,Bc 115 114,AX 116 113 115,Aa 7 116]
def yY:LSO:=[Af 8]
def yX:LSO:=[Aa 117 7,Bg 118 117,Aa 119 1,Aa 4 118,Aa 5 119,A5 6]
def wD:aK:=⟨120,(ash Hl [] (ash Hk [] (ash Hj [] (.seq (ask 0 (.seq (ash Hi CE (asl 28 0)) (.block 1 (ash Hh C7 (ash Hg C6 (ash Hf CL (.seq (ash He C4 (asi 51 (ash Hd CB (asi 61 (ash Hc CC (.sreg zi C6)) (.seq (ash zh CA (asj 74 (.sreg zg []))) (ash zf Dn (.seq (ash zd C4 (asj 85 (.sreg zc []))) (ash zb CB (.sreg za C6))))))) (.seq (ash y9 CE (asj 112 (.sreg y8 []))) (.sreg yZ CA)))) (.sreg yY [])))))))) (ash yX CU .ret))))),[(.tmp 4),(.tmp 5),(.tmp 6)]⟩
attribute [push_cast] Hl Hk Hj Hi Hh Hg Hf He Hd Hc zi zh zg zf zd zc zb za y9 y8 yZ yY yX
theorem Ww:asm 219=asn wD:=asq
def vO:LSO:=[Aw 2]
def vN:LSO:=[Ak 3]
def vM:LSO:=[Ac 4 0]
def vL:LSO:=[Aa 6 4,Aa 7 0,Ax 8 7,Al 9 6 8]
def vK:LSO:=[Aa 12 0,Aa 13 4,AK 14 12 13,Aa 5 14]
def vJ:LSO:=[Aa 15 5,BS 16 15]
def vI:LSO:=[Aa 17 3,o1 18 (.app 1 1 1 [(.int .u8 0)] (tm 17) (.av (.str [92,48,48]))),Aa 3 18]
def vH:LSO:=[Aa 19 5,o1 20 (.call 133 [(tm 19),(.av (.str [34,43,44,59,60,62,92]))]),Aa 21 20,.grp none 21 false
 [Ag 22 21 4,AI 23 21 22 0,Ag 24 21 23,.grp (some (21,false)) 24 true
 [Ae 25 24 5,og 26 24 true (.call 133 [(tm 25),(.av (.str [32,35]))])]
 27 (tm 26)]
 28 (tm 27),Aa 29 28,.grp none 29 false
 [Ag 30 29 4,og 31 29 false (.bin .add (tm 30) (iv 1)),Ag 32 29 0,Br 33 29 32,BB 34 29 31 33,Ag 35 29 34,.grp (some (29,false)) 35 true
 [Ae 36 35 5,B3 37 35 36]
 38 (tm 37)]
 39 (tm 38)]
def vG:LSO:=[Aa 40 3,o1 41 (.bslice false 1 1 [(.int .u8 0)] [(0,(1,(.av (.int .u8 92))))]),AX 42 40 41,Aa 3 42]
def vF:LSO:=[Aa 43 3,Aa 44 5,Bc 45 44,AX 46 43 45,Aa 3 46]
def ti:LSO:=[Aa 10 4,Ai 11 10 1,Aa 4 11]
def th:LSO:=[Aa 47 3,Bg 48 47,Aa 2 48]
def pn:aK:=⟨49,(ash vO [] (ash vN [] (.seq (ash vM [] (ask 0 (.seq (ash vL C7 (asl 9 0)) (.seq (.block 1 (ash vK C7 (.seq (ash vJ C4 (asi 16 (ash vI C6 (.exit 1)) .skip)) (.seq (ash vH CB (asi 39 (.sreg vG C7) .skip)) (.sreg vF CA))))) (.sreg ti C6))))) (ash th C6 .ret)))),[(.tmp 2)]⟩
attribute [push_cast] vO vN vM vL vK vJ vI vH vG vF ti th
theorem Sw:asm 134=asn pn:=asq
def LJ:LSO:=[Aw 2]
def LI:LSO:=[Aw 3]
def LH:LSO:=[Aa 8 0,Ah 9 8,Ac 10 0]
def LG:LSO:=[Al 11 10 9]
def LF:LSO:=[Aa 12 10,Am 13 1 8 10,Ab 14 1 13,Aa 4 12,Aa 5 14]
def LE:LSO:=[Aa 15 4,A7 16 15 0]
def LD:LSO:=[Aa 17 3,o1 18 (.bin .add (tm 17) (.av (.str [44]))),Aa 3 18]
def LC:LSO:=[Aa 19 5,Ah 20 19,Ac 21 0]
def LB:LSO:=[Al 22 21 20]
def LA:LSO:=[Aa 23 21,Am 24 2 19 21,As 25 2 24,Bm 7,Aa 6 23,Ap 2 7 25]
def Hr:LSO:=[Aa 26 6,A7 27 26 0]
def Hq:LSO:=[Aa 28 3,o1 29 (.bin .add (tm 28) (.av (.str [43]))),Aa 3 29]
def Hp:LSO:=[Aa 30 3,Ad 31 0 7,Ab 32 1 31,AU 33 30 32,o1 34 (.bin .add (tm 33) (.av (.str [61]))),Ad 35 1 7,Ab 36 1 35,Aj 37 134 36,AU 38 34 37,Aa 3 38]
def Ho:LSO:=[Ai 39 21 1,Aa 21 39]
def Hn:LSO:=[Ai 40 10 1,Aa 10 40]
def Hm:LSO:=[Aa 41 3,Aa 2 41]
def Fa:aK:=⟨42,(ash LJ [] (ash LI [] (.seq (ash LH [] (ask 0 (ash LG [] (.seq (asl 11 0) (.seq (.block 1 (ash LF CF (.seq (ash LE C4 (asi 16 (.sreg LD C6) .skip)) (ash LC [] (ask 2 (ash LB [] (.seq (asl 22 2) (.seq (.block 3 (ash LA CF (.seq (ash Hr C4 (asi 27 (.sreg Hq C6) .skip)) (.sdreg Hp [.pure,.pure,(.read 0 0),.pure,.pure,.pure,(.read 0 0),(.read 0 0)] CG)))) (.sreg Ho C4))))))))) (.sreg Hn C4)))))) (ash Hm C4 .ret)))),[(.tmp 2)]⟩
attribute [push_cast] LJ LI LH LG LF LE LD LC LB LA Hr Hq Hp Ho Hn Hm
theorem X8:asm 88=asn Fa:=asq
def HX:LSO:=[Aw 2,Ac 3 0]
def HW:LSO:=[Ac 4 0]
def HV:LSO:=[Aa 9 0,Ah 10 9,Ac 11 0]
def HU:LSO:=[Al 12 11 10]
def HT:LSO:=[Aa 13 11,Am 14 1 9 11,Ab 15 1 14,Aa 5 13,Aa 6 15]
def HS:LSO:=[Aa 16 5,An 17 16 32]
def HR:LSO:=[Aw 2,Ac 3 9]
def HQ:LSO:=[Aa 18 6,Ah 19 18,An 20 19 0]
def HP:LSO:=[Aw 2,Ac 3 2]
def HO:LSO:=[Aa 21 6,Ah 22 21,Ac 23 0]
def zM:LSO:=[Al 24 23 22]
def zL:LSO:=[Aa 25 23,Am 26 2 21 23,As 27 2 26,Bm 8,Aa 7 25,Ap 2 8 27]
def zK:LSO:=[Aa 28 7,An 29 28 8]
def zJ:LSO:=[Aw 2,Ac 3 9]
def zI:LSO:=[Ad 30 0 8,Ab 31 1 30,Aj 32 86 31,A3 33 32]
def zH:LSO:=[Aw 2,Ac 3 20]
def zG:LSO:=[Aa 34 6,Aa 35 7,Cj 36 34 35,Ad 37 0 8,Ab 38 1 37,Ar 39 87 36 38]
def zF:LSO:=[Aw 2,Ac 3 21]
def zE:LSO:=[Aa 40 4,Ad 41 1 8,Ab 42 1 41,Ax 43 42,o1 44 (.minmax false [(tm 43),(iv 5000)]),AU 45 40 44,Aa 4 45]
def zD:LSO:=[Ai 46 23 1,Aa 23 46]
def zC:LSO:=[Ai 47 11 1,Aa 11 47]
def zB:LSO:=[Aa 48 4,A7 49 48 4096,Aa 50 49,.grp none 50 false
 [Ag 51 50 0,AM 52 50 88 51,Br 53 50 52,AC 54 50 53 4096]
 55 (tm 54)]
def zA:LSO:=[Aw 2,Ac 3 5]
def zy:LSO:=[Aa 56 0,Aj 57 88 56,Aa 2 57,Ac 3 0]
def wG:aK:=⟨58,(ash HX [] (ash HW [] (.seq (ash HV [] (ask 0 (ash HU [] (.seq (asl 12 0) (.seq (.block 1 (ash HT CF (.seq (ash HS C4 (asj 17 (.sreg HR []))) (.seq (ash HQ C6 (asj 20 (.sreg HP []))) (ash HO [] (ask 2 (ash zM [] (.seq (asl 24 2) (.seq (.block 3 (ash zL CF (.seq (ash zK C4 (asj 29 (.sreg zJ []))) (.seq (ash zI C7 (asj 33 (.sreg zH []))) (.seq (.seq (.sdreg zG [.pure,.pure,(.read 0 0),.pure,(.read 0 0)] CB) (asj 39 (.sreg zF []))) (.sreg zE CC)))))) (.sreg zD C4)))))))))) (.sreg zC C4)))))) (.seq (ash zB C7 (asj 55 (.sreg zA []))) (ash zy CM .ret))))),[(.tmp 2),(.tmp 3)]⟩
attribute [push_cast] HX HW HV HU HT HS HR HQ HP HO zM zL zK zJ zI zH zG zF zE zD zC zB zA zy
theorem Wy:asm 37=asn wG:=asq
def HB:LSO:=[Ak 2]
def HA:LSO:=[Ak 3]
def Hz:LSO:=[Aa 12 0,Ah 13 12,Ac 14 0]
def Hy:LSO:=[Al 15 14 13]
def Hx:LSO:=[Am 16 1 12 14,Ab 17 1 16,Aa 5 17]
def Hw:LSO:=[Ak 6]
def Hv:LSO:=[Aa 18 5,Ah 19 18,Ac 20 0]
def Hu:LSO:=[Al 21 20 19]
def Ht:LSO:=[Am 22 2 18 20,As 23 2 22,Bm 8,Ap 2 8 23]
def Hs:List (aw×Kd):=
 [A9 24 0 8,AA 25 1 24 0 1,Bd 26 49 25 0 1,A9 27 1 8,AA 28 1 27 0 1,Bd 29 135 28 0 1,od 30 (.build [(.str []),(.str [])] [(0,(1,(tm 26))),(1,(1,(tm 29)))]) .pure,
 od 9 (.alloc [(.str []),(.str [])]) .eff]
def zj:List aw :=
 [⟨none,(.store 2 (tm 9) (tm 30)),none⟩]
def zx:LSO:=[Aa 31 6,Ah 32 31,Aa 10 32]
def zw:LSO:=[Aa 33 10,A7 34 33 0,Aa 35 34,.grp none 35 true
 [Ae 36 35 6,Ae 37 35 10,BT 38 35 37 1,Bf 39 35 2 36 38,Az 40 35 0 39,A0 41 35 1 40,og 42 35 true (.bin .add (tm 41) (.av (.str [61]))),Ae 43 35 6,Ae 44 35 10,BT 45 35 44 1,
 Bf 46 35 2 43 45,Az 47 35 1 46,A0 48 35 1 47,Bb 49 35 134 48,og 50 35 true (.bin .add (tm 42) (tm 49)),Az 51 35 0 9,A0 52 35 1 51,
 og 53 35 true (.bin .add (tm 52) (.av (.str [61]))),Az 54 35 1 9,A0 55 35 1 54,Bb 56 35 134 55,og 57 35 true (.bin .add (tm 53) (tm 56)),
 og 58 35 true (.bin .gtr (tm 50) (tm 57))]
 59 (tm 58)]
def zu:LSO:=[Aa 60 10,Ba 61 60 1,Aa 10 61]
def zt:LSO:=[Ak 11]
def zr:LSO:=[Aa 62 11,Aa 63 6,Aa 64 10,Cj 65 63 64,BA 66 62 65,Aa 11 66]
def zq:LSO:=[Aa 67 11,As 68 2 9,B9 69 68,BA 70 67 69,Aa 11 70]
def zp:LSO:=[Aa 71 11,Aa 72 6,Aa 73 10,o1 74 (.slV 2 (tm 72) (some (tm 73)) none none),BA 75 71 74,Aa 11 75]
def zo:LSO:=[Aa 76 11,Aa 6 76]
def zn:LSO:=[Ai 77 20 1,Aa 20 77]
def zm:LSO:=[Aa 78 3,Aa 79 6,Bl 80 79,Bh 81 78 80,Aa 3 81]
def zl:LSO:=[Ai 82 14 1,Aa 14 82]
def zk:LSO:=[Aa 83 3,Aa 2 83]
def wF:aK:=⟨84,(ash HB [] (ash HA [] (.seq (ash Hz [] (ask 0 (ash Hy [] (.seq (asl 15 0) (.seq (.block 1 (ash Hx C6 (ash Hw [] (.seq (ash Hv [] (ask 2 (ash Hu [] (.seq (asl 21 2) (.seq (.block 3 (ash Ht C6 (.seq (.dregM Hs zj CE) (ash zx C6 (.seq (ask 4 (.seq (.seq (.sdreg zw [.pure,.pure,.pure,.pure,.pure,.pure,(.read 0 0),.pure,(.read 0 0),.pure,.pure,.pure,.pure,(.read 0 0),.pure,(.read 0 0),(.read 0 0),.pure,.pure,(.read 0 0),.pure,.pure,(.read 0 0),(.read 0 0),.pure] C7) (asl 59 4)) (.block 5 (.sreg zu C6)))) (ash zt [] (ash zr CB (ash zq CA (ash zp CB (.sreg zo C4)))))))))) (.sreg zn C4)))))) (.sreg zm CA))))) (.sreg zl C4)))))) (ash zk C4 .ret)))),[(.tmp 2)]⟩
attribute [push_cast] HB HA Hz Hy Hx Hw Hv Hu Ht Hs zj zx zw zu zt zr zq zp zo zn zm zl zk
theorem Wx:asm 90=asn wF:=asq
def Mk:LSO:=[Aw 2,Ac 3 0]
def Mj:LSO:=[Aa 7 0,Aj 8 37 7,Aa 6 8,Ao 9 6,Aq 10 6,Aa 4 9,Aa 5 10]
def Mi:LSO:=[Aa 11 5,AB 12 11 0]
def Mh:LSO:=[Aa 13 5,Aw 2,Aa 3 13]
def Mg:LSO:=[Aa 14 0,Aj 15 90 14,Aj 16 88 15,Aa 2 16,Ac 3 0]
def Fe:aK:=⟨17,(ash Mk [] (ash Mj CC (.seq (ash Mi C4 (asj 12 (.sreg Mh CD))) (ash Mg CF .ret)))),[(.tmp 2),(.tmp 3)]⟩
attribute [push_cast] Mk Mj Mi Mh Mg
theorem Yc:asm 89=asn Fe:=asq
def QK:LSO:=[Aw 2,Ac 3 0]
def QJ:LSO:=[Aa 7 0,Aj 8 188 7,Aa 6 8,Ao 9 6,Aq 10 6,Aa 4 9,Aa 5 10]
def QI:LSO:=[Aa 11 5,AB 12 11 0]
def QH:LSO:=[Aa 13 5,Aw 2,Aa 3 13]
def QG:LSO:=[Aa 14 4,Aj 15 89 14,Ao 16 15,Aq 17 15,Aa 2 16,Aa 3 17]
def NV:aK:=⟨18,(ash QK [] (ash QJ CH (.seq (ash QI C4 (asj 12 (.sreg QH CD))) (ash QG CP .ret)))),[(.tmp 2),(.tmp 3)]⟩
attribute [push_cast] QK QJ QI QH QG
theorem Z4:asm 140=asn NV:=asq
attribute [push_cast] Fb Sx NU wD pn Fa wG wF Fe NV
variable {L:List Blk}{K:aoY}
set_option maxHeartbeats 8000000
set_option maxRecDepth 100000
theorem nG{l:List UInt8}{x:UInt8}(u:l.length<=1100000)(h:K (.bool (l.contains x)) L):
  aoX 133 [.int .u8 x.toNat,.str l] L K:=by
 replace h:=hid h;refine aoW aaE ?_;refine ak (λn T' L'=>∃(i:Nat),n=l.length-i/\i<=l.length/\Hid (∀j,j<i->l.getD j 0≠x)/\T'=[(5,.int .i64 (i:Int)),(0,.int .u8 x.toNat),(1,.str l)]/\L=L') (CutS (b:=ao0 _)) ⟨0,rfl,ao2 _,hid asp,rfl,rfl⟩ ?_;rintro _ _ _ ⟨i,rfl,v,g,rfl,rfl⟩;by_cases f:i<l.length;have t:(i:Int)<(l.length:Int):=aso;have w:=aoV i aso;obtain⟨p,m⟩:=aoT (l.getD i 0);by_cases c:p=x;have d:l.contains x=true:=by rw[aqw,<- c,<- m,apo,ao8 f];exact apZ _
 have a:=h.o;rw[d]at a;replace a:=hid a;clear d;subst c;refine wk ?_;exact aa a.o;have y:¬(p.toNat:Int)=(x.toNat:Int):=λe=>c ((bQ p x).1 e)
 have s:=hid m;refine wk ?_;refine ast aso (CutS (b:=ao0 _)) ⟨i+1,rfl,f,hid λj k=>?_,rfl,rfl⟩;rcases apt j i with e|e;exact g.o j e;have:j=i:=aso;subst this;rw[m];exact c;have q:i=l.length:=aso;subst q;have t:¬(l.length:Int)<(l.length:Int):=aso;have d:l.contains x=false:=by rw[<- aqF,aqw];intro r;obtain⟨j,k,e⟩:=apV.1 r;exact g.o j k (by simp[k,e])
 have a:=h.o;rw[d]at a;replace a:=hid a;clear d;refine wk ?_;exact aa a.o
abbrev oX:List UInt8:=[97,98,99,100,101,102,103,104,105,106,107,108,109,110,111,112,113,114,115,116,117,118,119,120,121,122]
abbrev abq:List UInt8:=[48,49,50,51,52,53,54,55,56,57,45]
theorem alu:∀n:_root_.Fin 256,oX.contains (ga (UInt8.ofNat n.val))=o3 (n.val:Int)/\(oX.contains (ga (UInt8.ofNat n.val)) ||abq.contains (ga (UInt8.ofNat n.val)))=SY (n.val:Int):=by decide +kernel
theorem ab7(c:UInt8):oX.contains (ga c)=o3 (c.toNat:Int)/\(oX.contains (ga c) ||abq.contains (ga c))=SY (c.toNat:Int):=by have:=alu ⟨c.toNat,c.toNat_lt⟩;simpa using this
def okC(j:Nat)(c:UInt8):Bool:=oX.contains (ga c) ||(decide (0<j)&&abq.contains (ga c))
theorem aih(s:List UInt8):jE s=true↔(1<=s.length/\s.length<=32)/\∀j,j<s.length->okC j (s.getD j 0)=true:=by
 simp only[jE,ao3,decide_eq_true_eq,apa];constructor;rintro⟨⟨⟨f,d⟩,b⟩,h4⟩;refine⟨⟨f,d⟩,λj a=>?_⟩;obtain⟨g,l⟩:=ab7 (s.getD j 0);by_cases i:j=0;subst i;rw[okC,g,b];rfl;have k:s.getD j 0∈s:=by simp[a]
 have:=h4 _ k;rw[<- l]at this;rw[okC,show decide (0<j)=true by simp;omega,apy];exact this;rintro⟨⟨f,d⟩,b⟩;refine⟨⟨⟨f,d⟩,?_⟩,λc h=>?_⟩;have:=b 0 aso;rw[okC]at this;simp only[Nat.lt_irrefl,decide_false,apO,aq3]at this;rw[<- (ab7 _).1];exact this;obtain⟨j,a,rfl⟩:=apV.1 h;have:=b j a;have e:s.getD j 0=s[j]:=by simp[a]
 rw[e,okC]at this;rw[<- (ab7 _).2];cases hl:oX.contains (ga s[j])with
 |true=>rfl
 | false =>
   rw[hl,aqg,ao3]at this;rw[this.2];rfl
theorem acY(F:(s.length:Int)<=140737488351232)(h:K (.bool (jE s)) L):aoX 86 [.str s] L K:=by
 replace h:=hid h;obtain⟨t,z⟩:=aoT (aj s);have g:t.length=s.length:=by rw[<- z];simp[aj]
 have B:∀j,j<s.length->t.getD j 0=ga (s.getD j 0):=λj x=>by rw[<- z];simp[aj,x]
 replace g:=hid g;replace B:=hid B;have r:=hid (aih s);refine aoW X9 ?_;refine cX F ?_;rw[z];refine asw ?_;refine ak (λn T' L'=>∃(i:Nat) (b:Bool),n=s.length+1-i/\i<=s.length/\Hid (b=true↔(1<=s.length/\s.length<=32)/\∀j,j<i->okC j (s.getD j 0)=true)/\T'=[(5,.int .i64 (i:Int)),(4,.bool b),(3,.str t)]/\L=L') (CutS (b:=ao0 _)) ⟨0,_,rfl,ao2 _,hid (by have:=g.o;simp;omega),rfl,rfl⟩ ?_;rintro _ _ _ ⟨i,b,rfl,H,w,rfl,rfl⟩;have m:=g.o;by_cases f:i<s.length
 .have g1:(i:Int)<(t.length:Int):=aso;have I:=aoV i aso;have g3:=B.o i f;obtain⟨c,u⟩:=aoT (s.getD i 0);rw[u]at g3;replace u:=hid u;clear m;cases b with
  | false =>
    have C:jE s=false:=by rw[<- aqF,r.o];intro⟨G,D⟩;have:=w.o.2 ⟨G,λj x=>D j aso⟩;cases this
    have k:=h.o;rw[C]at k;replace k:=hid k;clear C;refine wk ?_;exact aa k.o
  | true =>
    have a:okC i c=true↔((1<=s.length/\s.length<=32)/\∀j,j<i+1->okC j (s.getD j 0)=true):=by
     have v:=w.o.1 rfl;constructor
     .intro e;refine⟨v.1,λj x=>?_⟩;rcases apt j i with q|q
      .exact v.2 j q
      .have:j=i:=aso;subst this;rw[u.o];exact e
     .rintro⟨_,e⟩;have:=e i aso;rwa[u.o]at this
    replace a:=hid a;have d:okC i c=(oX.contains (ga c) ||(decide (0<i)&&abq.contains (ga c))):=rfl;replace d:=hid d;refine wk ?_;refine nG asp ?_;cases hl:oX.contains (ga c)with
    | true =>
      have p:=hid (show okC i c=true by rw[d.o,hl];rfl);refine asw ?_;exact ast aso (CutL (b:=ao0 _)) ⟨i+1,true,rfl,f,hid (by rw[<- a.o,p.o]),rfl,rfl⟩
    | false =>
      by_cases A:i=0
      .have p:=hid (show okC i c=false by rw[d.o,hl,A];rfl);have E:¬(0:Int)<(i:Int):=aso;clear A;refine asw ?_;exact ast aso (CutL (b:=ao0 _)) ⟨i+1,false,rfl,f,hid (by rw[<- a.o,p.o]),rfl,rfl⟩
      .have p:=hid (show okC i c=abq.contains (ga c)by rw[d.o,hl,show decide (0<i)=true by simp;omega];simp);have E:(0:Int)<(i:Int):=aso;clear A;refine sk ?_
       repeat' first
        |refine bH ?_
        | (first|refine bv asq ?_|refine aP asq ?_|refine aS ?_|refine cT ?_|refine bJ (fun _=>?_)|refine aH ?_|refine bz ?_)
          refine sm ?_
        | (first|refine bp asq ?_|refine bm ?_|refine aR ?_|refine bw ?_|refine bP (aG ?_))
          refine sl ?_
        |exact bL
        |first|apply bM|apply bq|apply bN|apply br|apply bO|apply bu
        |refine aV ?_
        |refine aQ ?_
        |first|refine aT rfl ?_|refine aU rfl ?_|refine aB rfl ?_ ?_|refine aX rfl (λ_=>?_) (λ_=>?_)|refine aW rfl (λ_=>?_) (λ_=>?_)
        |((first|refine aA (λ_=>?_) (λ_=>?_)|refine aE (λ_=>?_) (λ_=>?_))<;>try refine sm ?_)
        |refine And.intro trivial ?_
        |refine And.intro aso ?_
        |refine be rfl (λ_=>?_) (λ_=>?_)
        |refine And.intro ?_ ?_
       refine aM (nG asp ⟨rfl,rfl⟩) ?_;refine sk ?_
       repeat' first
        |refine bH ?_
        | (first|refine bv asq ?_|refine aP asq ?_|refine aS ?_|refine cT ?_|refine bJ (fun _=>?_)|refine aH ?_|refine bz ?_)
          refine sm ?_
        | (first|refine bp asq ?_|refine bm ?_|refine aR ?_|refine bw ?_|refine bP (aG ?_))
          refine sl ?_
        |exact bL
        |first|apply bM|apply bq|apply bN|apply br|apply bO|apply bu
        |refine aV ?_
        |refine aQ ?_
        |first|refine aT rfl ?_|refine aU rfl ?_|refine aB rfl ?_ ?_|refine aX rfl (λ_=>?_) (λ_=>?_)|refine aW rfl (λ_=>?_) (λ_=>?_)
        |((first|refine aA (λ_=>?_) (λ_=>?_)|refine aE (λ_=>?_) (λ_=>?_))<;>try refine sm ?_)
        |refine And.intro trivial ?_
        |refine And.intro aso ?_
        |refine be rfl (λ_=>?_) (λ_=>?_)
        |refine And.intro ?_ ?_
       exact ast aso (CutL (b:=ao0 _)) ⟨i+1,abq.contains (ga c),rfl,f,hid (by rw[<- a.o,p.o]),rfl,rfl⟩
 have y:i=s.length:=aso;subst y;have g1:¬(s.length:Int)<(t.length:Int):=aso;have l:b=jE s:=by have e:=w.o.trans r.o.symm;cases b<;>cases hs':jE s<;>simp_all
 have k:=h.o;rw[<- l]at k;replace k:=hid k;clear l;clear m;refine wk ?_;exact aa k.o
theorem afY(a:(s.length:Int)<=100000)(h:K (.bool (jE s)) L):aoX 86 [.str s] L K:=acY aso h
theorem aiJ{r:List Ava}(y:r.length<=100000)(q:∀a∈r,(a.1.length:Int)<=100000)(v:(typ.length:Int)<=100000)(h:K (.bool (lX r typ)) L):
  aoX 87 [aeH r cap,.str typ] L K:=by
 replace h:=hid h;replace q:=hid q;refine aoW Z3 ?_;refine ak (λn T' L'=>∃(k:Nat) (Z:List Blk),n=r.length-k/\k<=r.length/\Hid (lX (r.take k) typ=false)/\T'=[(9,.int .i64 (k:Int)),(8,.int .i64 r.length),(7,aeH r cap),(1,.str typ)]/\L'=L++Z) ass ⟨0,[],rfl,ao2 _,hid rfl,rfl,asp⟩ ?_;rintro _ _ _ ⟨k,Z,rfl,x,w,rfl,rfl⟩;by_cases c:k<r.length;have g1:(k:Int)<(r.length:Int):=aso;have z:=aoV k aso;have t:=gS c;have A:k*2+2<=(bd r).length:=by rw[dm];omega
 obtain⟨⟨ty,s⟩,l⟩:∃a,r.getD k ([],[])=a:=⟨_,rfl⟩;have f:(ty,s)∈r:=by rw[<- l];simp[c]
 have j:r.take (k+1)=r.take k++[(ty,s)]:=by rw[aph c,<- l];simp[c]
 rw[l]at t;simp only[pu]at t;have m:lX (r.take (k+1)) typ=decide (aj ty=aj typ):=by have:=w.o;simp only[lX]at this⊢;rw[j,arB,this];simp
 have i:=q.o _ f;simp only at i;have b:aj ty=aj typ->lX r typ=true:=λe=>aqz.2 ⟨_,f,by simpa using e⟩
 replace b:=hid b;replace m:=hid m;clear l f j;by_cases u:aj ty=aj typ;have d:=h.o;rw[b.o u]at d;replace d:=hid d;have kk1:=@asv _ _ _ _ (nq i);have kk2:=@asv _ _ _ _ (nq v);refine wk ?_;exact ac rfl d.o;have kk1:=@asv _ _ _ _ (nq i);have kk2:=@asv _ _ _ _ (nq v);refine wk ?_;exact ast aso asr ⟨k+1,_,rfl,c,hid (by rw[m.o];simpa using u),rfl,rfl⟩;have p:k=r.length:=aso;subst p;have g1:¬(r.length:Int)<(r.length:Int):=aso;have g:=w.o;rw[apg]at g;have d:=h.o;rw[g]at d;replace d:=hid d;clear g;refine wk ?_;exact ac rfl d.o
theorem mW(F:s.length<=100000)(h:K (.str (gU s)) L):aoX 134 [.str s] L K:=by
 replace h:=hid h;refine aoW Sw ?_;refine bR (l:=[]) (n:=0) 3 1 rfl (aps 1).symm ?_;refine ak (λn T' L'=>∃(i m:Nat) (b:List UInt8),n=s.length-i/\i<=s.length/\m<=3*i/\Hid (m=b.length/\b++wrL s.length i (s.drop i)=gU s)/\T'=[(4,.int .i64 (i:Int)),(3,.gsl (u8s b) m L.length 1),(0,.str s)]/\L'=L++[.spare m 1]) ass ⟨0,0,[],rfl,ao2 _,aso,hid ⟨rfl,rfl⟩,rfl,rfl⟩ ?_;rintro _ _ _ ⟨i,m,b,rfl,E,D,t,rfl,rfl⟩;by_cases g:i<s.length
 .have g1:(i:Int)<(s.length:Int):=aso;have G:=aoV i aso;obtain⟨c,A⟩:=aoT (s.getD i 0);have p:=mQ g;rw[A]at p;have a:=t.o.2;rw[p]at a;simp only[wrL]at a;clear p;replace a:=hid a;obtain⟨B,z⟩:=aoT (([34,43,44,59,60,62,92]:List UInt8).contains c);obtain⟨C,x⟩:=aoT (([32,35]:List UInt8).contains c);have j:B=true↔c∈([34,43,44,59,60,62,92]:List UInt8):=(by rw[<- z,aqw]);have f:C=true↔(c=32\/c=35):=(by rw[<- x,aqw];simp);replace j:=hid j;replace f:=hid f
  repeat' first
   |refine bH ?_
   | (first|refine bv asq ?_|refine aP asq ?_|refine aS ?_|refine cT ?_|refine bJ (fun _=>?_)|refine aH ?_|refine bz ?_|refine nG asp ?_|refine bg (nG asp ⟨rfl,rfl⟩) (nG asp ⟨rfl,rfl⟩) ?_|refine aM (nG asp ⟨rfl,rfl⟩) ?_)
     refine sm ?_
   | (first|refine bp asq ?_|refine bm ?_|refine aR ?_|refine bw ?_|refine bP (aG ?_))
     refine sl ?_
   |exact bL
   |first|apply bM|apply bq|apply bN|apply br|apply bO|apply bu
   |refine aV ?_
   |refine aQ ?_
   |first|refine aT rfl ?_|refine aU rfl ?_|refine aB rfl ?_ ?_|refine aX rfl (λ_=>?_) (λ_=>?_)|refine aW rfl (λ_=>?_) (λ_=>?_)
   |((first|refine aA (λ_=>?_) (λ_=>?_)|refine aE (λ_=>?_) (λ_=>?_))<;>try refine sm ?_)
   |refine And.intro trivial ?_
   |refine And.intro aso ?_
   |refine be rfl (λ_=>?_) (λ_=>?_)
   |refine And.intro ?_ ?_
  rfl;omega;rename_i r;have d:=(bQ c 0).1 r;rw[show u8s b++AV.frzL (u8s [92,48,48])=u8s (b++[92,48,48])by simp[u8s,AV.frzL,AV.frz]];refine ast aso asr ⟨i+1,m+3,b++[92,48,48],rfl,g,aso,hid ⟨by simp[t.o.1],?_⟩,rfl,rfl⟩;rw[<- a.o,wrB,if_pos d,apc];rename_i r u;have d:¬c=0:=λe=>r ((bQ c 0).2 e)
  have q:(i=0/\(c=32\/c=35))\/(i+1=s.length/\c=32)\/c∈[34,43,44,59,60,62,92]:=by simp only[apN,ao3,decide_eq_true_eq]at u;rcases u with(e|⟨v,k⟩)|⟨v,k⟩;exact .inr (.inr (j.o.1 e));exact .inl ⟨aso,f.o.1 k⟩;exact .inr (.inl ⟨aso,(bQ c 32).1 k⟩)
  rw[show u8s b++[AV.int IntKind.u8 92,AV.int IntKind.u8 (c.toNat:Int)]=u8s (b++[92,c])by simp[u8s]];refine ast aso asr ⟨i+1,m+1+1,b++[92,c],rfl,g,aso,hid ⟨by simp[t.o.1],?_⟩,rfl,rfl⟩;rw[<- a.o,wrB,if_neg d,if_pos q,apc];rename_i r u;have d:¬c=0:=λe=>r ((bQ c 0).2 e)
  have q:¬((i=0/\(c=32\/c=35))\/(i+1=s.length/\c=32)\/c∈[34,43,44,59,60,62,92]):=λq=>by rw[<- aqF]at u;refine u ?_;simp only[apN,ao3,decide_eq_true_eq];rcases q with⟨v,k⟩|⟨v,k⟩|e;exact .inl (.inr ⟨aso,f.o.2 k⟩);exact .inr ⟨aso,(bQ c 32).2 k⟩;exact .inl (.inl (j.o.2 e))
  rw[show u8s b++[AV.int IntKind.u8 (c.toNat:Int)]=u8s (b++[c])by simp[u8s]];refine ast aso asr ⟨i+1,m+1,b++[c],rfl,g,aso,hid ⟨by simp[t.o.1],?_⟩,rfl,rfl⟩;rw[<- a.o,wrB,if_neg d,if_neg q,apc]
 have y:i=s.length:=aso;subst y;have g1:¬(s.length:Int)<(s.length:Int):=aso;have v:=ku b;have k:=jq b;have e:=t.o.2;rw[apM,wrL,apG]at e;have w:=h.o;rw[<- e]at w;replace w:=hid w;clear e;refine wk ?_;exact ac rfl w.o
def ahC(n:Nat):Nat:=if n<10 then 48+n else 87+n
theorem JU(e:n<16)(h:K (.int .u8 (ahC n:Nat)) L):aoX 248 [.int .u8 n] L K:=by unfold ahC at h;refine ab WA (by simp[wI]) ?_;simp only[wI,ag];by_cases a:n<10;rw[if_pos a]at h;replace h:=hid h;have c:(n:Int)<10:=aso;have b:IntKind.u8.wrap (48+(n:Int))=48+(n:Int):=dw aso aso;clear a;refine wk ?_;refine aa ?_;simpa using h.o;rw[if_neg a]at h;replace h:=hid h;have c:¬(n:Int)<10:=aso;have b:IntKind.u8.wrap (97+(n:Int))=97+(n:Int):=dw aso aso;have d:IntKind.u8.wrap (97+(n:Int)-10)=97+(n:Int)-10:=dw aso aso;clear a;refine wk ?_;refine aa ?_;have:=h.o;rwa[show((87+n:Nat):Int)=97+(n:Int)-10 by omega]at this
theorem alB:∀(a:_root_.Fin 256) (x:_root_.Fin 16),(ahC x.val=(ga (UInt8.ofNat a.val)).toNat)↔lK (UInt8.ofNat a.val)=some x.val:=by decide +kernel
theorem anX{x:Nat}(b:x<16):((ahC x:Nat):Int)=((ga a).toNat:Int)↔lK a=some x:=by have:=alB ⟨a.toNat,a.toNat_lt⟩ ⟨x,b⟩;simp only[UInt8.ofNat_toNat]at this;rw[<- this];omega
def ae3(a b:UInt8)(k:Nat):Prop:=lK a=some (k/16)/\lK b=some (k%16)
theorem ahl{b:UInt8}(h:ae3 a b k):VD a b=some (UInt8.ofNat k):=by obtain⟨d,c⟩:=h;simp only[VD,d,c];congr 2;omega
theorem ahm{b:UInt8}(h:∀j,j<256->¬ae3 a b j):VD a b=none:=by unfold VD;rcases h1:lK a with _|x;rfl;rcases h2:lK b with _|y;rfl;have:=Oh h1;have:=Oh h2;exact absurd ⟨by rw[h1];congr 1;omega,by rw[h2];congr 1;omega⟩ (h (16*x+y) aso)
theorem agT{b:UInt8}(h:K (Sh a b) L):aoX 237 [.str [a,b]] L K:=by
 obtain⟨p,H⟩:=aoT (ga a);obtain⟨q,G⟩:=aoT (ga b);have P:aj [a,b]=[p,q]:=by simp[aj,H,G]
 have U:[p,q].length=2:=rfl;have N:[a,b].length=2:=rfl;have W:[p,q].getD 0 0=p:=rfl;have R:[p,q].getD 1 0=q:=rfl;have Y:Int.tmod 2 2=0:=by decide
 replace h:=hid h;refine aoW WB ?_;refine nq asp ?_;rw[P];refine asw ?_;refine bR (l:=[]) (n:=0) 4 1 rfl (aps 1).symm ?_;refine ak (λn T' L'=>(n=1/\T'=[(6,.int .i64 0),(4,.gsl [] 0 L.length 1),(5,.str [p,q]),(0,.str [a,b])]/\L'=L++[.spare 0 1])\/(n=0/\∃(x:UInt8) (w:List AV),Hid (VD a b=some x/\w=u8s [x])/\T'=[(6,.int .i64 2),(4,.gsl w 1 L.length 1),(5,.str [p,q]),(0,.str [a,b])]/\L'=L++[.spare 1 1])) (n0:=1) (T0:=[(6,.int .i64 0),(4,.gsl [] 0 L.length 1),(5,.str [p,q]),(0,.str [a,b])]) (L0:=L++[.spare 0 1]) ass (.inl ⟨rfl,rfl,rfl⟩) ?_;rintro _ _ _ (⟨rfl,rfl,rfl⟩|⟨rfl,x,w,g,rfl,rfl⟩);refine wk ?_;refine ak (λn T' L'=>(∃k:Nat,n=257-k/\k<=256/\Hid (∀j,j<k->¬ae3 a b j)/\T'=[(8,.int .i64 (k:Int)),(7,.bool false),(6,.int .i64 0),(4,.gsl [] 0 L.length 1),(5,.str [p,q]),(0,.str [a,b])]/\L'=L++[.spare 0 1])\/(n=0/\∃(x:UInt8) (k:Nat) (w:List AV),k<=256/\Hid (VD a b=some x/\w=u8s [x])/\T'=[(8,.int .i64 (k:Int)),(7,.bool true),(6,.int .i64 0),(4,.gsl w 1 L.length 1),(5,.str [p,q]),(0,.str [a,b])]/\L'=L++[.spare 1 1])) (n0:=257) (T0:=[(8,.int .i64 0),(7,.bool false),(6,.int .i64 0),(4,.gsl [] 0 L.length 1),(5,.str [p,q]),(0,.str [a,b])]) (L0:=L++[.spare 0 1]) ass (.inl ⟨0,rfl,aso,hid asp,rfl,rfl⟩) ?_;rintro _ _ _ (⟨k,rfl,J,y,rfl,rfl⟩|⟨rfl,x,k,w,J,g,rfl,rfl⟩);by_cases C:k<256;have g1:(k:Int)<256:=aso;have X:=aoV k aso;have g3:IntKind.u8.wrap (k:Int)=(k:Int):=dw aso aso;obtain⟨u,F⟩:=aoT (k/16);obtain⟨v,D⟩:=aoT (k%16);have c:u<16:=aso;have d:v<16:=aso;have g4:IntKind.i64.wrap (Int.tdiv (k:Int) 16)=(u:Int):=by rw[Int.tdiv_eq_ediv_of_nonneg aso,ae aso aso];omega
 have Z:IntKind.u8.wrap (u:Int)=(u:Int):=dw aso aso;have S:Int.tmod (k:Int) 16=(v:Int):=by rw[aq6 aso];omega
 have Q:IntKind.u8.wrap (v:Int)=(v:Int):=dw aso aso;have t:=anX (a:=a) c;have r:=anX (a:=b) d;rw[H]at t;rw[G]at r;have A:ae3 a b k↔lK a=some u/\lK b=some v:=by unfold ae3;rw[F,D]
 replace F:=hid F;replace D:=hid D;replace A:=hid A;have z:=hid λ(e:¬ae3 a b k)=>show ∀j,j<k+1->¬ae3 a b j from λj T=>by rcases apt j k with I|I;exact y.o j I;rw[show j=k by omega];exact e
 by_cases m:lK a=some u;have O:=t.2 m;by_cases s:lK b=some v;have M:=r.2 s;have g:=ahl (A.o.2 ⟨m,s⟩);have i:((UInt8.ofNat k).toNat:Int)=(k:Int):=by simp;omega
 replace i:=hid i;replace g:=hid g;clear t r m s;have kk1:=@asv _ _ _ _ (JU c);have kk2:=@asv _ _ _ _ (JU d);refine wk ?_;refine ast aso asr (.inr ⟨rfl,UInt8.ofNat k,k+1,_,aso,hid ⟨g.o,?_⟩,rfl,rfl⟩);simp only[u8s,List.map,i.o];have M:¬((ahC v:Nat):Int)=(q.toNat:Int):=λe=>s (r.1 e)
 have B:=hid (z.o λe=>s (A.o.1 e).2);clear t r m s;have kk1:=@asv _ _ _ _ (JU c);have kk2:=@asv _ _ _ _ (JU d);refine wk ?_;exact ast aso asr (.inl ⟨k+1,rfl,aso,B,rfl,rfl⟩);have O:¬((ahC u:Nat):Int)=(p.toNat:Int):=λe=>m (t.1 e)
 have B:=hid (z.o λe=>m (A.o.1 e).1);clear t r m;have kk1:=@asv _ _ _ _ (JU c);refine wk ?_;exact ast aso asr (.inl ⟨k+1,rfl,aso,B,rfl,rfl⟩);have E:k=256:=aso;subst E;have f:=h.o;simp only[Sh,ahm y.o]at f;replace f:=hid f;have g1:¬((256:Nat):Int)<256:=aso;refine wk ?_;exact ac rfl f.o;by_cases C:(k:Int)<256;refine wk ?_;exact ast aso asr (.inr ⟨rfl,x,w,g,rfl,rfl⟩);refine wk ?_;exact ast aso asr (.inr ⟨rfl,x,w,g,rfl,rfl⟩);have f:=h.o;simp only[Sh,g.o.1]at f;replace f:=hid f;rw[g.o.2];have V:=ku [x];have e2:=jq [x];refine wk ?_;exact ac rfl f.o
def mU(b:List UInt8)(bl:Bool)(s:List UInt8):Option (List UInt8×List UInt8):=match i7 b bl s with
 |some (v,r,true)=>some (v,r)
 |_=>none
def aex(n:Nat)(o:Option (List UInt8×List UInt8)):AV:=match o with
 |none=>.tup [.str [],.int .i64 0,.bool false]
 |some (v,r)=>.tup [.str v,.int .i64 ((n-r.length:Nat):Int),.bool true]
theorem agy(h:c=44\/c=43):mU b false (c::s)=some (b,c::s):=by simp only[mU,rL h];rfl
theorem aew(h:c=44\/c=43):mU b true (c::s)=none:=by simp only[mU,rL h];rfl
theorem aia :mU b false []=some (b,[]):=by simp only[mU,rS];rfl
theorem agA :mU b true []=none:=by simp only[mU,rS];rfl
theorem aib{bl:Bool}(h:¬(c=44\/c=43))(a:c≠92)(d:c=0\/c∈([34,59,60,62]:List UInt8)\/(b=[]/\(c=32\/c=35))):mU b bl (c::s)=none:=by simp only[mU,mV h a,if_pos d]
theorem YH{bl:Bool}(h:¬(c=44\/c=43))(a:c≠92)(d:¬(c=0\/c∈([34,59,60,62]:List UInt8)\/(b=[]/\(c=32\/c=35)))):mU b bl (c::s)=mU (b++[c]) (decide (c=32)) s:=by simp only[mU,mV h a,if_neg d]
theorem Yr{x:UInt8}{L:List Blk}{K:aoY}(h:K (.bool (rU.contains x)) L):aoX 133 [.int .u8 x.toNat,.str rU] L K:=nG asp h
theorem abN{a b c d x:UInt8}{L:List Blk}{K:aoY}(h:K (.bool ([a,b,c,d].contains x)) L):aoX 133 [.int .u8 x.toNat,.str [a,b,c,d]] L K:=nG asp h
theorem abO{a b x:UInt8}{L:List Blk}{K:aoY}(h:K (.bool ([a,b].contains x)) L):aoX 133 [.int .u8 x.toNat,.str [a,b]] L K:=nG asp h
theorem aiC{at0:Nat}(hs:s.length<=100000)(Z:at0<=s.length)(h:K (aex s.length (mU [] false (s.drop at0))) L):aoX 219 [.str s,.int .i64 (at0:Int)] L K:=by
 obtain⟨R,hR⟩:=aoT (mU [] false (s.drop at0));rw[hR]at h;replace h:=hid h;refine aoW Ww ?_;refine bR (l:=[]) (n:=0) 7 1 rfl (aps 1).symm ?_;refine ak (λn T' L'=>∃(i m:Nat) (b:List UInt8) (bl T:Bool),n=s.length-i/\i<=s.length/\m<=i/\Hid (m=b.length/\mU b bl (s.drop i)=R/\(bl=true->i<s.length/\s.getD i 0≠44/\s.getD i 0≠43)/\(T=true↔b=[]))/\T'=[(8,.bool T),(1,.int .i64 (i:Int)),(7,.gsl (u8s b) m L.length 1),(0,.str s)]/\L'=L++[.spare m 1]) ass ⟨at0,0,[],false,true,rfl,Z,aso,hid ⟨rfl,hR,asp,asp⟩,rfl,rfl⟩ ?_;rintro _ _ _ ⟨i,m,b,bl,T,rfl,hi,hm,E,rfl,rfl⟩;have e1:=ku b;have e2:=jq b;by_cases J:i<s.length
 .have g1:(i:Int)<(s.length:Int):=aso;have g2:=aoV i aso;obtain⟨c,hc⟩:=aoT (s.getD i 0);have q:=mQ J;rw[hc]at q;have a:=E.o.2.1;rw[q]at a;by_cases g:c=44\/c=43;have N:bl=false:=by
   cases bl with
   |false=>rfl
   | true =>
     obtain⟨_,n1,n2⟩:=E.o.2.2.1 rfl;rw[hc]at n1 n2;rcases g with e|e
     .exact absurd e n1
     .exact absurd e n2
  subst N;rw[agy g]at a;have f:=h.o;rw[<- a]at f;simp only[aex]at f;rw[<- q,aqt,show s.length-(s.length-i)=i by omega]at f;replace f:=hid f;have Q:((c.toNat:Int)=44)\/((c.toNat:Int)=43):=g.imp (bQ c 44).2 (bQ c 43).2;clear a g q;rcases Q with Q|Q;refine wk ?_;exact ac rfl f.o;refine wk ?_;exact ac rfl f.o
  .have Q:¬(c.toNat:Int)=44:=λe=>g (.inl ((bQ c 44).1 e))
   have k2:¬(c.toNat:Int)=43:=λe=>g (.inr ((bQ c 43).1 e))
   by_cases B:c=92;subst B;have g3:IntKind.i64.wrap ((i:Int)+1+1)=(i:Int)+1+1:=ae aso aso;have g4:IntKind.i64.wrap ((i:Int)+1+2)=(i:Int)+1+2:=ae aso aso;have t1:((i:Int)+1).toNat=i+1:=aso;have t3:((i:Int)+1+2).toNat=i+3:=aso;by_cases H:i+1<s.length;have X:(i:Int)+1<(s.length:Int):=aso;have V:¬(i:Int)+1=(s.length:Int):=aso;obtain⟨d,P⟩:=aoT (s.getD (i+1) 0);have p:=mQ H;rw[P]at p;rw[p]at a;by_cases y:d∈rU;simp only[mU,wT y]at a;have f2:rU.contains d=true:=aqw.2 y;clear q p g;replace a:=hid a;have kk1:=@hid _ @Yr;have kk2:=@hid _ @abN;have kk3:=@hid _ @abO;refine wk ?_;rw[show u8s b++[AV.int IntKind.u8 (d.toNat:Int)]=u8s (b++[d])by simp[u8s]];exact ast aso asr ⟨i+1+1,m+1,b++[d],false,false,rfl,H,aso,hid ⟨by simp[E.o.1],a.o,asp,asp⟩,rfl,rfl⟩;have f2:rU.contains d=false:=by rw[<- aqF,aqw];exact y
   by_cases h2:i+2<s.length;have f3:¬(s.length:Int)<(i:Int)+1+2:=aso;have f4:(i:Int)+1<=(i:Int)+1+2:=aso;have f5:(i:Int)+1+2<=(s.length:Int):=aso;have f6:(0:Int)<=(i:Int)+1:=aso;obtain⟨e,he⟩:=aoT (s.getD (i+2) 0);have u:=mQ h2;rw[he]at u;rw[u]at a;simp only[mU,SS y]at a;have ad:(s.drop (i+1)).take (i+3-(i+1))=[d,e]:=by rw[p,u,show i+3-(i+1)=2 by omega];rfl
   clear q p u g;replace a:=hid a;have kk1:=@hid _ @Yr;have kk2:=@hid _ @abN;have kk3:=@hid _ @abO;refine wk ?_;refine agT ?_;rcases k:VD d e with _|x;rw[show Sh d e=.tup [.str [],.bool false]by simp only[Sh,k]];have f:=h.o;rw[<- a.o,k]at f;simp only[aex]at f;replace f:=hid f;clear k;refine asw ?_;exact ac rfl f.o;rw[show Sh d e=.tup [.str [x],.bool true]by simp only[Sh,k]];have A:=a.o;rw[k]at A;simp only at A;replace A:=hid A;have q1:[x].getD 0 0=x:=rfl;clear k a;refine asw ?_;rw[show u8s b++[AV.int IntKind.u8 (x.toNat:Int)]=u8s (b++[x])by simp[u8s]];exact ast aso asr ⟨i+1+2,m+1,b++[x],false,false,rfl,h2,aso,hid ⟨by simp[E.o.1],A.o,asp,asp⟩,rfl,rfl⟩;have f3:(s.length:Int)<(i:Int)+1+2:=aso;have z:s.drop (i+1+1)=[]:=aqE aso;rw[z]at a;simp only[mU,N7 y]at a;have f:=h.o;rw[<- a]at f;replace f:=hid f;clear q p a g;have kk1:=@hid _ @Yr;have kk2:=@hid _ @abN;have kk3:=@hid _ @abO;refine wk ?_;exact ac rfl f.o;have X:¬(i:Int)+1<(s.length:Int):=aso;have V:(i:Int)+1=(s.length:Int):=aso;have f3:(s.length:Int)<(s.length:Int)+2:=aso;have f4:¬(s.length:Int)<(s.length:Int):=aso;have g5:IntKind.i64.wrap (s.length:Int)=(s.length:Int):=ae aso aso;have g6:IntKind.i64.wrap ((s.length:Int)+2)=(s.length:Int)+2:=ae aso aso;have z:s.drop (i+1)=[]:=aqE aso;rw[z]at a;simp only[mU,N8]at a;have f:=h.o;rw[<- a]at f;replace f:=hid f;clear q a g;have kk1:=@hid _ @Yr;have kk2:=@hid _ @abN;have kk3:=@hid _ @abO;refine wk ?_;exact ac rfl f.o
   .have k3:¬(c.toNat:Int)=92:=λe=>B ((bQ c 92).1 e)
    obtain⟨p1,W⟩:=aoT (([34,59,60,62]:List UInt8).contains c);obtain⟨p2,Y⟩:=aoT (([32,35]:List UInt8).contains c);have w:p1=true↔c∈([34,59,60,62]:List UInt8):=(by rw[<- W,aqw]);have v:p2=true↔(c=32\/c=35):=(by rw[<- Y,aqw];simp);replace w:=hid w;replace v:=hid v;have S:=hid (bQ c 0);have D:=hid (bQ c 32);have G:=hid E.o.2.2.2;obtain⟨lst,r⟩:∃lst:Bool,decide (i+1<s.length->s.getD (i+1) 0=44\/s.getD (i+1) 0=43)=lst:=⟨_,rfl⟩;have j:=hid λ(e:c=0\/c∈([34,59,60,62]:List UInt8)\/(b=[]/\(c=32\/c=35)))=>(show R=none by rw[<- a,aib g B e])
    have I:=hid λ(e:lst=true/\c=32)=>(show R=none by by_cases eb:c=0\/c∈([34,59,60,62]:List UInt8)\/(b=[]/\(c=32\/c=35));exact j.o eb;rw[<- a,YH g B eb,e.2];have el:=of_decide_eq_true (r.trans e.1);simp only[decide_true];by_cases H:i+1<s.length;rw[mQ H,aew (el H)];rw[aqE aso,agA])
    have O:=hid λ(e:¬(c=0\/c∈([34,59,60,62]:List UInt8)\/(b=[]/\(c=32\/c=35))))=>(show mU (b++[c]) (decide (c=32)) (s.drop (i+1))=R by rw[<- a,YH g B e])
    replace r:=hid r;clear q a g;have C:R=none->Fin L (.tup [.str [],.int .i64 0,.bool false]) (L++[.spare m 1]) K:=λe=>ac rfl (by have f:=h.o;rwa[e]at f)
    replace C:=hid C;by_cases H:i+1<s.length
    .have X:(i:Int)+1<(s.length:Int):=aso;have V:¬(i:Int)+1=(s.length:Int):=aso;have t1:((i:Int)+1).toNat=i+1:=aso;obtain⟨d,P⟩:=aoT (s.getD (i+1) 0);have t:=hid (show lst=true↔((d.toNat:Int)=44\/(d.toNat:Int)=43)by rw[<- r.o,decide_eq_true_eq,P,show(44:Int)=((44:UInt8).toNat:Int)from rfl,show(43:Int)=((43:UInt8).toNat:Int)from rfl,bQ,bQ];exact⟨λe=>e H,λe _=>e⟩)
     repeat' first
      |refine bH ?_
      | (first|refine bv asq ?_|refine aP asq ?_|refine aS ?_|refine cT ?_|refine bJ (fun _=>?_)|refine aH ?_|refine bz ?_|refine nG asp ?_|refine bg (nG asp ⟨rfl,rfl⟩) (nG asp ⟨rfl,rfl⟩) ?_|refine aM (nG asp ⟨rfl,rfl⟩) ?_)
        refine sm ?_
      | (first|refine bp asq ?_|refine bm ?_|refine aR ?_|refine bw ?_|refine bP (aG ?_))
        refine sl ?_
      |exact bL
      |first|apply bM|apply bq|apply bN|apply br|apply bO|apply bu
      |refine aV ?_
      |refine aQ ?_
      |first|refine aT rfl ?_|refine aU rfl ?_|refine aB rfl ?_ ?_|refine aX rfl (λ_=>?_) (λ_=>?_)|refine aW rfl (λ_=>?_) (λ_=>?_)
      |((first|refine aA (λ_=>?_) (λ_=>?_)|refine aE (λ_=>?_) (λ_=>?_))<;>try refine sm ?_)
      |refine And.intro trivial ?_
      |refine And.intro aso ?_
      |refine be rfl (λ_=>?_) (λ_=>?_)
      |refine And.intro ?_ ?_
     rename_i k;refine C.o ?_;simp only[apN,ao3,decide_eq_true_eq]at k;rcases k with((e|e)|⟨e,M⟩)|e;exact j.o (.inl (S.o.1 e));exact j.o (.inr (.inl (w.o.1 e)));exact j.o (.inr (.inr ⟨G.o.1 e,v.o.1 M⟩));exact I.o ⟨t.o.2 e.1,D.o.1 e.2⟩;rename_i k;rw[<- aqF]at k;simp only[apN,ao3,decide_eq_true_eq]at k;rw[show u8s b++[AV.int IntKind.u8 (c.toNat:Int)]=u8s (b++[c])by simp[u8s]];refine ast aso asr ⟨i+1,m+1,b++[c],decide (c=32),false,rfl,J,aso,hid ⟨by simp[E.o.1],?_,λe=>?_,asp⟩,rfl,rfl⟩;refine O.o λe=>k ?_
     rcases e with e|e|⟨e,M⟩;exact .inl (.inl (.inl (S.o.2 e)));exact .inl (.inl (.inr (w.o.2 e)));exact .inl (.inr ⟨G.o.2 e,v.o.2 M⟩);have F:=D.o.2 (of_decide_eq_true e);refine⟨H,?_,?_⟩;intro e4;exact k (.inr ⟨.inl (by rw[<- P,e4];rfl),F⟩);intro e4;exact k (.inr ⟨.inr (by rw[<- P,e4];rfl),F⟩)
    .have X:¬(i:Int)+1<(s.length:Int):=aso;have V:(i:Int)+1=(s.length:Int):=aso;have g5:IntKind.i64.wrap (s.length:Int)=(s.length:Int):=ae aso aso;have t:=hid (show lst=true by rw[<- r.o,decide_eq_true_eq];exact λe=>absurd e H)
     repeat' first
      |refine bH ?_
      | (first|refine bv asq ?_|refine aP asq ?_|refine aS ?_|refine cT ?_|refine bJ (fun _=>?_)|refine aH ?_|refine bz ?_|refine nG asp ?_|refine bg (nG asp ⟨rfl,rfl⟩) (nG asp ⟨rfl,rfl⟩) ?_|refine aM (nG asp ⟨rfl,rfl⟩) ?_)
        refine sm ?_
      | (first|refine bp asq ?_|refine bm ?_|refine aR ?_|refine bw ?_|refine bP (aG ?_))
        refine sl ?_
      |exact bL
      |first|apply bM|apply bq|apply bN|apply br|apply bO|apply bu
      |refine aV ?_
      |refine aQ ?_
      |first|refine aT rfl ?_|refine aU rfl ?_|refine aB rfl ?_ ?_|refine aX rfl (λ_=>?_) (λ_=>?_)|refine aW rfl (λ_=>?_) (λ_=>?_)
      |((first|refine aA (λ_=>?_) (λ_=>?_)|refine aE (λ_=>?_) (λ_=>?_))<;>try refine sm ?_)
      |refine And.intro trivial ?_
      |refine And.intro aso ?_
      |refine be rfl (λ_=>?_) (λ_=>?_)
      |refine And.intro ?_ ?_
     rename_i k;refine C.o ?_;simp only[apN,ao3,decide_eq_true_eq]at k;rcases k with((e|e)|⟨e,M⟩)|e;exact j.o (.inl (S.o.1 e));exact j.o (.inr (.inl (w.o.1 e)));exact j.o (.inr (.inr ⟨G.o.1 e,v.o.1 M⟩));exact I.o ⟨t.o,D.o.1 e⟩;rename_i k;rw[<- aqF]at k;simp only[apN,ao3,decide_eq_true_eq]at k;rw[show u8s b++[AV.int IntKind.u8 (c.toNat:Int)]=u8s (b++[c])by simp[u8s]];refine ast aso asr ⟨i+1,m+1,b++[c],decide (c=32),false,rfl,J,aso,hid ⟨by simp[E.o.1],?_,λe=>?_,asp⟩,rfl,rfl⟩;refine O.o λe=>k ?_
     rcases e with e|e|⟨e,M⟩;exact .inl (.inl (.inl (S.o.2 e)));exact .inl (.inl (.inr (w.o.2 e)));exact .inl (.inr ⟨G.o.2 e,v.o.2 M⟩);have F:=D.o.2 (of_decide_eq_true e);exact absurd (.inr F) k
 have U:i=s.length:=aso;subst U;have g1:¬(s.length:Int)<(s.length:Int):=aso;have N:bl=false:=by
  cases bl with
  |false=>rfl
  |true=>exact absurd (E.o.2.2.1 rfl).1 aso
 subst N;have f:=h.o;rw[<- E.o.2.1,apM,aia]at f;simp only[aex,apJ,aq2]at f;replace f:=hid f;refine wk ?_;exact ac rfl f.o
theorem aic:∀(n:Nat){s b:List UInt8}{bl:Bool}{v r:List UInt8}{ok:Bool},s.length<=n->i7 b bl s=some (v,r,ok)->r <:+ s:=by
 intro n;induction n with
 | zero =>
   intro s b bl v r ok a h;obtain rfl:=apK.1 (Nat.le_zero.1 a);rw[rS]at h;cases h;exact aq9 _
 | succ n ih =>
   intro s b bl v r ok a h;cases s with
   |nil=>rw[rS]at h;cases h;exact aq9 _
   | cons c s =>
     simp only[apb]at a;by_cases i:c=44\/c=43
     .rw[rL i]at h;cases h;exact aq9 _
     by_cases f:c=92
     .subst f;cases s with
      |nil=>rw[N8]at h;cases h
      | cons d s =>
        by_cases g:d∈rU
        .rw[wT g]at h;exact(ih (by simp at a;omega) h).trans ((ara _ _).trans (ara _ _))
        .cases s with
         |nil=>rw[N7 g]at h;cases h
         | cons e s =>
           rw[SS g]at h;split at h
           .cases h
           .exact(ih (by simp at a;omega) h).trans ((ara _ _).trans ((ara _ _).trans (ara _ _)))
     .rw[mV i f]at h;split at h
      .cases h
      .exact(ih aso h).trans (ara _ _)
theorem agz{v r:List UInt8}(h:mU [] false s=some (v,r)):i7 [] false s=some (v,r,true):=by unfold mU at h;split at h;rename_i e;cases h;exact e;cases h
theorem aa4(f:Nat)(out:List Rdn)(a:Rdn)(s:List UInt8):tU (f+1) out a s=if out.length=32\/a.length=8 then([],9)else match lN s with
  |none=>([],4)
  | some (typ,rest)=>if jE typ=false then ([],4) else if lX a typ=true then ([],21) else match mU [] false rest with
    |none=>([],4)
    | some (v,b)=>match b with
      |[]=>(out++[a++[(typ,v)]],0)
      |c::s'=>if c=44 then tU f (out++[a++[(typ,v)]]) [] s' else tU f out (a++[(typ,v)]) s':=by
 rw[tU];congr 1;rcases lN s with _|⟨typ,rest⟩;rfl;simp only;congr 1;congr 1;unfold mU;rcases i7 [] false rest with _|⟨v,b,ok⟩;rfl;cases ok<;>rfl
theorem ahE{j:Nat}(f:i<=j)(c:j<s.length)(d:s.getD j 0≠61)(h:lN (s.drop i)=(lN (s.drop j)).map λp=>((s.drop i).take (j-i)++p.1,p.2)):
  lN (s.drop i)=(lN (s.drop (j+1))).map λp=>((s.drop i).take (j+1-i)++p.1,p.2):=by
 rw[h,mQ c];simp only[lN,if_neg d];have e:(s.drop i).take (j+1-i)=(s.drop i).take (j-i)++[s.getD j 0]:=by rw[show j+1-i=(j-i)+1 by omega,aph (by simp;omega)];congr 2;simp[show i+(j-i)=j by omega,c]
 rw[e];rcases lN (s.drop (j+1))with _|⟨a,b⟩;rfl;simp
theorem ald(b:r.length=n)(f:n<=8)(d:∀a∈r,a.1.length<=32)(e:typ.length<=4096)(h:K (.bool (lX r typ)) L):
  aoX 87 [.gsl (bd r) n i 2,.str typ] L K:=by
 subst b;exact iK (by simpa only[AV.frzL,AV.frz,gR]using aiJ (cap:=none) aso (λa c=>by have:=d a c;omega) aso h)
theorem agS{z:Int}{at0:Nat}(c:z=(at0:Int))(b:s.length<=100000)(a:at0<=s.length)(h:K (aex s.length (mU [] false (s.drop at0))) L):aoX 219 [.str s,.int .i64 z] L K:=by subst c;exact aiC b a h
theorem aiF(h:K (aaw (dV s)) L):aoX 188 [.str s] L K:=by
 refine ab Wz (by simp[wH]) ?_;simp only[wH,ag];by_cases h1:4096<s.length;have f1:(4096:Int)<(s.length:Int):=aso;rw[dV,if_pos h1]at h;replace h:=hid h;clear h1;refine wk ?_;exact aY (aa h.o);have f1:¬(4096:Int)<(s.length:Int):=aso;rw[dV,if_neg h1]at h;have hs:=hid (show s.length<=4096 by omega);clear h1;obtain⟨R,hR⟩:=aoT ((if s=[]then([],0)else tU (s.length+1) [] [] s));rw[hR]at h;replace h:=hid h;replace hR:=hid hR;refine wk ?_;refine bR (l:=[]) (n:=0) 4 1 rfl (aps 1).symm ?_;refine ak (λn T' L'=>∃(f m i:Nat) (out:List Rdn) (X:List Blk),f=n/\i<=s.length/\m<=32/\Hid (s≠[]->s.length-i<f/\tU f out [] (s.drop i)=R)/\Hid (s=[]->out=[])/\Hid (m=out.length)/\L'[L.length]?=some (.spare m 1)/\T'=[(5,.int .i64 (i:Int)),(4,.gsl (out.map am) m L.length 1),(0,.str s)]/\L'=L++X) ass ⟨s.length+1,0,0,[],[.spare 0 1],rfl,ao2 _,aso,hid (λe=>⟨aso,by have:=hR.o;rw[if_neg e]at this;simpa using this⟩),hid (λ_=>rfl),hid rfl,asp,rfl,rfl⟩ ?_;rintro _ _ _ ⟨f,m,i,out,X,rfl,hi,a6,hI,av,hm,ho,rfl,rfl⟩;by_cases h0:s=[];have d:=h.o;rw[<- hR.o,if_pos h0]at d;replace d:=hid d;have f2:¬(0:Int)<(s.length:Int):=by rw[h0];simp
 clear h0;refine wk ?_;exact aY (ac rfl d.o);obtain⟨hf,r⟩:=hI.o h0;have f2:(0:Int)<(s.length:Int):=by have:=apQ.2 h0;omega
 clear hI av hR h0;have hB:L.length<(L++X).length:=(aoZ.1 ho).1;by_cases U:m=32;obtain⟨f,rfl⟩:∃g,f=g+1:=⟨f-1,aso⟩;rw[aa4,if_pos (.inl (by rw[<- hm.o];exact U))]at r;have d:=h.o;rw[<- r]at d;replace d:=hid d;have k:(m:Int)=32:=aso;clear r U hf;refine wk ?_;exact jd d.o;have k1:¬(m:Int)=32:=aso;replace r:=hid r;refine wk ?_;refine ak (λn T' L'=>∃(g i:Nat) (q:Rdn) (v:AV) (Z:List Blk),g=n/\g<=f/\i<=s.length/\q.length<=8/\Hid (s.length-i<g/\tU g out q (s.drop i)=R/\(∀a∈q,a.1.length<=32)/\anx L.length q v L')/\L'[L.length]?=some (.spare m 1)/\X.length<=Z.length/\T'=[(6,v),(5,.int .i64 (i:Int)),(4,.gsl (out.map am) m L.length 1),(0,.str s)]/\L'=L++Z) ass ⟨f,i,[],_,X,rfl,ao0 _,hi,asp,hid ⟨hf,r.o,asp,.inl ⟨rfl,rfl,rfl⟩⟩,ho,ao0 _,rfl,rfl⟩ ?_;clear r hf ho hi;rintro _ _ _ ⟨g,i,q,v,X1,rfl,a8,hi,ar,hI,ho,a0,rfl,rfl⟩;obtain⟨hf,r,ht,hv⟩:=hI.o;clear hI;obtain⟨g,rfl⟩:∃g',g=g'+1:=⟨g-1,aso⟩;have ad:L.length<(L++X1).length:=(aoZ.1 ho).1;refine acI 6 2 L.length rfl ad hv λp Y a4 G=>?_
 rw[apc]at G⊢;have P:(L++(X1++Y))[L.length]?=some (.spare m 1):=by rw[<- apc,ao4 ad];exact ho
 have y:X.length<=(X1++Y).length:=by simp;omega
 generalize X1++Y=Z at G P y⊢;clear ho ad hv a0 X1 Y;replace y:=hid y;have E:=(aoZ.1 G).1;have ai:=(aoZ.1 P).1;have hz:p-L.length≠0:=aso;obtain⟨c,hc⟩:∃c:Nat,q.length=c:=⟨_,rfl⟩;rw[aa4]at r;rw[hc]at r G ar⊢;rw[apd]at E ai;replace hz:=hid hz;replace E:=hid E;replace ai:=hid ai;by_cases I:c=8;rw[if_pos (.inr I)]at r;have d:=h.o;rw[<- r]at d;replace d:=hid d;have k:(c:Int)=8:=aso;clear r I;refine wk ?_;exact jd d.o;rw[if_neg (by rw[<- hm.o];omega)]at r;have k2:¬(c:Int)=8:=aso;replace r:=hid r;replace ht:=hid ht;replace hf:=hid hf;refine wk ?_;refine ak (λn T' L'=>∃j:Nat,n=s.length-j/\i<=j/\j<=s.length/\Hid (lN (s.drop i)=(lN (s.drop j)).map λp=>((s.drop i).take (j-i)++p.1,p.2))/\T'=[(7,.int .i64 (j:Int)),(6,.gsl (bd q) c p 2),(5,.int .i64 (i:Int)),(4,.gsl (out.map am) m L.length 1),(0,.str s)]/\L'=L++Z) ass ⟨i,rfl,ao0 _,hi,hid (by rcases lN (s.drop i)with _|⟨a,b⟩<;>simp),rfl,rfl⟩ ?_;rintro _ _ _ ⟨j,rfl,a5,hj,D,rfl,rfl⟩;by_cases M:j<s.length;rotate_left;have a2:j=s.length:=aso;subst a2;have g1:¬(s.length:Int)<(s.length:Int):=aso;have e:=D.o;rw[apM]at e;simp only[lN,apI]at e;have d:=h.o;rw[<- r.o,e]at d;simp only at d;replace d:=hid d;clear e;refine wk ?_;exact jd d.o;have g1:(j:Int)<(s.length:Int):=aso;have g2:=aoV j aso;obtain⟨x,hx⟩:=aoT (s.getD j 0);by_cases S:x=61;rotate_left;have g3:¬(x.toNat:Int)=61:=λe=>S ((bQ x 61).1 e)
 have an:=hid (ahE a5 M (by rw[hx];exact S) D.o);clear S;refine wk ?_;exact ast aso asr ⟨j+1,rfl,aso,M,an,rfl,rfl⟩;subst S;have g3:((61:UInt8).toNat:Int)=61:=rfl;have C:lN (s.drop i)=some ((s.drop i).take (j-i),s.drop (j+1)):=by rw[D.o,mQ M,hx];simp[lN]
 clear D;obtain⟨typ,V⟩:=aoT ((s.drop i).take (j-i));have bb:typ.length<=4096:=by rw[<- V];have:=hs.o;simp;omega
 have T:(typ.length:Int)<=100000:=aso;rw[V]at C;have B:=r.o;rw[C]at B;simp only at B;have g4:¬(j:Int)=(s.length:Int):=aso;have g5:(i:Int)<=(j:Int):=aso;have g6:(j:Int)<=(s.length:Int):=aso;replace B:=hid B;clear C r;cases hty:jE typ with
 | false =>
   have d:=h.o;rw[<- B.o,if_pos hty]at d;replace d:=hid d;have kk1:=@asv _ _ _ _ (afY T);refine wk ?_;exact jd d.o
 |true =>
 have F:=B.o;rw[if_neg (by rw[hty];simp)]at F;replace F:=hid F;clear B;have bk:=hid (show p≠L.length+Z.length by have:=E.o;omega);have b1:∀b,(L++(Z++[b]))[p]?=some (.spare c 2):=λb=>by rw[<- apc,ao4 (aoZ.1 G).1];exact G
 have b2:∀A b,(L++(Z++[b])).set p A=L++(Z.set (p-L.length) A++[b]):=λA b=>by rw[apu _ _ aso,ap3 _ _ (by have:=E.o;omega)]
 have b3:∀A b,(L++(Z.set (p-L.length) A++[b]))[L.length]?=some (.spare m 1):=λA b=>by rw[<- b2,api aso,<- apc,ao4 (aoZ.1 P).1];exact P
 have b4:∀A b,(L++(Z.set (p-L.length) A++[b]))[p]?=some A:=λA b=>by rw[<- b2,apB,if_pos rfl,if_pos (by have:=E.o;simp;omega)]
 have a':(i:Int).toNat=i:=aso;have kk1:=@asv _ _ _ _ (afY T);refine wk ?_;refine ald hc ar ht.o aso ?_;cases hha:lX q typ with
 | true =>
   have d:=h.o;rw[<- F.o,if_pos hha]at d;replace d:=hid d;refine asw ?_;exact jd d.o
 |false =>
 have H:=F.o;rw[if_neg (by rw[hha];simp)]at H;replace H:=hid H;clear F;refine asw ?_;refine agS (at0:=j+1) aso (by have:=hs.o;omega) M ?_;rcases hvl:mU [] false (s.drop (j+1))with _|⟨w,r2⟩;have d:=h.o;rw[<- H.o,hvl]at d;simp only at d;replace d:=hid d;simp only[aex];refine asw ?_;exact jd d.o;have z:=H.o;rw[hvl]at z;simp only at z;have J:=aic _ (ao0 _) (agz hvl);have N:r2=s.drop (s.length-r2.length):=List.suffix_iff_eq_drop.1 (J.trans (List.drop_suffix _ _));have a3:r2.length<=s.length-(j+1):=by have:=J.length_le;simpa using this
 obtain⟨t,Q⟩:=aoT (s.length-r2.length);rw[Q]at N;have a9:j<t:=aso;have a_:t<=s.length:=aso;simp only[aex,Q];replace z:=hid z;clear H hvl J;replace N:=hid N;have q1:(c+1)*32<=140737488355328:=aso;have q2:c+1<=140737488355328:=aso;have q3:(m+1)*24<=140737488355328:=aso;have q4:m+1<=140737488355328:=aso;have e1:bd q++[AV.str typ,AV.str w]=bd (q++[(typ,w)]):=(abD _ _ _).symm;have e2:out.map am++[AV.sl (AV.frzL (bd q++[AV.str typ,AV.str w])) (c+1) none]=(out++[q++[(typ,w)]]).map am:=by rw[e1,gR,apz];simp[hc]
 have e3:(out++[q++[(typ,w)]]).length=m+1:=by simp[hm.o]
 have e4:(q++[(typ,w)]).length=c+1:=by simp[hc]
 have e5:∀a∈q++[(typ,w)],a.1.length<=32:=λa ha=>by rcases ao5.1 ha with h|h;exact ht.o a h;rw[apr.1 h];exact wU hty
 have s4:∀(W:List Blk) A,(L++W).set L.length A=L++W.set 0 A:=λW A=>by rw[apu _ _ (ao0 _),aqq]
 have g7:IntKind.i64.wrap ((t:Int)+1)=(t:Int)+1:=ae (by have:=hs.o;omega) (by have:=hs.o;omega);replace e1:=hid e1;replace e2:=hid e2;replace e3:=hid e3;replace e4:=hid e4;replace e5:=hid e5;cases r2 with
 | nil =>
   have d:=h.o;rw[<- z.o]at d;simp only at d;replace d:=hid d;have a1:t=s.length:=(by simp at Q;omega);subst a1;refine asw ?_;rw[e2.o];refine aY (ac ?_ ?_)
   .simp only[AV.frz,AV.frzL,bB,AV.refs,AV.refsL,fD,aq5]
   .simp only[AV.frz,AV.frzL,bB];have:=d.o;simp only[aaw,e3.o]at this;exact this
 | cons x s' =>
   simp only at z;have u:t<s.length:=(by simp at Q a3;omega);have k3:¬(t:Int)=(s.length:Int):=aso;have k4:(t:Int)<(s.length:Int):=aso;have al:=N.o;rw[mQ u]at al;obtain⟨ap,O⟩:=List.cons.inj al;have bi:=ap.symm;replace O:=hid O;clear al ap;by_cases hx:x=44
   .subst hx;refine asw ?_;rw[e2.o];refine ast ?_ (CutS (b:=?_)) ⟨g,m+1,t+1,out++[q++[(typ,w)]],_,rfl,u,?_,hid λ_=>⟨?_,?_⟩,hid λe=>?_,hid e3.o.symm,?_,rfl,rfl⟩
    .omega
    .simp
    .have:=hm.o;omega
    .have:=hf.o;omega
    .rw[<- O.o,<- z.o,if_pos rfl]
    .rw[e]at u;simp at u
    .rw[<- s4,apB,if_pos rfl,if_pos asp]
   .have q6:¬(x.toNat:Int)=44:=λe=>hx ((bQ x 44).1 e)
    refine asw ?_;rw[e1.o];refine ast ?_ (CutS (b:=?_)) ⟨g,t+1,q++[(typ,w)],_,_,rfl,?_,u,?_,hid ⟨?_,?_,e5.o,.inr ⟨p,a4,by rw[e4.o],by rw[e4.o];exact b4 _ _⟩⟩,b3 _ _,?_,rfl,rfl⟩
    .omega
    .have:=y.o;simp;omega
    .omega
    .rw[e4.o];omega
    .have:=hf.o;omega
    .rw[<- O.o,<- z.o,if_neg hx]
    .have:=y.o;simp;omega
theorem Wi(sep x:List UInt8):∀xs:List (List UInt8),Lib.join (xs++[x]) sep=if xs=[]then x else Lib.join xs sep++sep++x
 |[]=>by simp[Lib.join,List.intercalate]
 |[y]=>by simp[Lib.join,List.intercalate]
 |y::z::l=>by have a:=Wi sep x (z::l);rw[if_neg asp]at a⊢;have b:Lib.join (y::z::l++[x]) sep=y++(sep++Lib.join (z::l++[x]) sep):=(by simp[Lib.join,List.intercalate]);have c:Lib.join (y::z::l) sep=y++(sep++Lib.join (z::l) sep):=(by simp[Lib.join,List.intercalate]);rw[b,a,c];simp
theorem Yq{d:List Rdn}{cap:Option Nat}(hn:d.length<=1000)(Y:∀r∈d,r.length<=1000/\∀a∈r,a.1.length<=10000/\a.2.length<=10000){L:List Blk}{K:aoY}(h:K (.str (bj false d)) L):
  aoX 88 [.sl (d.map am) d.length cap] L K:=by
 replace h:=hid h;have al:=hid (λk=>@mY d k);replace Y:=hid Y;refine aoW X8 ?_;refine ak (λn T' L'=>∃(i:Nat) (j:List UInt8) (Z:List Blk),n=d.length-i/\i<=d.length/\j.length<=i*50000000/\Hid (j=Lib.join ((d.take i).map (dx false)) [44])/\T'=[(10,.int .i64 (i:Int)),(9,.int .i64 d.length),(8,.sl (d.map am) d.length cap),(3,.str j)]/\L'=L++Z) ass ⟨0,[],[],rfl,ao2 _,asp,hid (by simp[Lib.join]),rfl,asp⟩ ?_;rintro _ _ _ ⟨i,j,X,rfl,hi,v,w,rfl,rfl⟩;by_cases l:i<d.length
 .have g1:(i:Int)<(d.length:Int):=aso;have g2:=aoV i aso;have e2:=al.o i l;have S:d.getD i []∈d:=(by rw[apo,ao8 l];exact apZ _);have J:=Y.o _ S;obtain⟨r,H⟩:=aoT (d.getD i []);have F:d.take (i+1)=d.take i++[r]:=(by rw[aph l,<- H];simp[l]);rw[H]at e2 J;clear H S;obtain⟨ar,t⟩:=J;replace t:=hid t;obtain⟨B,I⟩:=aoT ((if 0<i then j++[44]else j));have ai:B.length<=i*50000000+1:=by rw[<- I];split;exact apk (Nat.le_of_eq asp) (Nat.add_le_add_right v 1);exact apk v (Nat.le_add_right _ _)
  have u:B++dx false r=Lib.join ((d.take (i+1)).map (dx false)) [44]:=by rw[F,apz,List.map_singleton,Wi,<- w.o,<- I];by_cases p:0<i;rw[if_pos p,if_neg];intro e;rcases List.take_eq_nil_iff.1 (List.map_eq_nil_iff.1 e)with e|e;omega;rw[e]at l;simp at l;have:i=0:=aso;subst this;simp at v;simp[v]
  replace u:=hid u;replace I:=hid I;replace F:=hid F;have a1:(i:Int)<=1000:=aso;have U:((j.length+1:Nat):Int)<=9223372036854775807:=aso
  iterate 12 first
   |refine bH ?_
   | (first|refine bv asq ?_|refine aP asq ?_|refine aS ?_|refine cT ?_|refine bJ (fun _=>?_)|refine aH ?_|refine bz ?_)
     simp(config:={maxSteps:=2000000}) only[Kon,push_cast,reduceIte,Nat.reduceEqDiff,Nat.reduceAdd,Nat.reduceMul,Nat.reduceSub,Nat.reduceLT,Nat.reduceLeDiff,Int.reduceLT,Int.reduceLE,Int.reduceAdd,Int.reduceSub,Int.reduceNeg,Int.reduceToNat,Int.reduceEq,reduceCtorEq, *]
   | (first|refine bp asq ?_|refine bm ?_|refine aR ?_|refine bw ?_|refine bP (aG ?_))
     simp only[push_cast,reduceIte,Nat.reduceEqDiff,Nat.reduceAdd,Nat.reduceMul,Nat.reduceSub,Nat.reduceLT,Nat.reduceLeDiff,Int.reduceLT,Int.reduceLE,Int.reduceAdd,Int.reduceSub,Int.reduceNeg,Int.reduceToNat,Int.reduceEq,reduceCtorEq, *]
   |exact bL
   |first|apply bM|apply bq|apply bN|apply br|apply bO|apply bu
   |refine aV ?_
   |refine aQ ?_
   |first|refine aT rfl ?_|refine aU rfl ?_|refine aB rfl ?_ ?_|refine aX rfl (λ_=>?_) (λ_=>?_)|refine aW rfl (λ_=>?_) (λ_=>?_)
   |((first|refine aA (λ_=>?_) (λ_=>?_)|refine aE (λ_=>?_) (λ_=>?_))<;>try simp(config:={maxSteps:=2000000}) only[Kon,push_cast,reduceIte,Nat.reduceEqDiff,Nat.reduceAdd,Nat.reduceMul,Nat.reduceSub,Nat.reduceLT,Nat.reduceLeDiff,Int.reduceLT,Int.reduceLE,Int.reduceAdd,Int.reduceSub,Int.reduceNeg,Int.reduceToNat,Int.reduceEq,reduceCtorEq, *])
   |refine And.intro trivial ?_
   |refine And.intro aso ?_
   |refine be rfl (λ_=>?_) (λ_=>?_)
   |refine And.intro ?_ ?_
  refine Oo (λW L2=>W=[(3,.str B),(5,am r),(10,.int .i64 (i:Int)),(9,.int .i64 d.length),(8,.sl (d.map am) d.length cap)]/\L2=L++X) ?_ ?_;by_cases p:0<i;have k0:(0:Int)<(i:Int):=aso;have f:=I.o;rw[if_pos p]at f;subst f;clear p;refine wk ?_;exact jO _ _ asr ⟨rfl,rfl⟩;have k0:¬(0:Int)<(i:Int):=aso;have f:=I.o;rw[if_neg p]at f;subst f;clear p;refine wk ?_;exact jO _ _ asr ⟨rfl,rfl⟩;rintro _ _ ⟨rfl,rfl⟩ -;refine wk ?_;refine ak (λn T' L'=>∃(k:Nat) (c:List UInt8) (Z:List Blk),n=r.length-k/\k<=r.length/\c.length<=i*50000000+1+k*40002/\X.length<=Z.length/\Hid (c=B++Lib.join ((r.take k).map (avT false)) [43])/\T'=[(21,.int .i64 (k:Int)),(20,.int .i64 r.length),(19,am r),(10,.int .i64 (i:Int)),(9,.int .i64 d.length),(8,.sl (d.map am) d.length cap),(3,.str c)]/\L'=L++Z) ass ⟨0,B,X,rfl,ao2 _,aso,ao0 _,hid (by simp[Lib.join]),rfl,rfl⟩ ?_;rintro _ _ _ ⟨k,c,Z,rfl,hk,s,z,m,rfl,rfl⟩;replace z:=hid z;by_cases g:k<r.length
  .have g3:(k:Int)<(r.length:Int):=aso;have g4:=aoV k aso;have e3:=gS g;have e4:k*2+2<=(bd r).length:=(by rw[dm];omega);obtain⟨⟨ty,C⟩,T⟩:∃a,r.getD k ([],[])=a:=⟨_,rfl⟩;have Q:(ty,C)∈r:=(by rw[<- T];simp[g]);have D:r.take (k+1)=r.take k++[(ty,C)]:=(by rw[aph g,<- T];simp[g]);rw[T]at e3;simp only[pu]at e3;have G:=t.o _ Q;simp only at G;have P:C.length<=100000:=aso;have V:=SP C.length C 0;obtain⟨A,N⟩:=aoT (gU C);have av:A.length<=30000:=(by rw[<- N];unfold gU;omega);have a2:=G.1;obtain⟨y,q⟩:=aoT ((if 0<k then c++[43]else c));have ap:y.length<=i*50000000+1+k*40002+1:=by rw[<- q];split;exact apk (Nat.le_of_eq asp) (Nat.add_le_add_right s 1);exact apk s (Nat.le_add_right _ _)
   have x:y++ty++[61]++A=B++Lib.join ((r.take (k+1)).map (avT false)) [43]:=by rw[D,apz,List.map_singleton,Wi,<- q];have e0:avT false (ty,C)=ty++[61]++A:=(by simp[avT,N]);by_cases p:0<k;rw[if_pos p,if_neg,m.o,e0];simp;intro e;rcases List.take_eq_nil_iff.1 (List.map_eq_nil_iff.1 e)with e|e;omega;rw[e]at g;simp at g;have:k=0:=aso;subst this;have:=m.o;simp only[aqx,aqI]at this;rw[if_neg aso,this,e0];simp[Lib.join]
   replace x:=hid x;have ad:(y++ty++[61]++A).length=y.length+ty.length+1+A.length:=(by simp only[apd,apb,apJ]);have O:(y++ty++[61]++A).length<=i*50000000+1+(k+1)*40002:=(by rw[ad];omega);replace q:=hid q;clear V T Q G D;have a0:k<1000:=aso;have b0:((c.length+1:Nat):Int)<=9223372036854775807:=aso;have b1:((y.length+ty.length:Nat):Int)<=9223372036854775807:=aso;have b2:((y.length+ty.length+1:Nat):Int)<=9223372036854775807:=aso;have b3:((y.length+ty.length+1+A.length:Nat):Int)<=9223372036854775807:=aso;simp only[Int.natCast_add,Int.cast_ofNat_Int]at b0 b1 b2 b3
   iterate 12 first
    |refine bH ?_
    | (first|refine bv asq ?_|refine aP asq ?_|refine aS ?_|refine cT ?_|refine bJ (fun _=>?_)|refine aH ?_|refine bz ?_)
      simp(config:={maxSteps:=2000000}) only[Kon,push_cast,reduceIte,Nat.reduceEqDiff,Nat.reduceAdd,Nat.reduceMul,Nat.reduceSub,Nat.reduceLT,Nat.reduceLeDiff,Int.reduceLT,Int.reduceLE,Int.reduceAdd,Int.reduceSub,Int.reduceNeg,Int.reduceToNat,Int.reduceEq,reduceCtorEq, *]
    | (first|refine bp asq ?_|refine bm ?_|refine aR ?_|refine bw ?_|refine bP (aG ?_))
      simp only[push_cast,reduceIte,Nat.reduceEqDiff,Nat.reduceAdd,Nat.reduceMul,Nat.reduceSub,Nat.reduceLT,Nat.reduceLeDiff,Int.reduceLT,Int.reduceLE,Int.reduceAdd,Int.reduceSub,Int.reduceNeg,Int.reduceToNat,Int.reduceEq,reduceCtorEq, *]
    |exact bL
    |first|apply bM|apply bq|apply bN|apply br|apply bO|apply bu
    |refine aV ?_
    |refine aQ ?_
    |first|refine aT rfl ?_|refine aU rfl ?_|refine aB rfl ?_ ?_|refine aX rfl (λ_=>?_) (λ_=>?_)|refine aW rfl (λ_=>?_) (λ_=>?_)
    |((first|refine aA (λ_=>?_) (λ_=>?_)|refine aE (λ_=>?_) (λ_=>?_))<;>try simp(config:={maxSteps:=2000000}) only[Kon,push_cast,reduceIte,Nat.reduceEqDiff,Nat.reduceAdd,Nat.reduceMul,Nat.reduceSub,Nat.reduceLT,Nat.reduceLeDiff,Int.reduceLT,Int.reduceLE,Int.reduceAdd,Int.reduceSub,Int.reduceNeg,Int.reduceToNat,Int.reduceEq,reduceCtorEq, *])
    |refine And.intro trivial ?_
    |refine And.intro aso ?_
    |refine be rfl (λ_=>?_) (λ_=>?_)
    |refine And.intro ?_ ?_
   refine Oo (λW L2=>W=[(3,.str y),(7,.ptr (L.length+Z.length) 0),(21,.int .i64 (k:Int)),(20,.int .i64 r.length),(19,am r),(10,.int .i64 (i:Int)),(9,.int .i64 d.length),(8,.sl (d.map am) d.length cap)]/\L2=L++(Z++[.cells [.str ty,.str C]])) ?_ ?_;by_cases p:0<k;have k0:(0:Int)<(k:Int):=aso;have f:=q.o;rw[if_pos p]at f;subst f;clear p;refine wk ?_;exact jO _ _ asr ⟨rfl,rfl⟩;have k0:¬(0:Int)<(k:Int):=aso;have f:=q.o;rw[if_neg p]at f;subst f;clear p;refine wk ?_;exact jO _ _ asr ⟨rfl,rfl⟩;rintro _ _ ⟨rfl,rfl⟩ -;have kk1:=@asv _ _ _ _ (mW P);refine wk ?_;exact ast aso (CutL (b:=by have:=z.o;simp;omega)) ⟨k+1,y++ty++[61]++A,_,rfl,g,O,by have:=z.o;simp;omega,x,rfl,rfl⟩
  have E:k=r.length:=aso;subst E;have g3:¬(r.length:Int)<(r.length:Int):=aso;have an:c.length<=(i+1)*50000000:=by rw[ard];clear v ai U;generalize i*50000000=M at s⊢;omega
  have e:=m.o;rw[apg,show Lib.join (r.map (avT false)) [43]=dx false r by simp[dx],u.o]at e;replace e:=hid e;refine wk ?_;exact ast aso asr ⟨i+1,c,_,rfl,l,an,e,rfl,rfl⟩
 have E:i=d.length:=aso;subst E;have g1:¬(d.length:Int)<(d.length:Int):=aso;have e:=w.o;rw[apg]at e;have R:=h.o;simp only[bj]at R;rw[<- e]at R;replace R:=hid R;clear w e;refine wk ?_;exact ac rfl R.o
def S8(r:Rdn):Nat:=(r.map λa=>min a.2.length 5000).sum
def XO(d:List Rdn):Nat:=(d.map S8).sum
theorem ah7(n:Nat):∀(s:List UInt8) (i:Nat),s.length<=(wrL n i s).length
 |[],_=>asp
 | c::s,i=>by
   have b:=ah7 n s (i+1);have a:1<=(wrB i n c).length:=by
    unfold wrB;split
    .simp
    .split<;>simp
   simp only[wrL,apd,apb];omega
theorem aca(sep:List UInt8):∀xs:List (List UInt8),(xs.map List.length).sum<=(Lib.join xs sep).length
 |[]=>by simp[Lib.join]
 |[x]=>by simp[Lib.join,List.intercalate]
 |x::y::l=>by have a:=aca sep (y::l);have e:Lib.join (x::y::l) sep=x++(sep++Lib.join (y::l) sep):=(by simp[Lib.join,List.intercalate]);rw[e];simp only[apv,aqJ,apd]at a⊢;omega
theorem ak5(r:Rdn):S8 r<=(dx false r).length:=by
 have c:S8 r<=((r.map (avT false)).map List.length).sum:=by
  induction r with
  |nil=>simp[S8]
  | cons a r ih =>
    have b:=ah7 a.2.length a.2 0;have d:min a.2.length 5000<=(avT false a).length:=by simp only[avT,apj,if_false,apd,gU];omega
    simp only[S8,apv,aqJ]at ih⊢;omega
 have b:=aca [43] (r.map (avT false));simp only[dx,apj,if_false];omega
theorem akL(d:List Rdn):XO d<=(bj false d).length:=by
 have c:XO d<=((d.map (dx false)).map List.length).sum:=by
  induction d with
  |nil=>simp[XO]
  | cons a r ih =>
    have b:=ak5 a;simp only[XO,apv,aqJ]at ih⊢;omega
 have b:=aca [44] (d.map (dx false));simp only[bj];omega
theorem ab0:∀{l:List Nat}{x:Nat},x∈l->x<=l.sum
 |[],_,h=>by cases h
 | y::l,x,h=>by
   rw[aqJ];rcases apn.1 h with rfl|h
   .omega
   .have:=ab0 h;omega
theorem aiz(h:XO d<=4096):∀r∈d,∀a∈r,a.2.length<=4096:=λr b a c=>by
 have g:S8 r<=XO d:=by unfold XO;exact ab0 (arE b)
 have e:min a.2.length 5000<=S8 r:=by unfold S8;exact ab0 (arE (f:=λa:Ava=>min a.2.length 5000) c)
 omega
theorem ajj(h:∀r∈d,∀a∈r,a.2.length<=4096):JD d=false:=by unfold JD Ny;rw[aqA];intro r b;simp only[aqF,aqA,decide_eq_true_eq];intro a c;have:=h r b a c;omega
theorem alc(b:r.length=n)(f:n<=8)(d:∀a∈r,a.1.length<=32)(e:typ.length<=32)(h:K (.bool (lX r typ)) L):
  aoX 87 [.sl (bd r) n cap,.str typ] L K:=by
 subst b;exact aiJ aso (λa c=>by have:=d a c;omega) aso h
theorem rM(hn:d.length<=1100000)(T:∀r∈d,r.length<=1100000/\∀a∈r,(a.1.length:Int)<=140737488351232)(h:K (kB (prS d)) L):aoX 37 [.sl (d.map am) d.length cap] L K:=by
 obtain⟨R,hR⟩:=aoT (prS d);rw[hR]at h;replace h:=hid h;have a0:=hid (λk=>@mY d k);replace T:=hid T;have l:jJ 0 d≠0->R=([],jJ 0 d):=λe=>by rw[<- hR,prS,if_pos e]
 replace l:=hid l;replace hR:=hid hR;refine aoW Wy ?_;refine ak (λn T' L'=>∃(i:Nat) (c:Int) (X:List Blk),n=d.length-i/\i<=d.length/\i<=32/\Hid (c=(XO (d.take i):Nat)/\c<=40000*i)/\Hid (jJ i (d.drop i)=jJ 0 d)/\T'=[(11,.int .i64 (i:Int)),(10,.int .i64 d.length),(9,.sl (d.map am) d.length cap),(4,.int .i64 c),(0,.sl (d.map am) d.length cap)]/\L'=L++X) ass ⟨0,0,[],rfl,ao2 _,aso,hid ⟨rfl,aso⟩,hid rfl,rfl,asp⟩ ?_;rintro _ _ _ ⟨i,c,X,rfl,hi,a3,hc,he,rfl,rfl⟩;by_cases p:i<d.length
 .have g1:(i:Int)<(d.length:Int):=aso;have g2:=aoV i aso;have e2:=a0.o i p;have ar:d.getD i []∈d:=(by rw[apo,ao8 p];exact apZ _);obtain⟨av,G⟩:=T.o (d.getD i []) ar;obtain⟨r,I⟩:=aoT (d.getD i []);have ai:d.drop i=r::d.drop (i+1):=(by rw[apw p,<- I];simp[p]);have V:d.take (i+1)=d.take i++[r]:=(by rw[aph p,<- I];simp[p]);rw[I]at e2 av G;have b:=he.o;rw[ai,jJ]at b;clear ai I ar;replace G:=hid G;replace V:=hid V;by_cases B:i=32;rw[if_pos B]at b;have f:=h.o;rw[l.o (by rw[<- b];decide),<- b]at f;replace f:=hid f;have k1:(i:Int)=32:=aso;have a8:(32:Int)<(d.length:Int):=aso;clear B b;refine wk ?_;exact ac rfl f.o;rw[if_neg B]at b;have k1:¬(i:Int)=32:=aso;by_cases N:r=[];rw[if_pos N]at b;subst N;have f:=h.o;rw[l.o (by rw[<- b];decide),<- b]at f;replace f:=hid f;clear B b;refine wk ?_;exact ac rfl f.o;rw[if_neg N]at b;have k2:¬(r.length:Int)=0:=(by have:=apQ.2 N;omega);have g:∀e:Int,dW [] r=e->e≠0->K (.tup [.str [],.int .i64 e]) L:=λe a1 a2=>by rw[if_pos (by rw[a1];exact a2),a1]at b;have f:=h.o;rwa[l.o (by rw[<- b];exact a2),<- b]at f
  replace g:=hid g;replace b:=hid b;clear B;refine wk ?_;refine ak (λn T' L'=>∃(k:Nat) (c':Int) (Y:List Blk),n=r.length-k/\k<=r.length/\k<=8/\Hid (c'=c+(S8 (r.take k):Nat)/\0<=c'/\c'<=40000*i+5000*k)/\Hid (dW (r.take k) (r.drop k)=dW [] r/\∀a∈r.take k,a.1.length<=32)/\T'=[(23,.int .i64 (k:Int)),(22,.int .i64 r.length),(21,am r),(6,am r),(11,.int .i64 (i:Int)),(10,.int .i64 d.length),(9,.sl (d.map am) d.length cap),(4,.int .i64 c'),(0,.sl (d.map am) d.length cap)]/\L'=L++(X++Y)) ass ⟨0,c,[],rfl,ao2 _,aso,hid ⟨by simp[S8],by have:=hc.o;omega,by have:=hc.o;omega⟩,hid ⟨rfl,asp⟩,rfl,asp⟩ ?_;rintro _ _ _ ⟨k,c',Y,rfl,hk,a5,Z,v,rfl,rfl⟩;by_cases m:k<r.length
  .have g3:(k:Int)<(r.length:Int):=aso;have g4:=aoV k aso;have e3:=gS m;have e4:k*2+2<=(bd r).length:=(by rw[dm];omega);obtain⟨⟨ty,P⟩,A⟩:∃a,r.getD k ([],[])=a:=⟨_,rfl⟩;have an:(ty,P)∈r:=(by rw[<- A];simp[m]);have al:r.drop k=(ty,P)::r.drop (k+1):=(by rw[apw m,<- A];simp[m]);have w:r.take (k+1)=r.take k++[(ty,P)]:=(by rw[aph m,<- A];simp[m]);rw[A]at e3;simp only[pu]at e3;have O:=G.o _ an;simp only at O;obtain⟨t,M⟩:=v.o;rw[al,dW]at t;have U:(r.take k).length=k:=(by simp;omega);rw[U]at t;clear al A v an;have e5:(bd r).take (k*2)=bd (r.take k):=WM;have g5:(k:Int)<=(r.length:Int):=aso;replace t:=hid t;replace M:=hid M;replace w:=hid w;have e6:=hid U;clear U
   repeat' first
    |refine bH ?_
    | (first|refine bv asq ?_|refine aP asq ?_|refine aS ?_|refine cT ?_|refine bJ (fun _=>?_)|refine aH ?_|refine bz ?_)
      refine sm ?_
    | (first|refine bp asq ?_|refine bm ?_|refine aR ?_|refine bw ?_|refine bP (aG ?_))
      refine sl ?_
    |exact bL
    |first|apply bM|apply bq|apply bN|apply br|apply bO|apply bu
    |refine aV ?_
    |refine aQ ?_
    |first|refine aT rfl ?_|refine aU rfl ?_|refine aB rfl ?_ ?_|refine aX rfl (λ_=>?_) (λ_=>?_)|refine aW rfl (λ_=>?_) (λ_=>?_)
    |((first|refine aA (λ_=>?_) (λ_=>?_)|refine aE (λ_=>?_) (λ_=>?_))<;>try refine sm ?_)
    |refine And.intro trivial ?_
    |refine And.intro aso ?_
    |refine be rfl (λ_=>?_) (λ_=>?_)
    |refine And.intro ?_ ?_
   rename_i h8;have f:=hid (g.o 9 (by rw[<- t.o,if_pos aso]) (by decide));exact ac rfl f.o;rename_i h8;have q:=t.o;rw[if_neg aso]at q;replace q:=hid q;refine acY O ?_;cases hty:jE ty with
   | false =>
     have f:=hid (g.o 20 (by rw[<- q.o,if_pos hty]) (by decide));clear q;refine asw ?_;exact ac rfl f.o
   | true =>
     have u:=q.o;rw[if_neg (by rw[hty];simp)]at u;replace u:=hid u;have ap:=wU hty;clear q;refine asw ?_;refine aM (alc e6.o aso M.o ap ⟨rfl,rfl⟩) ?_;cases hha:lX (r.take k) ty with
     | true =>
       have f:=hid (g.o 21 (by rw[<- u.o,if_pos hha]) (by decide));refine asw ?_;exact ac rfl f.o
     | false =>
       have F:=u.o;rw[if_neg (by rw[hha];simp),<- w.o]at F;replace F:=hid F;clear u;obtain⟨z,hz⟩:∃z:Int,(if(5000:Int)<(P.length:Int)then 5000 else(P.length:Int))=z:=⟨_,rfl⟩;have W:z=((min P.length 5000:Nat):Int):=(by rw[<- hz];split<;>omega);have a6:IntKind.i64.wrap (c'+z)=c'+z:=by have:=Z.o;exact ae aso aso
       replace W:=hid W;refine asw ?_;refine ast aso asr ⟨k+1,c'+z,Y++[.cells [.str ty,.str P]],rfl,m,aso,hid ?_,hid ⟨F.o,λa A=>?_⟩,rfl,asp⟩
       .have:=Z.o;have e:S8 (r.take (k+1))=S8 (r.take k)+min P.length 5000:=(by rw[w.o];simp[S8]);have:=W.o;omega
       rw[w.o]at A;rcases ao5.1 A with h|h
       .exact M.o a h
       .rw[apr.1 h];exact ap
  have S:k=r.length:=aso;subst S;have g3:¬(r.length:Int)<(r.length:Int):=aso;have hz:=v.o.1;rw[apM,dW]at hz;have y:=b.o;rw[<- hz]at y;simp only[ne_eq,not_true_eq_false,if_false]at y;replace y:=hid y;have E:=Z.o;rw[apg]at E;replace E:=hid E;clear hz;refine wk ?_;refine ast aso ass ⟨i+1,c',X++Y,rfl,p,aso,hid ?_,hid y.o,rfl,rfl⟩;have e:XO (d.take (i+1))=XO (d.take i)+S8 r:=(by rw[V.o];simp[XO]);have:=E.o;have:=hc.o;omega
 have S:i=d.length:=aso;subst S;have g1:¬(d.length:Int)<(d.length:Int):=aso;have s:=he.o;rw[apM,jJ]at s;have C:=hc.o.1;rw[apg]at C;have j:=hR.o;rw[prS,if_neg (by rw[<- s];simp)]at j;have Q:=akL d;by_cases x:4096<XO d;have k1:(4096:Int)<c:=aso;have f:=h.o;rw[<- j]at f;have e:(if JD d=true then(([]:List UInt8),(5:Int))else if 4096<(bj false d).length then([],5)else(bj false d,0))=([],5):=by split;rfl;rw[if_pos aso]
 rw[e]at f;replace f:=hid f;clear x Q C e j s;refine wk ?_;exact ac rfl f.o;have k1:¬(4096:Int)<c:=aso;have H:=aiz (d:=d) aso;obtain⟨a4,J⟩:=Yz d 0 s.symm aso;rw[ajj H,if_neg asp]at j;replace H:=hid H;replace J:=hid J;have ad:=hid (show ∀r∈d,r.length<=1000/\∀a∈r,a.1.length<=10000/\a.2.length<=10000 from λr T=>⟨by have:=(J.o r T).1;omega,λa A=>⟨by have:=(J.o r T).2 a A;omega,by have:=H.o r T a A;omega⟩⟩);by_cases D:4096<(bj false d).length;have k2:(4096:Int)<((bj false d).length:Int):=aso;have f:=h.o;rw[<- j,if_pos D]at f;replace f:=hid f;clear x Q C j s D;have kk1:=@asv _ _ _ _ (Yq (cap:=cap) aso ad.o);refine wk ?_;exact ac rfl f.o;have k2:¬(4096:Int)<((bj false d).length:Int):=aso;have f:=h.o;rw[<- j,if_neg D]at f;replace f:=hid f;clear x Q C j s D;have kk1:=@asv _ _ _ _ (Yq (cap:=cap) aso ad.o);refine wk ?_;exact ac rfl f.o
def Ec(a:Ava):Ava:=(aj a.1,b9 a.2)
abbrev EO(a:Ava):List UInt8:=avT false a
def EH(l:Rdn)(x:Ava):Nat->Nat
 |0=>0
 |n+1=>if EO x<EO (l.getD n ([],[]))then EH l x n else n+1
def NA(l:Rdn)(x:Ava):Rdn:=l.take (EH l x l.length)++[x]++l.drop (EH l x l.length)
def iL(r:Rdn):Rdn:=r.foldl (λl a=>NA l (Ec a)) []
def hG(d:List Rdn):List Rdn:=d.map iL
theorem af1(l:Rdn)(x:Ava):∀n,EH l x n<=n
 |0=>ao0 _
 |n+1=>by have:=af1 l x n;unfold EH;split<;>omega
theorem adF(l:Rdn)(x:Ava):(NA l x).length=l.length+1:=by simp[NA];omega
theorem adb(h:k<r.length):iL (r.take (k+1))=NA (iL (r.take k)) (Ec (r.getD k ([],[]))):=by unfold iL;rw[aph h,arn];simp[h]
theorem Zz(r:Rdn):∀l:Rdn,(r.foldl (λl a=>NA l (Ec a)) l).length=l.length+r.length:=by
 induction r with
 |nil=>simp
 |cons a r ih=>intro l;rw[ap0,ih,adF];simp;omega
theorem tt(r:Rdn):(iL r).length=r.length:=by simp[iL,Zz]
theorem ahL  :(bd r).drop (k*2)=bd (r.drop k):=by
 induction r generalizing k with
 |nil=>simp[bd]
 | cons a r ih =>
   cases k with
   |zero=>simp[bd]
   | succ k =>
     have:=@ih k;simp only[bd]at this;rw[show(k+1)*2=k*2+1+1 by omega];simp[bd,pu,this]
theorem abC(r q:Rdn):bd (r++q)=bd r++bd q:=by simp[bd]
theorem af2(l:Rdn)(x:Ava):∀(n j:Nat),EH l x n<=j->j<n->EO x<EO (l.getD j ([],[]))
 |0,_,_,h=>aso
 | n+1,j,h1,h2=>by
   unfold EH at h1;split at h1
   .rename_i hk;rcases apt j n with e|e
    .exact af2 l x n j h1 e
    grind
   omega
theorem af3(l:Rdn)(x:Ava):∀n,EH l x n=0\/¬EO x<EO (l.getD (EH l x n-1) ([],[]))
 |0=>.inl rfl
 | n+1=>by
   unfold EH;split
   .exact af3 l x n
   simp_all
def abE(l:Rdn):Prop:=l.Pairwise λa b=>EO a<=EO b
theorem ae2{l:Rdn}{x:Ava}(s:abE l):abE (NA l x):=by
 have g:=af2 l x l.length;have d:=af3 l x l.length;have k:=af1 l x l.length;unfold NA;obtain⟨p,v⟩:=aoT (EH l x l.length);rw[v]at g d k⊢;have m:abE (l.take p++l.drop p):=by rw[aqy];exact s
 obtain⟨w,u,t⟩:=asf.1 m;have j:∀a∈l.take p,EO a<=EO x:=λa j=>by
  rcases d with e|e;simp_all;have h:p-1<l.length:=by grind
  refine List.le_trans ?_ (aq8.1 e);obtain⟨i,r,rfl⟩:=apV.1 j;rw[arF];have o:l.getD (p-1) ([],[])=l[p-1]:=(by simp[h]);rw[o];rcases apt i (p-1)with q|q;exact(aqb.1 s) i (p-1) aso h q
  grind
 have n:∀b∈l.drop p,EO x<=EO b:=λb n=>by obtain⟨i,r,rfl⟩:=apV.1 n;simp only[aqt]at r;rw[ar0];have:=g (p+i) aso aso;have o:l.getD (p+i) ([],[])=l[p+i]:=(by simp[show p+i<l.length by omega]);rw[o]at this;exact List.le_of_lt this
 unfold abE;rw[apc,asf];refine⟨w,?_,?_⟩;simp only[arv,aqs];exact⟨n,u⟩;intro a f b c;simp only[arv,apn]at c;rcases c with rfl|c;exact j a f;exact t a f b c
theorem adE(l:Rdn)(x:Ava):(NA l x).Perm (x::l):=by unfold NA;rw[apc];refine(List.perm_middle (l₁:=l.take _) (l₂:=l.drop _)).trans ?_;simp
theorem VG:∀(r l:Rdn),abE l->abE (r.foldl (λl a=>NA l (Ec a)) l)/\(r.foldl (λl a=>NA l (Ec a)) l).Perm (l++r.map Ec)
 |[],l,h=>by simpa using h
 | a::r,l,h=>by
   obtain⟨b,c⟩:=VG r (NA l (Ec a)) (ae2 h);refine⟨b,c.trans ?_⟩;refine((adE l (Ec a)).append_right _).trans ?_
   grind
theorem al3(a:Ava):avT true a=EO (Ec a):=by simp[avT,Ec]
theorem aeK(r:Rdn):(iL r).map EO=fE (r.map (avT true)):=by
 obtain⟨e,d⟩:=VG r [] List.Pairwise.nil;refine asg (le:=λx y=>x<=y) (λa b _ _=>arZ) ?_ ?_ ?_;rw[arX];exact e;have:=ar1 (le:=λx y:List UInt8=>decide (x<=y)) (λa b c e d=>by
  simp only[decide_eq_true_eq]at *;exact List.le_trans e d) (λa b=>by
  simp only[apN,decide_eq_true_eq];exact List.le_total a b) (r.map (avT true))
 exact this.imp λh=>by simpa using h
 refine(d.map EO).trans ?_;refine List.Perm.trans ?_ (aqG _ _).symm;rw[apx,apq];rfl
theorem ag4(r:Rdn):dx false (iL r)=dx true r:=by have:=aeK r;simp only[dx,apj,if_false,if_true];simp[*]
theorem EI(d:List Rdn):bj false (hG d)=bj true d:=by unfold bj hG;rw[apq];rw[show(dx false∘iL)=dx true from funext ag4]
theorem alz{p:Ava->Prop}{l:Rdn}{x:Ava}(h:∀a∈l,p a)(c:p x):∀a∈NA l x,p a:=λa b=>by rcases apn.1 ((adE l x).mem_iff.1 b)with rfl|d;omega;simp[*]
theorem aae:∀r:Rdn,(bd r).all AV.one=true
 |[]=>rfl
 |a::r=>by have:=aae r;simp only[bd]at this;simp[bd,pu,AV.one,this]
theorem agG{xs:List AV}{a b:AV}(h:(xs.drop i).take 2=[a,b]):xs.getD i .undef=a/\xs.getD (i+1) .undef=b:=by have c:=congrArg (·[0]?) h;have d:=congrArg (·[1]?) h;simp[List.getElem?_take,apY]at c d;simp[apo,c,d]
theorem acZ{d:List Rdn}{cap:Option Nat}(hn:d.length<=1000)(hr:∀r∈d,r.length<=1000/\∀a∈r,a.1.length<=10000/\a.2.length<=10000){L:List Blk}{K:aoY}(h:K (.sl ((hG d).map am) d.length none) L):
  aoX 90 [.sl (d.map am) d.length cap] L K:=by
 replace h:=hid h;have a9:=hid (λk=>@mY d k);replace hr:=hid hr;refine aoW Wx ?_;refine bR (l:=[]) (n:=0) 3 1 rfl (aps 1).symm ?_;refine ak (λn T' L'=>∃(i:Nat) (out:List Rdn) (Z:List Blk),n=d.length-i/\i<=d.length/\Hid (out=(d.take i).map iL)/\L'[L.length]?=some (.spare i 1)/\T'=[(14,.int .i64 (i:Int)),(13,.int .i64 d.length),(12,.sl (d.map am) d.length cap),(3,.gsl (out.map am) i L.length 1)]/\L'=L++Z) ass ⟨0,[],[.spare 0 1],rfl,ao2 _,hid rfl,asp,rfl,rfl⟩ ?_;rintro _ _ _ ⟨i,out,X,rfl,hi,E,U,rfl,rfl⟩;by_cases y:i<d.length
 .have g1:(i:Int)<(d.length:Int):=aso;have g2:=aoV i aso;have e2:=a9.o i y;have a3:d.getD i []∈d:=(by rw[apo,ao8 y];exact apZ _);have al:=hr.o _ a3;obtain⟨r,ai⟩:=aoT (d.getD i []);have ad:d.take (i+1)=d.take i++[r]:=(by rw[aph y,<- ai];simp[y]);rw[ai]at e2 al;clear ai a3;obtain⟨bb,x⟩:=al;replace x:=hid x;replace ad:=hid ad;refine wk ?_;refine ak (λn T' L'=>∃(k:Nat) (l:Rdn) (v:AV) (Z:List Blk),n=r.length-k/\k<=r.length/\Hid (l=iL (r.take k)/\anx L.length l v L'/\∀a∈l,a.1.length<=10000/\a.2.length<=10000)/\L'[L.length]?=some (.spare i 1)/\X.length<=Z.length/\T'=[(20,.int .i64 (k:Int)),(19,.int .i64 r.length),(18,am r),(6,v),(14,.int .i64 (i:Int)),(13,.int .i64 d.length),(12,.sl (d.map am) d.length cap),(3,.gsl (out.map am) i L.length 1)]/\L'=L++Z) (CutS (b:=by have:=(aoZ.1 U).1;simp at this⊢)) ⟨0,[],_,X,rfl,ao2 _,hid ⟨rfl,.inl ⟨rfl,rfl,rfl⟩,asp⟩,U,ao0 _,rfl,rfl⟩ ?_;clear U;rintro _ _ _ ⟨k,l,v,X1,rfl,hk,hI,U,a4,rfl,rfl⟩;obtain⟨hl,hv,w⟩:=hI.o;clear hI;have hB:L.length<(L++X1).length:=(aoZ.1 U).1;refine acI 6 2 L.length rfl hB hv λp Y bn N=>?_
  rw[apc]at N⊢;have B:(L++(X1++Y))[L.length]?=some (.spare i 1):=(by rw[<- apc,ao4 hB];exact U);have g:X.length<=(X1++Y).length:=(by simp;omega);generalize X1++Y=Z at N B g⊢;clear U hB hv a4 X1 Y;replace g:=hid g;have m:l.length=k:=(by rw[hl,tt];simp;omega);rw[m]at N⊢;have R:=(aoZ.1 N).1;have I:=(aoZ.1 B).1;rw[apd]at R I;replace w:=hid w;replace hl:=hid hl;replace R:=hid R;replace I:=hid I;by_cases H:k<r.length
  .have g3:(k:Int)<(r.length:Int):=aso;have g4:=aoV k aso;have e3:=gS H;have e4:k*2+2<=(bd r).length:=(by rw[dm];omega);obtain⟨⟨ty,va⟩,ha⟩:∃a,r.getD k ([],[])=a:=⟨_,rfl⟩;have av:(ty,va)∈r:=(by rw[<- ha];simp[H]);have j:=adb H;rw[ha]at e3 j;simp only[pu]at e3;have a8:=x.o _ av;simp only at a8;have u:(va.length:Int)<=100000:=aso;have t:(ty.length:Int)<=100000:=aso;obtain⟨c,an⟩:=aoT (aj ty);obtain⟨f,ar⟩:=aoT (b9 va);have a':c.length<=10000:=(by rw[<- an];simp[aj];omega);have a2:f.length<=10000:=(by rw[<- ar];have:=Eb va;omega);have O:Ec (ty,va)=(c,f):=(by simp[Ec,an,ar]);rw[O,<- hl.o]at j;replace j:=hid j;clear ha av O
   iterate 24 first
    |refine bH ?_
    | (first|refine bv asq ?_|refine aP asq ?_|refine aS ?_|refine cT ?_|refine bJ (fun _=>?_)|refine aH ?_|refine bz ?_|refine nq t ?_|refine EE u ?_|refine bg (nq t ⟨rfl,rfl⟩) (nq t ⟨rfl,rfl⟩) ?_|refine bg (EE u ⟨rfl,rfl⟩) (EE u ⟨rfl,rfl⟩) ?_|refine aM (nq t ⟨rfl,rfl⟩) ?_|refine aM (EE u ⟨rfl,rfl⟩) ?_)
      simp(config:={maxSteps:=2000000}) only[Kon,push_cast,reduceIte,Nat.reduceEqDiff,Nat.reduceAdd,Nat.reduceMul,Nat.reduceSub,Nat.reduceLT,Nat.reduceLeDiff,Int.reduceLT,Int.reduceLE,Int.reduceAdd,Int.reduceSub,Int.reduceNeg,Int.reduceToNat,Int.reduceEq,reduceCtorEq, *]
    | (first|refine bp asq ?_|refine bm ?_|refine aR ?_|refine bw ?_|refine bP (aG ?_))
      simp only[push_cast,reduceIte,Nat.reduceEqDiff,Nat.reduceAdd,Nat.reduceMul,Nat.reduceSub,Nat.reduceLT,Nat.reduceLeDiff,Int.reduceLT,Int.reduceLE,Int.reduceAdd,Int.reduceSub,Int.reduceNeg,Int.reduceToNat,Int.reduceEq,reduceCtorEq, *]
    |exact bL
    |first|apply bM|apply bq|apply bN|apply br|apply bO|apply bu
    |refine aV ?_
    |refine aQ ?_
    |first|refine aT rfl ?_|refine aU rfl ?_|refine aB rfl ?_ ?_|refine aX rfl (λ_=>?_) (λ_=>?_)|refine aW rfl (λ_=>?_) (λ_=>?_)
    |((first|refine aA (λ_=>?_) (λ_=>?_)|refine aE (λ_=>?_) (λ_=>?_))<;>try simp(config:={maxSteps:=2000000}) only[Kon,push_cast,reduceIte,Nat.reduceEqDiff,Nat.reduceAdd,Nat.reduceMul,Nat.reduceSub,Nat.reduceLT,Nat.reduceLeDiff,Int.reduceLT,Int.reduceLE,Int.reduceAdd,Int.reduceSub,Int.reduceNeg,Int.reduceToNat,Int.reduceEq,reduceCtorEq, *])
    |refine And.intro trivial ?_
    |refine And.intro aso ?_
    |refine be rfl (λ_=>?_) (λ_=>?_)
    |refine And.intro ?_ ?_
   have a6:l.getD k ([],[])=([],[]):=(by simp[m]);obtain⟨V,a0⟩:=aoT (gU f);have J:EO (c,f)=c++61::V:=(by simp[avT,a0]);have a_:V.length<=30000:=(by rw[<- a0];have:=N5 f;omega);have C:f.length<=100000:=aso;replace J:=hid J;clear a6;refine Oo (λT2 L2=>∃z:Nat,z<=k/\Hid (z=EH l (c,f) k)/\T2=[(10,.int .i64 (z:Int)),(9,.ptr (L.length+(Z.length+1)) 0),(6,.gsl (bd l) k p 2),(20,.int .i64 (k:Int)),(19,.int .i64 r.length),(18,am r),(14,.int .i64 (i:Int)),(13,.int .i64 d.length),(12,.sl (d.map am) d.length cap),(3,.gsl (out.map am) i L.length 1)]/\L2=L++(Z++[.cells [.str ty,.str va],.cells [.str c,.str f]])) ?_ ?_;refine wk ?_;refine ak (λn T' L'=>∃q:Nat,q=n/\q<=k/\Hid (EH l (c,f) q=EH l (c,f) k)/\T'=[(10,.int .i64 (q:Int)),(9,.ptr (L.length+(Z.length+1)) 0),(6,.gsl (bd l) k p 2),(20,.int .i64 (k:Int)),(19,.int .i64 r.length),(18,am r),(14,.int .i64 (i:Int)),(13,.int .i64 d.length),(12,.sl (d.map am) d.length cap),(3,.gsl (out.map am) i L.length 1)]/\L'=L++(Z++[.cells [.str ty,.str va],.cells [.str c,.str f]])) ass ⟨k,rfl,ao0 _,hid rfl,rfl,rfl⟩ ?_;rintro _ _ _ ⟨q,rfl,bl,hq,rfl,rfl⟩;rcases q with _|q;have h0:=hid hq.o.symm;have k0:¬(0:Int)<((0:Nat):Int):=aso;have kk1:=@asv _ _ _ _ (mW C);refine wk ?_;exact jO _ _ asr ⟨0,aso,hid h0.o.symm,rfl,rfl⟩;have k0:(0:Int)<((q+1:Nat):Int):=aso;have k1:IntKind.i64.wrap (((q+1:Nat):Int)-1)=(q:Int):=(by rw[ae aso aso];omega);have k4:(q:Int)<(k:Int):=aso;have e5:=gS (r:=l) (k:=q) aso;have e6:q*2+2<=(bd l).length:=by rw[dm];omega
   obtain⟨⟨Q,v1⟩,M⟩:∃a,l.getD q ([],[])=a:=⟨_,rfl⟩;rw[M]at e5;simp only[pu]at e5;obtain⟨e7,e8⟩:=agG e5;obtain⟨w1,a1⟩:=aoT (gU v1);have a5:=w.o (Q,v1) (by rw[<- M];simp[show q<l.length by omega]);simp only at a5;have P:v1.length<=100000:=aso;have bi:w1.length<=30000:=(by rw[<- a1];have:=N5 v1;omega);have G:EO (l.getD q ([],[]))=Q++61::w1:=(by rw[M];simp[avT,a1]);have c1:((Q.length+1:Nat):Int)<=9223372036854775807:=aso;have c2:((Q.length+1+w1.length:Nat):Int)<=9223372036854775807:=aso;have c3:((c.length+1:Nat):Int)<=9223372036854775807:=aso;have c4:((c.length+1+V.length:Nat):Int)<=9223372036854775807:=aso;simp only[Int.natCast_add,Int.cast_ofNat_Int]at c1 c2 c3 c4;replace G:=hid G;simp only[Int.natCast_add,Int.cast_ofNat_Int]at k0 k1;have ap:=hid hq.o;clear hq M;by_cases F:EO (c,f)<EO (l.getD q ([],[]));have hb:(Op.bytesLess (Q++61::w1) (c++61::V) ||decide (Q++61::w1=c++61::V))=false:=by rw[J.o,G.o]at F;rw[bytesLess_eq];simp only[arm,decide_eq_false_iff_not];exact⟨λe=>aqH _ (List.lt_trans e F),λe=>by rw[e]at F;exact aqH _ F⟩
   have s:EH l (c,f) q=EH l (c,f) k:=(by rw[<- ap.o,EH,if_pos F]);replace s:=hid s;clear F;have kk1:=@asv _ _ _ _ (mW C);have kk2:=@asv _ _ _ _ (mW P);refine wk ?_;exact ast aso asr ⟨q,rfl,aso,s,rfl,rfl⟩;have hb:(Op.bytesLess (Q++61::w1) (c++61::V) ||decide (Q++61::w1=c++61::V))=true:=by rw[J.o,G.o]at F;rw[bytesLess_eq];simp only[apN,decide_eq_true_eq];have:=aq8.1 F;rcases List.le_iff_lt_or_eq.1 this with e|e;exact .inl e;exact .inr e
   have s:q+1=EH l (c,f) k:=(by rw[<- ap.o,EH,if_neg F]);replace s:=hid s;clear F;have kk1:=@asv _ _ _ _ (mW C);have kk2:=@asv _ _ _ _ (mW P);refine wk ?_;exact jO _ _ asr ⟨q+1,aso,s,rfl,rfl⟩;rintro _ _ ⟨z,bk,hz,rfl,rfl⟩ -;have z0:(0:Int)<=(z:Int):=aso;have z1:(z:Int)<=(k:Int):=aso;have s1:(bd l).take (z*2)=bd (l.take z):=WM;have s2:((bd l).drop (z*2)).take ((k-z)*2)=bd (l.drop z):=by rw[ahL,apA];rw[dm,aqt,m];omega
   have s3:AV.frzL (bd (l.take z))=bd (l.take z):=gR _;have s4:AV.frzL (bd (l.drop z))=bd (l.drop z):=gR _;have s5:(bd (l.take z)).length=z*2:=(by rw[dm,aqk];omega);have s6:(bd (l.drop z)).length=(k-z)*2:=(by rw[dm,aqt,m]);have s7:z+1+(k-z)=k+1:=aso;have s8:=aae (l.take z);have s9:=aae (l.drop z);have q1:z*32<=140737488355328:=aso;have q2:z<=140737488355328:=aso;have q3:(z+1)*32<=140737488355328:=aso;have q4:z+1<=140737488355328:=aso;have q5:(k+1)*32<=140737488355328:=aso;have q6:k+1<=140737488355328:=aso
   iterate 3 first
    |refine bH ?_
    | (first|refine bv asq ?_|refine aP asq ?_|refine aS ?_|refine cT ?_|refine bJ (fun _=>?_)|refine aH ?_|refine bz ?_)
      simp(config:={maxSteps:=2000000}) only[Kon,push_cast,reduceIte,Nat.reduceEqDiff,Nat.reduceAdd,Nat.reduceMul,Nat.reduceSub,Nat.reduceLT,Nat.reduceLeDiff,Int.reduceLT,Int.reduceLE,Int.reduceAdd,Int.reduceSub,Int.reduceNeg,Int.reduceToNat,Int.reduceEq,reduceCtorEq, *]
    | (first|refine bp asq ?_|refine bm ?_|refine aR ?_|refine bw ?_|refine bP (aG ?_))
      simp only[push_cast,reduceIte,Nat.reduceEqDiff,Nat.reduceAdd,Nat.reduceMul,Nat.reduceSub,Nat.reduceLT,Nat.reduceLeDiff,Int.reduceLT,Int.reduceLE,Int.reduceAdd,Int.reduceSub,Int.reduceNeg,Int.reduceToNat,Int.reduceEq,reduceCtorEq, *]
    |exact bL
    |first|apply bM|apply bq|apply bN|apply br|apply bO|apply bu
    |refine aV ?_
    |refine aQ ?_
    |first|refine aT rfl ?_|refine aU rfl ?_|refine aB rfl ?_ ?_|refine aX rfl (λ_=>?_) (λ_=>?_)|refine aW rfl (λ_=>?_) (λ_=>?_)
    |((first|refine aA (λ_=>?_) (λ_=>?_)|refine aE (λ_=>?_) (λ_=>?_))<;>try simp(config:={maxSteps:=2000000}) only[Kon,push_cast,reduceIte,Nat.reduceEqDiff,Nat.reduceAdd,Nat.reduceMul,Nat.reduceSub,Nat.reduceLT,Nat.reduceLeDiff,Int.reduceLT,Int.reduceLE,Int.reduceAdd,Int.reduceSub,Int.reduceNeg,Int.reduceToNat,Int.reduceEq,reduceCtorEq, *])
    |refine And.intro trivial ?_
    |refine And.intro aso ?_
    |refine be rfl (λ_=>?_) (λ_=>?_)
    |refine And.intro ?_ ?_
   refine bR (l:=[]) (n:=0) 11 2 rfl (aps 2).symm ?_;refine wk ?_;have S:bd (l.take z)++AV.str c::AV.str f::bd (l.drop z)=bd (NA l (c,f)):=by rw[NA,m,<- hz.o,abC,abC];simp[bd,pu]
   have D:(NA l (c,f)).length=k+1:=(by rw[adF,m]);rw[S];refine ast aso (CutL (b:=?_)) ⟨k+1,NA l (c,f),_,_,rfl,H,hid ⟨j.o.symm,.inr ⟨L.length+(Z.length+2),aso,by rw[D],?_⟩,alz w.o ⟨a',a2⟩⟩,?_,?_,rfl,rfl⟩;have:=g.o;simp;omega;rw[nu,nu,D];rfl;rw[<- apc,ao4 (aoZ.1 B).1];exact B;have:=g.o;simp;omega
  have T:k=r.length:=aso;subst T;have g3:¬(r.length:Int)<(r.length:Int):=aso;have q3:(i+1)*24<=140737488355328:=aso;have q4:i+1<=140737488355328:=aso;have e5:AV.frzL (bd l)=bd l:=gR _;have e6:out.map am++[AV.sl (bd l) r.length none]=(out++[l]).map am:=by rw[apz];simp[m]
  have e7:out++[l]=(d.take (i+1)).map iL:=by rw[ad.o,apz,<- E.o,hl.o,apg];rfl
  have s4:∀(W:List Blk) A,(L++W).set L.length A=L++W.set 0 A:=λW A=>by rw[apu _ _ (ao0 _),aqq]
  have f1:(L++Z.set 0 (.spare (i+1) 1))[L.length]?=some (.spare (i+1) 1):=by rw[<- s4,apB,if_pos rfl,if_pos (aoZ.1 B).1]
  replace e7:=hid e7;replace f1:=hid f1;replace e6:=hid e6;refine wk ?_;rw[e6.o];refine ast aso (CutL (b:=?_)) ⟨i+1,out++[l],_,rfl,y,e7,f1.o,rfl,rfl⟩;have:=I.o;simp;omega
 have T:i=d.length:=aso;subst T;have g1:¬(d.length:Int)<(d.length:Int):=aso;have e:=E.o;rw[apg]at e;have h':=h.o;rw[show(hG d)=out from e.symm]at h';replace h':=hid h';clear E e;refine wk ?_;refine aY (ac ?_ ?_);simp only[AV.frz,AV.frzL,bB,AV.refs,AV.refsL,fD,aq5];simp only[AV.frz,AV.frzL,bB];exact h'.o
theorem R8(d:List Rdn):(hG d).length=d.length:=by simp[hG]
theorem Y6(h:∀a∈r,a.1.length<=10000/\a.2.length<=10000):∀a∈iL r,a.1.length<=10000/\a.2.length<=10000:=λa d=>by have f:=(VG r [] List.Pairwise.nil).2;have c:=f.mem_iff.1 d;rw[apx]at c;obtain⟨b,e,rfl⟩:=ao6.1 c;obtain⟨j,i⟩:=h b e;have g:=Eb b.2;simp only[Ec,aj,apm];omega
theorem Tc(n:d.length<=1100000)(b:∀r∈d,r.length<=1100000/\∀a∈r,(a.1.length:Int)<=140737488351232)(h:K (kB (Sa d)) L):
  aoX 89 [.sl (d.map am) d.length cap] L K:=by
 unfold Sa kB at h;refine aoW Yc ?_;refine rM n b ?_;unfold kB;obtain⟨⟨ps,q⟩,j⟩:∃p,prS d=p:=⟨_,rfl⟩;rw[j]at h⊢;simp only at h⊢;by_cases m:q=0;subst m;obtain⟨s,i⟩:=Y4 (by rw[j]);rw[if_neg asp]at h;have e:∀r∈d,r.length<=1000/\∀a∈r,a.1.length<=10000/\a.2.length<=10000:=λr b=>⟨by have:=(i r b).1;omega,λa k=>⟨by have:=((i r b).2 a k).1;omega,by have:=((i r b).2 a k).2;omega⟩⟩
 have c:∀r∈hG d,r.length<=1000/\∀a∈r,a.1.length<=10000/\a.2.length<=10000:=λr b=>by obtain⟨l,g,rfl⟩:=ao6.1 b;exact⟨by rw[tt];exact(e l g).1,Y6 (e l g).2⟩
 have f:=hid (R8 d);rw[<- EI]at h;replace h:=hid h;replace e:=hid e;replace c:=hid c;clear j b i;refine sk ?_;have kk1:=@asv _ _ _ _ (acZ (cap:=cap) aso e.o);refine wk ?_;rw[<- f.o];refine Yq (by rw[f.o];omega) c.o ?_;refine asw ?_;exact aa h.o;rw[if_pos m]at h;replace h:=hid h;clear j b;refine asw ?_;exact aa h.o
theorem ak7(f:d.length<=1000000)(b:∀r∈d,r.length<=1000000/\∀a∈r,(a.1.length:Int)<=100000)(h:K (kB (Sa d)) L):
 aoX 89 [.sl (d.map am) d.length cap] L K:=Tc aso (λr c=>⟨by have:=(b r c).1;omega,λa e=>by have:=(b r c).2 a e;omega⟩) h
theorem Zb:∀(f:Nat) (out:List Rdn) (b:Rdn) (s:List UInt8),(∀a∈b,a.1.length<=32)->(∀r∈out,∀a∈r,a.1.length<=32)->∀r∈(tU f out b s).1,∀a∈r,a.1.length<=32
 |0,_,_,_,_,_=>by simp[tU]
 | f+1,out,b,s,h1,h2=>by
   rw[tU];split
   .simp
   split
   .simp
   split
   .simp
   rename_i g;have e:=wU (by simpa using g);have d:∀v,∀a∈b++[(_,v)],a.1.length<=32:=λv a i=>by
    rcases ao5.1 i with h|h
    .exact h1 a h
    .rw[apr.1 h];exact e
   have c:∀v,∀r∈out++[b++[(_,v)]],∀a∈r,a.1.length<=32:=λv r j=>by
    rcases ao5.1 j with h|h
    .exact h2 r h
    .rw[apr.1 h];exact d v
   split
   .simp
   split
   .simp
   split
   .simp
   split
   .exact c _
   split
   .exact Zb f _ _ _ asp (c _)
   .exact Zb f _ _ _ (d _) h2
theorem aiZ(s:List UInt8):∀r∈(dV s).1,∀a∈r,a.1.length<=32:=by unfold dV;split;simp;split;simp;exact Zb _ _ _ _ asp asp
theorem aiI(h:K (kB (adA s)) L):aoX 140 [.str s] L K:=by unfold adA at h;refine aoW Z4 ?_;refine aiF ?_;obtain⟨e,b⟩:=Oe s;have c:=aiZ s;obtain⟨⟨l,k⟩,g⟩:∃p,dV s=p:=⟨_,rfl⟩;rw[g]at h e b c⊢;simp only[aaw]at h e b c⊢;clear g;by_cases i:k=0;subst i;rw[if_neg asp]at h;replace h:=hid h;replace b:=hid b;replace c:=hid c;refine asw ?_;refine ak7 aso (λr f=>⟨by have:=b.o r f;omega,λa j=>by have:=c.o r f a j;omega⟩) ?_;have d:=h.o;unfold kB at d⊢;replace d:=hid d;refine asw ?_;exact aa d.o;rw[if_pos i]at h;unfold kB at h;replace h:=hid h;clear e b c;refine asw ?_;exact aa h.o
end Go.Proofs.YtdnfjhflkkpokaaGreatDoor.Av
