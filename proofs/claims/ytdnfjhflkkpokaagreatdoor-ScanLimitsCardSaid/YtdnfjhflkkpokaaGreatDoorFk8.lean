/- Joined texts of the walk, made small by a program. -/
import Derived.Test.YtdnfjhflkkpokaaGreatDoorFk4
import Derived.Test.YtdnfjhflkkpokaaGreatDoorRows
import Derived.KernelRfl
import Derived.Test.YtdnfjhflkkpokaaGreatDoorFk6
import Derived.Test.YtdnfjhflkkpokaaGreatDoorFk5
import Derived.Test.YtdnfjhflkkpokaaGreatDoorFk7
import Derived.Sort.Walk0
set_option linter.unusedSimpArgs false
set_option linter.unusedVariables false
set_option maxRecDepth 100000
namespace Go.Proofs.YtdnfjhflkkpokaaGreatDoor.Av
open Go
variable {s typ b:List UInt8}{cap:Option Nat}{n k i:Nat}{a c:UInt8}{r:Rdn}{d:List Rdn}
def Mu:LSO:=[Af 2]
def Mt:LSO:=[Aa 6 0,Aj 7 49 6,Aa 3 7]
def Mr:LSO:=[Aa 8 3,Ax 9 8,AL 10 9 1,Aa 11 10,.grp none 11 true
 [Ae 12 11 3,og 13 11 true (.len true (tm 12)),og 14 11 true (.bin .leq (tm 13) (iv 32))]
 15 (tm 14),Aa 4 15]
def Mq:LSO:=[Ac 5 0]
def Mp:LSO:=[Aa 16 5,Aa 17 3,Ax 18 17,Al 19 16 18,Aa 20 19,.grp none 20 true
 [Ae 21 20 4]
 22 (tm 21)]
def Mo:LSO:=[Aa 25 3,Aa 26 5,AK 27 25 26,
 o1 28 (.call 133 [(tm 27),(.av (.str [97,98,99,100,101,102,103,104,105,106,107,108,109,110,111,112,113,114,115,116,117,118,119,120,121,122]))]),Aa 29 28,.grp none 29 false
 [Ag 30 29 5,AC 31 29 30 0,Ag 32 29 31,.grp (some (29,false)) 32 true
 [Ae 33 32 3,Ae 34 32 5,Bl 35 32 33 34,og 36 32 true (.call 133 [(tm 35),(.av (.str [48,49,50,51,52,53,54,55,56,57,45]))])]
 37 (tm 36)]
 38 (tm 37),Aa 4 38]
def Mn:LSO:=[Aa 23 5,Ai 24 23 1,Aa 5 24]
def Mm:LSO:=[Aa 39 4,Aa 2 39]
def Fe:aK:=⟨40,(asI Mu [] (asI Mt C6 (asI Mr CB (.seq (asI Mq [] (asL 0 (.seq (asI Mp CB (asM 22 0)) (.seq (.block 1 (.sreg Mo CC)) (.sreg Mn C6))))) (asI Mm C4 .ret))))),[(.tmp 2)]⟩
attribute [push_cast] Mu Mt Mr Mq Mp Mo Mn Mm
theorem YC:asN 86=asO Fe:=asR
def UD:LSO:=[Af 4]
def UC:LSO:=[Ac 5 0]
def UB:LSO:=[Aa 6 5,Aa 7 1,Ax 8 7,Al 9 6 8]
def UA:LSO:=[Aa 12 1,Aa 13 5,AK 14 12 13,Aa 15 0,AF 16 14 15]
def Uz:LSO:=[A0 4]
def Uy:LSO:=[Aa 10 5,Ai 11 10 1,Aa 5 11]
def Ux:LSO:=[Af 4]
def S9:aK:=⟨17,(asI UD [] (.seq (asI UC [] (asL 0 (.seq (asI UB C7 (asM 9 0)) (.seq (.block 1 (asI UA CA (asK 16 (.sreg Uz [])))) (.sreg Uy C6))))) (asI Ux [] .ret))),[(.tmp 4)]⟩
attribute [push_cast] UD UC UB UA Uz Uy Ux
theorem aa8:asN 133=asO S9:=asR
def Q7:LSO:=[Af 4]
def Q6:LSO:=[Aa 7 0,Ah 8 7,Ac 9 0]
def Q5:LSO:=[Al 10 9 8]
def Q4:LSO:=[Am 11 2 7 9,Ar 12 2 11,Bn 6,Ap 2 6 12]
def Q3:LSO:=[Ad 13 0 6,Ab 14 1 13,Aj 15 49 14,Aa 16 1,Aj 17 49 16,AF 18 15 17]
def Q2:LSO:=[A0 4]
def Q1:LSO:=[Ai 19 9 1,Aa 9 19]
def Q0:LSO:=[Af 4]
def Ot:aK:=⟨20,(asI Q7 [] (.seq (asI Q6 [] (asL 0 (asI Q5 [] (.seq (asM 10 0) (.seq (.block 1 (asI Q4 C6 (asI Q3 CB (asK 18 (.sreg Q2 []))))) (.sreg Q1 C4)))))) (asI Q0 [] .ret))),[(.tmp 4)]⟩
attribute [push_cast] Q7 Q6 Q5 Q4 Q3 Q2 Q1 Q0
theorem aav:asN 87=asO Ot:=asR
def Ig:LSO:=[Ak 2,Ac 3 0]
def If:LSO:=[Aa 12 0,Ax 13 12,A8 14 13 4096]
def Ie:LSO:=[Ak 2,Ac 3 5]
def Ic:LSO:=[Ak 4]
def Ib:LSO:=[Ac 5 0]
def Ia:LSO:=[Aa 15 0,Ax 16 15,A8 17 16 0]
def H9:LSO:=[Ak 6]
def H8:LSO:=[Aa 18 4,Ah 19 18,An 20 19 32]
def H7:LSO:=[Ak 2,Ac 3 9]
def H6:LSO:=[Aa 21 6,Ah 22 21,An 23 22 8]
def Dw:LSO:=[Ak 2,Ac 3 9]
def Dv:LSO:=[Aa 24 5,Aa 7 24]
def Du:LSO:=[Aa 25 7,Aa 26 0,Ax 27 26,Al 28 25 27,Aa 29 28,.grp none 29 true
 [Ae 30 29 0,Ae 31 29 7,Bl 32 29 30 31,og 33 29 true (.bin .neq (tm 32) (.av (.int .u8 61)))]
 34 (tm 33)]
def Do:LSO:=[Aa 35 7,Ai 36 35 1,Aa 7 36]
def At:LSO:=[Aa 37 7,Aa 38 0,Ax 39 38,AF 40 37 39,Aa 41 40,.grp none 41 false
 [Ag 42 41 0,Ag 43 41 5,Ag 44 41 7,og 45 41 false (.slS (tm 42) (some (tm 43)) (some (tm 44))),AN 46 41 86 45,AZ 47 41 46]
 48 (tm 47)]
def z8:LSO:=[Ak 2,Ac 3 4]
def z7:LSO:=[Aa 49 0,Aa 50 5,Aa 51 7,Ck 52 49 50 51,o1 53 (.build [(.str []),(.str [])] [(0,(1,(tm 52)))]),Bn 8,Ap 2 8 53]
def z6:LSO:=[Aa 54 6,Ad 55 0 8,Ab 56 1 55,As 57 87 54 56]
def zZ:LSO:=[Ak 2,Ac 3 21]
def zY:LSO:=[Aa 59 0,Aa 60 7,Ai 61 60 1,As 62 219 59 61,Aa 58 62,Ao 63 58,Aq 64 58,Ba 65 58,Aa 9 63,Aa 10 64,Aa 11 65]
def zX:LSO:=[Aa 66 11,A7 67 66]
def zW:LSO:=[Ak 2,Ac 3 4]
def zV:LSO:=[Aa 68 9,Ad 69 1 8,Ap 1 69 68]
def zU:LSO:=[Aa 70 6,Ar 71 2 8,B9 72 71,BA 73 70 72,Aa 6 73]
def zT:LSO:=[Aa 74 10,Aa 5 74]
def zS:LSO:=[Aa 75 5,Aa 76 0,Ax 77 76,AF 78 75 77,Aa 79 78,.grp none 79 false
 [Ag 80 79 0,Ag 81 79 5,B3 82 79 80 81,og 83 79 false (.bin .eql (tm 82) (.av (.int .u8 44)))]
 84 (tm 83)]
def zR:LSO:=[Aa 85 5,Ai 86 85 1,Aa 5 86]
def zQ:LSO:=[Aa 87 4,Aa 88 6,Bm 89 88,Bj 90 87 89,Aa 4 90]
def zP:LSO:=[Aa 91 5,Aa 92 0,Ax 93 92,AF 94 91 93]
def zO:LSO:=[Aa 95 4,Aa 2 95,Ac 3 0]
def zN:LSO:=[Aa 96 5,Ai 97 96 1,Aa 5 97]
def zM:LSO:=[Ak 2,Ac 3 0]
def wD:aK:=⟨98,(asI Ig [] (.seq (asI If C6 (asK 14 (.sreg Ie []))) (asI Ic [] (asI Ib [] (.seq (asL 0 (.seq (asI Ia C6 (asM 17 0)) (.block 1 (asI H9 [] (.seq (asI H8 C6 (asK 20 (.sreg H7 []))) (.seq (asL 2 (.block 3 (.seq (asI H6 C6 (asK 23 (.sreg Dw []))) (asI Dv C4 (.seq (asL 4 (.seq (asI Du CB (asM 34 4)) (.block 5 (.sreg Do C6)))) (.seq (asI At CB (asK 48 (.sreg z8 []))) (asI z7 CB (.seq (asI z6 C7 (asK 57 (.sreg zZ []))) (asI zY [true,true,true,false,false,false,false,false,false,false,false] (.seq (asI zX C4 (asK 67 (.sreg zW []))) (asI zV CY (asI zU CA (asI zT C4 (.seq (asI zS CB (asJ 84 (.exit 2) .skip)) (.sreg zR C6))))))))))))))) (asI zQ CA (.seq (asI zP C7 (asK 94 (.sreg zO CD))) (.sreg zN C6))))))))) (asI zM [] .ret)))))),[(.tmp 2),(.tmp 3)]⟩
attribute [push_cast] Ig If Ie Ic Ib Ia H9 H8 H7 H6 Dw Dv Du Do At z8 z7 z6 zZ zY zX zW zV zU zT zS zR zQ zP zO zN zM
theorem W6:asN 188=asO wD:=asR
def Ht:LSO:=[Aw 4,Ac 5 0,Af 6]
def Hs:LSO:=[Ak 7]
def Hr:LSO:=[A0 8]
def Hq:LSO:=[Aa 13 1,Aa 14 0,Ax 15 14,Al 16 13 15,Aa 17 16,.grp none 17 true
 [Ae 18 17 0,Ae 19 17 1,Bl 20 17 18 19,og 21 17 true (.bin .neq (tm 20) (.av (.int .u8 44)))]
 22 (tm 21),Aa 23 22,.grp none 23 true
 [Ae 24 23 0,Ae 25 23 1,Bl 26 23 24 25,og 27 23 true (.bin .neq (tm 26) (.av (.int .u8 43)))]
 28 (tm 27)]
def Hp:LSO:=[Aa 29 0,Aa 30 1,AK 31 29 30,Aa 9 31]
def Ho:LSO:=[Aa 32 1,Ai 33 32 1,Aa 1 33]
def Hn:LSO:=[Aa 34 1,Aa 35 0,Ax 36 35,AF 37 34 36,Aa 38 37,.grp none 38 false
 [Ag 39 38 0,Ag 40 38 1,B3 41 38 39 40,og 42 38 false (.bin .eql (tm 41) (.av (.int .u8 44)))]
 43 (tm 42),Aa 44 43,.grp none 44 false
 [Ag 45 44 0,Ag 46 44 1,B3 47 44 45 46,og 48 44 false (.bin .eql (tm 47) (.av (.int .u8 43)))]
 49 (tm 48),Aa 10 49]
def Hm:LSO:=[Aa 50 9,o1 51 (.bin .eql (tm 50) (.av (.int .u8 92)))]
def Hl:LSO:=[Aa 52 1,Aa 53 0,Ax 54 53,Al 55 52 54,Aa 56 55,.grp none 56 true
 [Ae 57 56 0,Ae 58 56 1,Bl 59 56 57 58,og 60 56 true (.call 133 [(tm 59),(.av (.str [34,43,44,59,60,62,92,32,35,61]))])]
 61 (tm 60)]
def Hk:LSO:=[Aa 62 7,Aa 63 0,Aa 64 1,AK 65 63 64,Bd 66 65,AY 67 62 66,Aa 7 67]
def zh:LSO:=[Aa 68 1,Ai 69 68 1,Aa 1 69]
def zg:LSO:=[Aa 70 1,Ai 71 70 2,Aa 72 0,Ax 73 72,o1 74 (.bin .gtr (tm 71) (tm 73))]
def zf:LSO:=[Aw 4,Ac 5 0,Af 6]
def zd:LSO:=[Aa 76 0,Aa 77 1,Aa 78 1,Ai 79 78 2,Ck 80 76 77 79,Aj 81 237 80,Aa 75 81,Ao 82 75,Aq 83 75,Aa 11 82,Aa 12 83]
def zc:LSO:=[Aa 84 12,A7 85 84]
def zb:LSO:=[Aw 4,Ac 5 0,Af 6]
def za:LSO:=[Aa 86 7,Aa 87 11,BO 88 87 0,Bd 89 88,AY 90 86 89,Aa 7 90]
def y9:LSO:=[Aa 91 1,Ai 92 91 2,Aa 1 92]
def y8:LSO:=[Aa 93 9,BS 94 93,Aa 95 94,.grp none 95 false
 [Ag 96 95 9,og 97 95 false (.call 133 [(tm 96),(.av (.str [34,59,60,62]))])]
 98 (tm 97),Aa 99 98,.grp none 99 false
 [Ag 100 99 8,Ag 101 99 100,.grp (some (99,false)) 101 true
 [Ae 102 101 9,og 103 101 true (.call 133 [(tm 102),(.av (.str [32,35]))])]
 104 (tm 103)]
 105 (tm 104),Aa 106 105,.grp none 106 false
 [Ag 107 106 10,Ag 108 106 107,.grp (some (106,false)) 108 true
 [Ae 109 108 9,B4 110 108 109]
 111 (tm 110)]
 112 (tm 111)]
def yZ:LSO:=[Aw 4,Ac 5 0,Af 6]
def yY:LSO:=[Aa 113 7,Aa 114 9,Bd 115 114,AY 116 113 115,Aa 7 116]
def yX:LSO:=[Af 8]
def yW:LSO:=[Aa 117 7,Bi 118 117,Aa 119 1,Aa 4 118,Aa 5 119,A0 6]
def wz:aK:=⟨120,(asI Ht [] (asI Hs [] (asI Hr [] (.seq (asL 0 (.seq (asI Hq CE (asM 28 0)) (.block 1 (asI Hp C7 (asI Ho C6 (asI Hn CM (.seq (asI Hm C4 (asJ 51 (asI Hl CB (asJ 61 (asI Hk CC (.sreg zh C6)) (.seq (asI zg CA (asK 74 (.sreg zf []))) (asI zd Dn (.seq (asI zc C4 (asK 85 (.sreg zb []))) (asI za CB (.sreg y9 C6))))))) (.seq (asI y8 CE (asK 112 (.sreg yZ []))) (.sreg yY CA)))) (.sreg yX [])))))))) (asI yW CV .ret))))),[(.tmp 4),(.tmp 5),(.tmp 6)]⟩
attribute [push_cast] Ht Hs Hr Hq Hp Ho Hn Hm Hl Hk zh zg zf zd zc zb za y9 y8 yZ yY yX yW
theorem W3:asN 219=asO wz:=asR
def vK:LSO:=[Aw 2]
def vJ:LSO:=[Ak 3]
def vI:LSO:=[Ac 4 0]
def vH:LSO:=[Aa 6 4,Aa 7 0,Ax 8 7,Al 9 6 8]
def vG:LSO:=[Aa 12 0,Aa 13 4,AK 14 12 13,Aa 5 14]
def vF:LSO:=[Aa 15 5,BS 16 15]
def vE:LSO:=[Aa 17 3,o1 18 (.app 1 1 1 [(.int .u8 0)] (tm 17) (.av (.str [92,48,48]))),Aa 3 18]
def vD:LSO:=[Aa 19 5,o1 20 (.call 133 [(tm 19),(.av (.str [34,43,44,59,60,62,92]))]),Aa 21 20,.grp none 21 false
 [Ag 22 21 4,AH 23 21 22 0,Ag 24 21 23,.grp (some (21,false)) 24 true
 [Ae 25 24 5,og 26 24 true (.call 133 [(tm 25),(.av (.str [32,35]))])]
 27 (tm 26)]
 28 (tm 27),Aa 29 28,.grp none 29 false
 [Ag 30 29 4,og 31 29 false (.bin .add (tm 30) (iv 1)),Ag 32 29 0,Bt 33 29 32,BB 34 29 31 33,Ag 35 29 34,.grp (some (29,false)) 35 true
 [Ae 36 35 5,B4 37 35 36]
 38 (tm 37)]
 39 (tm 38)]
def vC:LSO:=[Aa 40 3,o1 41 (.bslice false 1 1 [(.int .u8 0)] [(0,(1,(.av (.int .u8 92))))]),AY 42 40 41,Aa 3 42]
def vB:LSO:=[Aa 43 3,Aa 44 5,Bd 45 44,AY 46 43 45,Aa 3 46]
def ta:LSO:=[Aa 10 4,Ai 11 10 1,Aa 4 11]
def sZ:LSO:=[Aa 47 3,Bi 48 47,Aa 2 48]
def pw:aK:=⟨49,(asI vK [] (asI vJ [] (.seq (asI vI [] (asL 0 (.seq (asI vH C7 (asM 9 0)) (.seq (.block 1 (asI vG C7 (.seq (asI vF C4 (asJ 16 (asI vE C6 (.exit 1)) .skip)) (.seq (asI vD CB (asJ 39 (.sreg vC C7) .skip)) (.sreg vB CA))))) (.sreg ta C6))))) (asI sZ C6 .ret)))),[(.tmp 2)]⟩
attribute [push_cast] vK vJ vI vH vG vF vE vD vC vB ta sZ
theorem S8:asN 134=asO pw:=asR
def Ml:LSO:=[Aw 2]
def Mk:LSO:=[Aw 3]
def Mj:LSO:=[Aa 8 0,Ah 9 8,Ac 10 0]
def Mi:LSO:=[Al 11 10 9]
def Mh:LSO:=[Aa 12 10,Am 13 1 8 10,Ab 14 1 13,Aa 4 12,Aa 5 14]
def Mg:LSO:=[Aa 15 4,A8 16 15 0]
def Mf:LSO:=[Aa 17 3,o1 18 (.bin .add (tm 17) (.av (.str [44]))),Aa 3 18]
def Me:LSO:=[Aa 19 5,Ah 20 19,Ac 21 0]
def Md:LSO:=[Al 22 21 20]
def Mc:LSO:=[Aa 23 21,Am 24 2 19 21,Ar 25 2 24,Bn 7,Aa 6 23,Ap 2 7 25]
def Hz:LSO:=[Aa 26 6,A8 27 26 0]
def Hy:LSO:=[Aa 28 3,o1 29 (.bin .add (tm 28) (.av (.str [43]))),Aa 3 29]
def Hx:LSO:=[Aa 30 3,Ad 31 0 7,Ab 32 1 31,AX 33 30 32,o1 34 (.bin .add (tm 33) (.av (.str [61]))),Ad 35 1 7,Ab 36 1 35,Aj 37 134 36,AX 38 34 37,Aa 3 38]
def Hw:LSO:=[Ai 39 21 1,Aa 21 39]
def Hv:LSO:=[Ai 40 10 1,Aa 10 40]
def Hu:LSO:=[Aa 41 3,Aa 2 41]
def Fd:aK:=⟨42,(asI Ml [] (asI Mk [] (.seq (asI Mj [] (asL 0 (asI Mi [] (.seq (asM 11 0) (.seq (.block 1 (asI Mh CF (.seq (asI Mg C4 (asJ 16 (.sreg Mf C6) .skip)) (asI Me [] (asL 2 (asI Md [] (.seq (asM 22 2) (.seq (.block 3 (asI Mc CF (.seq (asI Hz C4 (asJ 27 (.sreg Hy C6) .skip)) (.sdreg Hx [.pure,.pure,(.read 0 0),.pure,.pure,.pure,(.read 0 0),(.read 0 0)] CG)))) (.sreg Hw C4))))))))) (.sreg Hv C4)))))) (asI Hu C4 .ret)))),[(.tmp 2)]⟩
attribute [push_cast] Ml Mk Mj Mi Mh Mg Mf Me Md Mc Hz Hy Hx Hw Hv Hu
theorem YB:asN 88=asO Fd:=asR
def H5:LSO:=[Aw 2,Ac 3 0]
def H4:LSO:=[Ac 4 0]
def H3:LSO:=[Aa 9 0,Ah 10 9,Ac 11 0]
def H2:LSO:=[Al 12 11 10]
def H1:LSO:=[Aa 13 11,Am 14 1 9 11,Ab 15 1 14,Aa 5 13,Aa 6 15]
def H0:LSO:=[Aa 16 5,An 17 16 32]
def HZ:LSO:=[Aw 2,Ac 3 9]
def HY:LSO:=[Aa 18 6,Ah 19 18,An 20 19 0]
def HX:LSO:=[Aw 2,Ac 3 2]
def HW:LSO:=[Aa 21 6,Ah 22 21,Ac 23 0]
def zL:LSO:=[Al 24 23 22]
def zK:LSO:=[Aa 25 23,Am 26 2 21 23,Ar 27 2 26,Bn 8,Aa 7 25,Ap 2 8 27]
def zJ:LSO:=[Aa 28 7,An 29 28 8]
def zI:LSO:=[Aw 2,Ac 3 9]
def zH:LSO:=[Ad 30 0 8,Ab 31 1 30,Aj 32 86 31,A7 33 32]
def zG:LSO:=[Aw 2,Ac 3 20]
def zF:LSO:=[Aa 34 6,Aa 35 7,Cm 36 34 35,Ad 37 0 8,Ab 38 1 37,As 39 87 36 38]
def zE:LSO:=[Aw 2,Ac 3 21]
def zD:LSO:=[Aa 40 4,Ad 41 1 8,Ab 42 1 41,Ax 43 42,o1 44 (.minmax false [(tm 43),(iv 5000)]),AX 45 40 44,Aa 4 45]
def zC:LSO:=[Ai 46 23 1,Aa 23 46]
def zB:LSO:=[Ai 47 11 1,Aa 11 47]
def zA:LSO:=[Aa 48 4,A8 49 48 4096,Aa 50 49,.grp none 50 false
 [Ag 51 50 0,AN 52 50 88 51,Bt 53 50 52,AC 54 50 53 4096]
 55 (tm 54)]
def zy:LSO:=[Aw 2,Ac 3 5]
def zx:LSO:=[Aa 56 0,Aj 57 88 56,Aa 2 57,Ac 3 0]
def wC:aK:=⟨58,(asI H5 [] (asI H4 [] (.seq (asI H3 [] (asL 0 (asI H2 [] (.seq (asM 12 0) (.seq (.block 1 (asI H1 CF (.seq (asI H0 C4 (asK 17 (.sreg HZ []))) (.seq (asI HY C6 (asK 20 (.sreg HX []))) (asI HW [] (asL 2 (asI zL [] (.seq (asM 24 2) (.seq (.block 3 (asI zK CF (.seq (asI zJ C4 (asK 29 (.sreg zI []))) (.seq (asI zH C7 (asK 33 (.sreg zG []))) (.seq (.seq (.sdreg zF [.pure,.pure,(.read 0 0),.pure,(.read 0 0)] CB) (asK 39 (.sreg zE []))) (.sreg zD CC)))))) (.sreg zC C4)))))))))) (.sreg zB C4)))))) (.seq (asI zA C7 (asK 55 (.sreg zy []))) (asI zx CL .ret))))),[(.tmp 2),(.tmp 3)]⟩
attribute [push_cast] H5 H4 H3 H2 H1 H0 HZ HY HX HW zL zK zJ zI zH zG zF zE zD zC zB zA zy zx
theorem W5:asN 37=asO wC:=asR
def HJ:LSO:=[Ak 2]
def HI:LSO:=[Ak 3]
def HH:LSO:=[Aa 12 0,Ah 13 12,Ac 14 0]
def HG:LSO:=[Al 15 14 13]
def HF:LSO:=[Am 16 1 12 14,Ab 17 1 16,Aa 5 17]
def HE:LSO:=[Ak 6]
def HD:LSO:=[Aa 18 5,Ah 19 18,Ac 20 0]
def HC:LSO:=[Al 21 20 19]
def HB:LSO:=[Am 22 2 18 20,Ar 23 2 22,Bn 8,Ap 2 8 23]
def HA:List (aw×Kd):=
 [A9 24 0 8,AA 25 1 24 0 1,Bf 26 49 25 0 1,A9 27 1 8,AA 28 1 27 0 1,Bf 29 135 28 0 1,od 30 (.build [(.str []),(.str [])] [(0,(1,(tm 26))),(1,(1,(tm 29)))]) .pure,
 od 9 (.alloc [(.str []),(.str [])]) .eff]
def zi:List aw :=
 [⟨none,(.store 2 (tm 9) (tm 30)),none⟩]
def zw:LSO:=[Aa 31 6,Ah 32 31,Aa 10 32]
def zu:LSO:=[Aa 33 10,A8 34 33 0,Aa 35 34,.grp none 35 true
 [Ae 36 35 6,Ae 37 35 10,BT 38 35 37 1,Bg 39 35 2 36 38,A6 40 35 0 39,A5 41 35 1 40,og 42 35 true (.bin .add (tm 41) (.av (.str [61]))),Ae 43 35 6,Ae 44 35 10,BT 45 35 44 1,
 Bg 46 35 2 43 45,A6 47 35 1 46,A5 48 35 1 47,Bc 49 35 134 48,og 50 35 true (.bin .add (tm 42) (tm 49)),A6 51 35 0 9,A5 52 35 1 51,
 og 53 35 true (.bin .add (tm 52) (.av (.str [61]))),A6 54 35 1 9,A5 55 35 1 54,Bc 56 35 134 55,og 57 35 true (.bin .add (tm 53) (tm 56)),BY 58 35 50 57]
 59 (tm 58)]
def zt:LSO:=[Aa 60 10,Bb 61 60 1,Aa 10 61]
def zr:LSO:=[Ak 11]
def zq:LSO:=[Aa 62 11,Aa 63 6,Aa 64 10,Cm 65 63 64,BA 66 62 65,Aa 11 66]
def zp:LSO:=[Aa 67 11,Ar 68 2 9,B9 69 68,BA 70 67 69,Aa 11 70]
def zo:LSO:=[Aa 71 11,Aa 72 6,Aa 73 10,o1 74 (.slV 2 (tm 72) (some (tm 73)) none none),BA 75 71 74,Aa 11 75]
def zn:LSO:=[Aa 76 11,Aa 6 76]
def zm:LSO:=[Ai 77 20 1,Aa 20 77]
def zl:LSO:=[Aa 78 3,Aa 79 6,Bm 80 79,Bj 81 78 80,Aa 3 81]
def zk:LSO:=[Ai 82 14 1,Aa 14 82]
def zj:LSO:=[Aa 83 3,Aa 2 83]
def wB:aK:=⟨84,(asI HJ [] (asI HI [] (.seq (asI HH [] (asL 0 (asI HG [] (.seq (asM 15 0) (.seq (.block 1 (asI HF C6 (asI HE [] (.seq (asI HD [] (asL 2 (asI HC [] (.seq (asM 21 2) (.seq (.block 3 (asI HB C6 (.seq (.dregM HA zi CE) (asI zw C6 (.seq (asL 4 (.seq (.seq (.sdreg zu [.pure,.pure,.pure,.pure,.pure,.pure,(.read 0 0),.pure,(.read 0 0),.pure,.pure,.pure,.pure,(.read 0 0),.pure,(.read 0 0),(.read 0 0),.pure,.pure,(.read 0 0),.pure,.pure,(.read 0 0),(.read 0 0),.pure] C7) (asM 59 4)) (.block 5 (.sreg zt C6)))) (asI zr [] (asI zq CB (asI zp CA (asI zo CB (.sreg zn C4)))))))))) (.sreg zm C4)))))) (.sreg zl CA))))) (.sreg zk C4)))))) (asI zj C4 .ret)))),[(.tmp 2)]⟩
attribute [push_cast] HJ HI HH HG HF HE HD HC HB HA zi zw zu zt zr zq zp zo zn zm zl zk zj
theorem W4:asN 90=asO wB:=asR
def MR:LSO:=[Aw 2,Ac 3 0]
def MQ:LSO:=[Aa 7 0,Aj 8 37 7,Aa 6 8,Ao 9 6,Aq 10 6,Aa 4 9,Aa 5 10]
def MP:LSO:=[Aa 11 5,AB 12 11 0]
def MO:LSO:=[Aa 13 5,Aw 2,Aa 3 13]
def MN:LSO:=[Aa 14 0,Aj 15 90 14,Aj 16 88 15,Aa 2 16,Ac 3 0]
def Fh:aK:=⟨17,(asI MR [] (asI MQ CC (.seq (asI MP C4 (asK 12 (.sreg MO CD))) (asI MN CF .ret)))),[(.tmp 2),(.tmp 3)]⟩
attribute [push_cast] MR MQ MP MO MN
theorem YF:asN 89=asO Fh:=asR
def Rc:LSO:=[Aw 2,Ac 3 0]
def Rb:LSO:=[Aa 7 0,Aj 8 188 7,Aa 6 8,Ao 9 6,Aq 10 6,Aa 4 9,Aa 5 10]
def Ra:LSO:=[Aa 11 5,AB 12 11 0]
def Q9:LSO:=[Aa 13 5,Aw 2,Aa 3 13]
def Q8:LSO:=[Aa 14 4,Aj 15 89 14,Ao 16 15,Aq 17 15,Aa 2 16,Aa 3 17]
def Ou:aK:=⟨18,(asI Rc [] (asI Rb CH (.seq (asI Ra C4 (asK 12 (.sreg Q9 CD))) (asI Q8 CP .ret)))),[(.tmp 2),(.tmp 3)]⟩
attribute [push_cast] Rc Rb Ra Q9 Q8
theorem aaw:asN 140=asO Ou:=asR
attribute [push_cast] Fe S9 Ot wz pw Fd wC wB Fh Ou
variable {L:List Blk}{K:apr}
set_option maxHeartbeats 8000000
set_option maxRecDepth 100000
theorem nP{l:List UInt8}{x:UInt8}(u:l.length<=1100000)(h:K (.bool (l.contains x)) L):
  apq 133 [.int .u8 x.toNat,.str l] L K:=by
 replace h:=hid h;refine apo aa8 ?_;refine aj (λn T' L'=>∃(i:Nat),n=l.length-i/\i<=l.length/\Hid (∀j,j<i->l.getD j 0≠x)/\T'=[(5,.int .i64 (i:Int)),(0,.int .u8 x.toNat),(1,.str l)]/\L=L') (CutS (b:=apt _)) ⟨0,rfl,apv _,hid asQ,rfl,rfl⟩ ?_;rintro _ _ _ ⟨i,rfl,w,d,rfl,rfl⟩;by_cases g:i<l.length;have s:(i:Int)<(l.length:Int):=asP;have y:=apn i asP;obtain⟨p,m⟩:=apl (l.getD i 0);by_cases a:p=x;have f:l.contains x=true:=by rw[aqW,<- a,<- m,apO,apD g];exact aqr _
 have c:=h.o;rw[f]at c;replace c:=hid c;clear f;subst a;refine wk ?_;exact aa c.o;have v:¬(p.toNat:Int)=(x.toNat:Int):=λe=>a ((bQ p x).1 e)
 have r:=hid m;refine wk ?_;refine asU asP (CutS (b:=apt _)) ⟨i+1,rfl,g,hid λj q=>?_,rfl,rfl⟩;rcases apV j i with e|e;exact d.o j e;have:j=i:=asP;subst this;rw[m];exact a;have k:i=l.length:=asP;subst k;have s:¬(l.length:Int)<(l.length:Int):=asP;have f:l.contains x=false:=by rw[<- aq7,aqW];intro t;obtain⟨j,q,e⟩:=aqn.1 t;exact d.o j q (by simp[q,e])
 have c:=h.o;rw[f]at c;replace c:=hid c;clear f;refine wk ?_;exact aa c.o
abbrev o3:List UInt8:=[97,98,99,100,101,102,103,104,105,106,107,108,109,110,111,112,113,114,115,116,117,118,119,120,121,122]
abbrev abV:List UInt8:=[48,49,50,51,52,53,54,55,56,57,45]
theorem alT:∀n:_root_.Fin 256,o3.contains (ga (UInt8.ofNat n.val))=o6 (n.val:Int)/\(o3.contains (ga (UInt8.ofNat n.val)) ||abV.contains (ga (UInt8.ofNat n.val)))=Ty (n.val:Int):=by decide +kernel
theorem acD(c:UInt8):o3.contains (ga c)=o6 (c.toNat:Int)/\(o3.contains (ga c) ||abV.contains (ga c))=Ty (c.toNat:Int):=by have:=alT ⟨c.toNat,c.toNat_lt⟩;simpa using this
def okC(j:Nat)(c:UInt8):Bool:=o3.contains (ga c) ||(decide (0<j)&&abV.contains (ga c))
theorem aiG(s:List UInt8):jG s=true↔(1<=s.length/\s.length<=32)/\∀j,j<s.length->okC j (s.getD j 0)=true:=by
 simp only[jG,apw,decide_eq_true_eq,apF];constructor;rintro⟨⟨⟨f,d⟩,a⟩,h4⟩;refine⟨⟨f,d⟩,λj b=>?_⟩;obtain⟨i,g⟩:=acD (s.getD j 0);by_cases l:j=0;subst l;rw[okC,i,a];rfl;have k:s.getD j 0∈s:=by simp[b]
 have:=h4 _ k;rw[<- g]at this;rw[okC,show decide (0<j)=true by simp;omega,ap0];exact this;rintro⟨⟨f,d⟩,a⟩;refine⟨⟨⟨f,d⟩,?_⟩,λc h=>?_⟩;have:=a 0 asP;rw[okC]at this;simp only[Nat.lt_irrefl,decide_false,aqg,arv]at this;rw[<- (acD _).1];exact this;obtain⟨j,b,rfl⟩:=aqn.1 h;have:=a j b;have e:s.getD j 0=s[j]:=by simp[b]
 rw[e,okC]at this;rw[<- (acD _).2];cases hl:o3.contains (ga s[j])with
 |true=>rfl
 | false =>
   rw[hl,aqG,apw]at this;rw[this.2];rfl
theorem adw(G:(s.length:Int)<=140737488351232)(h:K (.bool (jG s)) L):apq 86 [.str s] L K:=by
 replace h:=hid h;obtain⟨t,x⟩:=apl (ak s);have g:t.length=s.length:=by rw[<- x];simp[ak]
 have B:∀j,j<s.length->t.getD j 0=ga (s.getD j 0):=λj y=>by rw[<- x];simp[ak,y]
 replace g:=hid g;replace B:=hid B;have p:=hid (aiG s);refine apo YC ?_;refine cY G ?_;rw[x];refine asX ?_;refine aj (λn T' L'=>∃(i:Nat) (b:Bool),n=s.length+1-i/\i<=s.length/\Hid (b=true↔(1<=s.length/\s.length<=32)/\∀j,j<i->okC j (s.getD j 0)=true)/\T'=[(5,.int .i64 (i:Int)),(4,.bool b),(3,.str t)]/\L=L') (CutS (b:=apt _)) ⟨0,_,rfl,apv _,hid (by have:=g.o;simp;omega),rfl,rfl⟩ ?_;rintro _ _ _ ⟨i,b,rfl,H,w,rfl,rfl⟩;have l:=g.o;by_cases f:i<s.length
 .have g1:(i:Int)<(t.length:Int):=asP;have I:=apn i asP;have g3:=B.o i f;obtain⟨c,v⟩:=apl (s.getD i 0);rw[v]at g3;replace v:=hid v;clear l;cases b with
  | false =>
    have C:jG s=false:=by rw[<- aq7,p.o];intro⟨D,F⟩;have:=w.o.2 ⟨D,λj y=>F j asP⟩;cases this
    have k:=h.o;rw[C]at k;replace k:=hid k;clear C;refine wk ?_;exact aa k.o
  | true =>
    have a:okC i c=true↔((1<=s.length/\s.length<=32)/\∀j,j<i+1->okC j (s.getD j 0)=true):=by
     have r:=w.o.1 rfl;constructor
     .intro e;refine⟨r.1,λj y=>?_⟩;rcases apV j i with q|q
      .exact r.2 j q
      .have:j=i:=asP;subst this;rw[v.o];exact e
     .rintro⟨_,e⟩;have:=e i asP;rwa[v.o]at this
    replace a:=hid a;have d:okC i c=(o3.contains (ga c) ||(decide (0<i)&&abV.contains (ga c))):=rfl;replace d:=hid d;refine wk ?_;refine nP asQ ?_;cases hl:o3.contains (ga c)with
    | true =>
      have u:=hid (show okC i c=true by rw[d.o,hl];rfl);refine asX ?_;exact asU asP (CutL (b:=apt _)) ⟨i+1,true,rfl,f,hid (by rw[<- a.o,u.o]),rfl,rfl⟩
    | false =>
      by_cases A:i=0
      .have u:=hid (show okC i c=false by rw[d.o,hl,A];rfl);have E:¬(0:Int)<(i:Int):=asP;clear A;refine asX ?_;exact asU asP (CutL (b:=apt _)) ⟨i+1,false,rfl,f,hid (by rw[<- a.o,u.o]),rfl,rfl⟩
      .have u:=hid (show okC i c=abV.contains (ga c)by rw[d.o,hl,show decide (0<i)=true by simp;omega];simp);have E:(0:Int)<(i:Int):=asP;clear A;refine sk ?_
       repeat' first
        |refine bG ?_
        | (first|refine bw asR ?_|refine aN asR ?_|refine aQ ?_|refine cS ?_|refine bJ (fun _=>?_)|refine aF ?_|refine bA ?_)
          refine sm ?_
        | (first|refine bq asR ?_|refine bm ?_|refine aP ?_|refine bz ?_|refine bO (aE ?_))
          refine sl ?_
        |exact bK
        |first|apply bL|apply br|apply bM|apply bu|apply bN|apply bv
        |refine aT ?_
        |refine aO ?_
        |first|refine aR rfl ?_|refine aS rfl ?_|refine aB rfl ?_ ?_|refine aW rfl (λ_=>?_) (λ_=>?_)|refine aV rfl (λ_=>?_) (λ_=>?_)
        |((first|refine aA (λ_=>?_) (λ_=>?_)|refine aD (λ_=>?_) (λ_=>?_))<;>try refine sm ?_)
        |refine And.intro trivial ?_
        |refine And.intro asP ?_
        |refine bd rfl (λ_=>?_) (λ_=>?_)
        |refine And.intro ?_ ?_
       refine aM (nP asQ ⟨rfl,rfl⟩) ?_;refine sk ?_
       repeat' first
        |refine bG ?_
        | (first|refine bw asR ?_|refine aN asR ?_|refine aQ ?_|refine cS ?_|refine bJ (fun _=>?_)|refine aF ?_|refine bA ?_)
          refine sm ?_
        | (first|refine bq asR ?_|refine bm ?_|refine aP ?_|refine bz ?_|refine bO (aE ?_))
          refine sl ?_
        |exact bK
        |first|apply bL|apply br|apply bM|apply bu|apply bN|apply bv
        |refine aT ?_
        |refine aO ?_
        |first|refine aR rfl ?_|refine aS rfl ?_|refine aB rfl ?_ ?_|refine aW rfl (λ_=>?_) (λ_=>?_)|refine aV rfl (λ_=>?_) (λ_=>?_)
        |((first|refine aA (λ_=>?_) (λ_=>?_)|refine aD (λ_=>?_) (λ_=>?_))<;>try refine sm ?_)
        |refine And.intro trivial ?_
        |refine And.intro asP ?_
        |refine bd rfl (λ_=>?_) (λ_=>?_)
        |refine And.intro ?_ ?_
       exact asU asP (CutL (b:=apt _)) ⟨i+1,abV.contains (ga c),rfl,f,hid (by rw[<- a.o,u.o]),rfl,rfl⟩
 have z:i=s.length:=asP;subst z;have g1:¬(s.length:Int)<(t.length:Int):=asP;have m:b=jG s:=by have e:=w.o.trans p.o.symm;cases b<;>cases hs':jG s<;>simp_all
 have k:=h.o;rw[<- m]at k;replace k:=hid k;clear m;clear l;refine wk ?_;exact aa k.o
theorem agq(a:(s.length:Int)<=100000)(h:K (.bool (jG s)) L):apq 86 [.str s] L K:=adw asP h
theorem ai7{r:List Ava}(z:r.length<=100000)(p:∀a∈r,(a.1.length:Int)<=100000)(u:(typ.length:Int)<=100000)(h:K (.bool (lZ r typ)) L):
  apq 87 [afa r cap,.str typ] L K:=by
 replace h:=hid h;replace p:=hid p;refine apo aav ?_;refine aj (λn T' L'=>∃(k:Nat) (Z:List Blk),n=r.length-k/\k<=r.length/\Hid (lZ (r.take k) typ=false)/\T'=[(9,.int .i64 (k:Int)),(8,.int .i64 r.length),(7,afa r cap),(1,.str typ)]/\L'=L++Z) asT ⟨0,[],rfl,apv _,hid rfl,rfl,asQ⟩ ?_;rintro _ _ _ ⟨k,Z,rfl,x,v,rfl,rfl⟩;by_cases b:k<r.length;have g1:(k:Int)<(r.length:Int):=asP;have y:=apn k asP;have t:=gQ b;have A:k*2+2<=(bg r).length:=by rw[dp];omega
 obtain⟨⟨ty,s⟩,l⟩:∃a,r.getD k ([],[])=a:=⟨_,rfl⟩;have f:(ty,s)∈r:=by rw[<- l];simp[b]
 have j:r.take (k+1)=r.take k++[(ty,s)]:=by rw[apK b,<- l];simp[b]
 rw[l]at t;simp only[pD]at t;have q:lZ (r.take (k+1)) typ=decide (ak ty=ak typ):=by have:=v.o;simp only[lZ]at this⊢;rw[j,ar4,this];simp
 have i:=p.o _ f;simp only at i;have c:ak ty=ak typ->lZ r typ=true:=λe=>aqZ.2 ⟨_,f,by simpa using e⟩
 replace c:=hid c;replace q:=hid q;clear l f j;by_cases w:ak ty=ak typ;have d:=h.o;rw[c.o w]at d;replace d:=hid d;have kk1:=@asW _ _ _ _ (nI i);have kk2:=@asW _ _ _ _ (nI u);refine wk ?_;exact ac rfl d.o;have kk1:=@asW _ _ _ _ (nI i);have kk2:=@asW _ _ _ _ (nI u);refine wk ?_;exact asU asP asS ⟨k+1,_,rfl,b,hid (by rw[q.o];simpa using w),rfl,rfl⟩;have m:k=r.length:=asP;subst m;have g1:¬(r.length:Int)<(r.length:Int):=asP;have g:=v.o;rw[apJ]at g;have d:=h.o;rw[g]at d;replace d:=hid d;clear g;refine wk ?_;exact ac rfl d.o
theorem nr(G:s.length<=100000)(h:K (.str (gS s)) L):apq 134 [.str s] L K:=by
 replace h:=hid h;refine apo S8 ?_;refine bR (l:=[]) (n:=0) 3 1 rfl (apU 1).symm ?_;refine aj (λn T' L'=>∃(i m:Nat) (b:List UInt8),n=s.length-i/\i<=s.length/\m<=3*i/\Hid (m=b.length/\b++wrL s.length i (s.drop i)=gS s)/\T'=[(4,.int .i64 (i:Int)),(3,.gsl (u8s b) m L.length 1),(0,.str s)]/\L'=L++[.spare m 1]) asT ⟨0,0,[],rfl,apv _,asP,hid ⟨rfl,rfl⟩,rfl,rfl⟩ ?_;rintro _ _ _ ⟨i,m,b,rfl,D,F,t,rfl,rfl⟩;by_cases j:i<s.length
 .have g1:(i:Int)<(s.length:Int):=asP;have E:=apn i asP;obtain⟨c,A⟩:=apl (s.getD i 0);have p:=nh j;rw[A]at p;have a:=t.o.2;rw[p]at a;simp only[wrL]at a;clear p;replace a:=hid a;obtain⟨C,y⟩:=apl (([34,43,44,59,60,62,92]:List UInt8).contains c);obtain⟨B,z⟩:=apl (([32,35]:List UInt8).contains c);have f:C=true↔c∈([34,43,44,59,60,62,92]:List UInt8):=(by rw[<- y,aqW]);have g:B=true↔(c=32\/c=35):=(by rw[<- z,aqW];simp);replace f:=hid f;replace g:=hid g
  repeat' first
   |refine bG ?_
   | (first|refine bw asR ?_|refine aN asR ?_|refine aQ ?_|refine cS ?_|refine bJ (fun _=>?_)|refine aF ?_|refine bA ?_|refine nP asQ ?_|refine bf (nP asQ ⟨rfl,rfl⟩) (nP asQ ⟨rfl,rfl⟩) ?_|refine aM (nP asQ ⟨rfl,rfl⟩) ?_)
     refine sm ?_
   | (first|refine bq asR ?_|refine bm ?_|refine aP ?_|refine bz ?_|refine bO (aE ?_))
     refine sl ?_
   |exact bK
   |first|apply bL|apply br|apply bM|apply bu|apply bN|apply bv
   |refine aT ?_
   |refine aO ?_
   |first|refine aR rfl ?_|refine aS rfl ?_|refine aB rfl ?_ ?_|refine aW rfl (λ_=>?_) (λ_=>?_)|refine aV rfl (λ_=>?_) (λ_=>?_)
   |((first|refine aA (λ_=>?_) (λ_=>?_)|refine aD (λ_=>?_) (λ_=>?_))<;>try refine sm ?_)
   |refine And.intro trivial ?_
   |refine And.intro asP ?_
   |refine bd rfl (λ_=>?_) (λ_=>?_)
   |refine And.intro ?_ ?_
  rfl;omega;rename_i r;have d:=(bQ c 0).1 r;rw[show u8s b++AV.frzL (u8s [92,48,48])=u8s (b++[92,48,48])by simp[u8s,AV.frzL,AV.frz]];refine asU asP asS ⟨i+1,m+3,b++[92,48,48],rfl,j,asP,hid ⟨by simp[t.o.1],?_⟩,rfl,rfl⟩;rw[<- a.o,wrB,if_pos d,apG];rename_i r q;have d:¬c=0:=λe=>r ((bQ c 0).2 e)
  have u:(i=0/\(c=32\/c=35))\/(i+1=s.length/\c=32)\/c∈[34,43,44,59,60,62,92]:=by simp only[aqf,apw,decide_eq_true_eq]at q;rcases q with(e|⟨w,k⟩)|⟨w,k⟩;exact .inr (.inr (f.o.1 e));exact .inl ⟨asP,g.o.1 k⟩;exact .inr (.inl ⟨asP,(bQ c 32).1 k⟩)
  rw[show u8s b++[AV.int IntKind.u8 92,AV.int IntKind.u8 (c.toNat:Int)]=u8s (b++[92,c])by simp[u8s]];refine asU asP asS ⟨i+1,m+1+1,b++[92,c],rfl,j,asP,hid ⟨by simp[t.o.1],?_⟩,rfl,rfl⟩;rw[<- a.o,wrB,if_neg d,if_pos u,apG];rename_i r q;have d:¬c=0:=λe=>r ((bQ c 0).2 e)
  have u:¬((i=0/\(c=32\/c=35))\/(i+1=s.length/\c=32)\/c∈[34,43,44,59,60,62,92]):=λu=>by rw[<- aq7]at q;refine q ?_;simp only[aqf,apw,decide_eq_true_eq];rcases u with⟨w,k⟩|⟨w,k⟩|e;exact .inl (.inr ⟨asP,g.o.2 k⟩);exact .inr ⟨asP,(bQ c 32).2 k⟩;exact .inl (.inl (f.o.2 e))
  rw[show u8s b++[AV.int IntKind.u8 (c.toNat:Int)]=u8s (b++[c])by simp[u8s]];refine asU asP asS ⟨i+1,m+1,b++[c],rfl,j,asP,hid ⟨by simp[t.o.1],?_⟩,rfl,rfl⟩;rw[<- a.o,wrB,if_neg d,if_neg u,apG]
 have x:i=s.length:=asP;subst x;have g1:¬(s.length:Int)<(s.length:Int):=asP;have w:=kB b;have k:=ju b;have e:=t.o.2;rw[aqe,wrL,ap4]at e;have v:=h.o;rw[<- e]at v;replace v:=hid v;clear e;refine wk ?_;exact ac rfl v.o
def ah1(n:Nat):Nat:=if n<10 then 48+n else 87+n
theorem Kh(e:n<16)(h:K (.int .u8 (ah1 n:Nat)) L):apq 248 [.int .u8 n] L K:=by unfold ah1 at h;refine ab W7 (by simp[wF]) ?_;simp only[wF,ag];by_cases a:n<10;rw[if_pos a]at h;replace h:=hid h;have c:(n:Int)<10:=asP;have b:IntKind.u8.wrap (48+(n:Int))=48+(n:Int):=dx asP asP;clear a;refine wk ?_;refine aa ?_;simpa using h.o;rw[if_neg a]at h;replace h:=hid h;have c:¬(n:Int)<10:=asP;have b:IntKind.u8.wrap (97+(n:Int))=97+(n:Int):=dx asP asP;have d:IntKind.u8.wrap (97+(n:Int)-10)=97+(n:Int)-10:=dx asP asP;clear a;refine wk ?_;refine aa ?_;have:=h.o;rwa[show((87+n:Nat):Int)=97+(n:Int)-10 by omega]at this
theorem al0:∀(a:_root_.Fin 256) (x:_root_.Fin 16),(ah1 x.val=(ga (UInt8.ofNat a.val)).toNat)↔lO (UInt8.ofNat a.val)=some x.val:=by decide +kernel
theorem aor{x:Nat}(b:x<16):((ah1 x:Nat):Int)=((ga a).toNat:Int)↔lO a=some x:=by have:=al0 ⟨a.toNat,a.toNat_lt⟩ ⟨x,b⟩;simp only[UInt8.ofNat_toNat]at this;rw[<- this];omega
def afw(a b:UInt8)(k:Nat):Prop:=lO a=some (k/16)/\lO b=some (k%16)
theorem ahM{b:UInt8}(h:afw a b k):V5 a b=some (UInt8.ofNat k):=by obtain⟨c,d⟩:=h;simp only[V5,c,d];congr 2;omega
theorem ahN{b:UInt8}(h:∀j,j<256->¬afw a b j):V5 a b=none:=by unfold V5;rcases h1:lO a with _|x;rfl;rcases h2:lO b with _|y;rfl;have:=OO h1;have:=OO h2;exact absurd ⟨by rw[h1];congr 1;omega,by rw[h2];congr 1;omega⟩ (h (16*x+y) asP)
theorem ahk{b:UInt8}(h:K (SQ a b) L):apq 237 [.str [a,b]] L K:=by
 obtain⟨p,I⟩:=apl (ga a);obtain⟨q,H⟩:=apl (ga b);have P:ak [a,b]=[p,q]:=by simp[ak,I,H]
 have U:[p,q].length=2:=rfl;have J:[a,b].length=2:=rfl;have R:[p,q].getD 0 0=p:=rfl;have Q:[p,q].getD 1 0=q:=rfl;have Z:Int.tmod 2 2=0:=by decide
 replace h:=hid h;refine apo W8 ?_;refine nI asQ ?_;rw[P];refine asX ?_;refine bR (l:=[]) (n:=0) 4 1 rfl (apU 1).symm ?_;refine aj (λn T' L'=>(n=1/\T'=[(6,.int .i64 0),(4,.gsl [] 0 L.length 1),(5,.str [p,q]),(0,.str [a,b])]/\L'=L++[.spare 0 1])\/(n=0/\∃(x:UInt8) (w:List AV),Hid (V5 a b=some x/\w=u8s [x])/\T'=[(6,.int .i64 2),(4,.gsl w 1 L.length 1),(5,.str [p,q]),(0,.str [a,b])]/\L'=L++[.spare 1 1])) (n0:=1) (T0:=[(6,.int .i64 0),(4,.gsl [] 0 L.length 1),(5,.str [p,q]),(0,.str [a,b])]) (L0:=L++[.spare 0 1]) asT (.inl ⟨rfl,rfl,rfl⟩) ?_;rintro _ _ _ (⟨rfl,rfl,rfl⟩|⟨rfl,x,w,f,rfl,rfl⟩);refine wk ?_;refine aj (λn T' L'=>(∃k:Nat,n=257-k/\k<=256/\Hid (∀j,j<k->¬afw a b j)/\T'=[(8,.int .i64 (k:Int)),(7,.bool false),(6,.int .i64 0),(4,.gsl [] 0 L.length 1),(5,.str [p,q]),(0,.str [a,b])]/\L'=L++[.spare 0 1])\/(n=0/\∃(x:UInt8) (k:Nat) (w:List AV),k<=256/\Hid (V5 a b=some x/\w=u8s [x])/\T'=[(8,.int .i64 (k:Int)),(7,.bool true),(6,.int .i64 0),(4,.gsl w 1 L.length 1),(5,.str [p,q]),(0,.str [a,b])]/\L'=L++[.spare 1 1])) (n0:=257) (T0:=[(8,.int .i64 0),(7,.bool false),(6,.int .i64 0),(4,.gsl [] 0 L.length 1),(5,.str [p,q]),(0,.str [a,b])]) (L0:=L++[.spare 0 1]) asT (.inl ⟨0,rfl,asP,hid asQ,rfl,rfl⟩) ?_;rintro _ _ _ (⟨k,rfl,N,A,rfl,rfl⟩|⟨rfl,x,k,w,N,f,rfl,rfl⟩);by_cases C:k<256;have g1:(k:Int)<256:=asP;have g2:=apn k asP;have g3:IntKind.u8.wrap (k:Int)=(k:Int):=dx asP asP;obtain⟨u,D⟩:=apl (k/16);obtain⟨v,B⟩:=apl (k%16);have c:u<16:=asP;have d:v<16:=asP;have g4:IntKind.i64.wrap (Int.tdiv (k:Int) 16)=(u:Int):=by rw[asF asP,ae asP asP];omega
 have X:IntKind.u8.wrap (u:Int)=(u:Int):=dx asP asP;have S:Int.tmod (k:Int) 16=(v:Int):=by rw[ary asP];omega
 have V:IntKind.u8.wrap (v:Int)=(v:Int):=dx asP asP;have s:=aor (a:=a) c;have t:=aor (a:=b) d;rw[I]at s;rw[H]at t;have y:afw a b k↔lO a=some u/\lO b=some v:=by unfold afw;rw[D,B]
 replace D:=hid D;replace B:=hid B;replace y:=hid y;have z:=hid λ(e:¬afw a b k)=>show ∀j,j<k+1->¬afw a b j from λj Y=>by rcases apV j k with G|G;exact A.o j G;rw[show j=k by omega];exact e
 by_cases m:lO a=some u;have M:=s.2 m;by_cases r:lO b=some v;have O:=t.2 r;have f:=ahM (y.o.2 ⟨m,r⟩);have i:((UInt8.ofNat k).toNat:Int)=(k:Int):=by simp;omega
 replace i:=hid i;replace f:=hid f;clear s t m r;have kk1:=@asW _ _ _ _ (Kh c);have kk2:=@asW _ _ _ _ (Kh d);refine wk ?_;refine asU asP asS (.inr ⟨rfl,UInt8.ofNat k,k+1,_,asP,hid ⟨f.o,?_⟩,rfl,rfl⟩);simp only[u8s,List.map,i.o];have O:¬((ah1 v:Nat):Int)=(q.toNat:Int):=λe=>r (t.1 e)
 have E:=hid (z.o λe=>r (y.o.1 e).2);clear s t m r;have kk1:=@asW _ _ _ _ (Kh c);have kk2:=@asW _ _ _ _ (Kh d);refine wk ?_;exact asU asP asS (.inl ⟨k+1,rfl,asP,E,rfl,rfl⟩);have M:¬((ah1 u:Nat):Int)=(p.toNat:Int):=λe=>m (s.1 e)
 have E:=hid (z.o λe=>m (y.o.1 e).1);clear s t m;have kk1:=@asW _ _ _ _ (Kh c);refine wk ?_;exact asU asP asS (.inl ⟨k+1,rfl,asP,E,rfl,rfl⟩);have F:k=256:=asP;subst F;have g:=h.o;simp only[SQ,ahN A.o]at g;replace g:=hid g;have g1:¬((256:Nat):Int)<256:=asP;refine wk ?_;exact ac rfl g.o;by_cases C:(k:Int)<256;refine wk ?_;exact asU asP asS (.inr ⟨rfl,x,w,f,rfl,rfl⟩);refine wk ?_;exact asU asP asS (.inr ⟨rfl,x,w,f,rfl,rfl⟩);have g:=h.o;simp only[SQ,f.o.1]at g;replace g:=hid g;rw[f.o.2];have W:=kB [x];have T:=ju [x];refine wk ?_;exact ac rfl g.o
def np(b:List UInt8)(bl:Bool)(s:List UInt8):Option (List UInt8×List UInt8):=match ja b bl s with
 |some (v,r,true)=>some (v,r)
 |_=>none
def ae0(n:Nat)(o:Option (List UInt8×List UInt8)):AV:=match o with
 |none=>.tup [.str [],.int .i64 0,.bool false]
 |some (v,r)=>.tup [.str v,.int .i64 ((n-r.length:Nat):Int),.bool true]
theorem agY(h:c=44\/c=43):np b false (c::s)=some (b,c::s):=by simp only[np,rF h];rfl
theorem aeZ(h:c=44\/c=43):np b true (c::s)=none:=by simp only[np,rF h];rfl
theorem aiz :np b false []=some (b,[]):=by simp only[np,rM];rfl
theorem ag0 :np b true []=none:=by simp only[np,rM];rfl
theorem aiA{bl:Bool}(h:¬(c=44\/c=43))(a:c≠92)(d:c=0\/c∈([34,59,60,62]:List UInt8)\/(b=[]/\(c=32\/c=35))):np b bl (c::s)=none:=by simp only[np,nq h a,if_pos d]
theorem Zb{bl:Bool}(h:¬(c=44\/c=43))(a:c≠92)(d:¬(c=0\/c∈([34,59,60,62]:List UInt8)\/(b=[]/\(c=32\/c=35)))):np b bl (c::s)=np (b++[c]) (decide (c=32)) s:=by simp only[np,nq h a,if_neg d]
theorem YT{x:UInt8}{L:List Blk}{K:apr}(h:K (.bool (rP.contains x)) L):apq 133 [.int .u8 x.toNat,.str rP] L K:=nP asQ h
theorem acn{a b c d x:UInt8}{L:List Blk}{K:apr}(h:K (.bool ([a,b,c,d].contains x)) L):apq 133 [.int .u8 x.toNat,.str [a,b,c,d]] L K:=nP asQ h
theorem aco{a b x:UInt8}{L:List Blk}{K:apr}(h:K (.bool ([a,b].contains x)) L):apq 133 [.int .u8 x.toNat,.str [a,b]] L K:=nP asQ h
theorem ai0{at0:Nat}(hs:s.length<=100000)(ad:at0<=s.length)(h:K (ae0 s.length (np [] false (s.drop at0))) L):apq 219 [.str s,.int .i64 (at0:Int)] L K:=by
 obtain⟨R,hR⟩:=apl (np [] false (s.drop at0));rw[hR]at h;replace h:=hid h;refine apo W3 ?_;refine bR (l:=[]) (n:=0) 7 1 rfl (apU 1).symm ?_;refine aj (λn T' L'=>∃(i m:Nat) (b:List UInt8) (bl X:Bool),n=s.length-i/\i<=s.length/\m<=i/\Hid (m=b.length/\np b bl (s.drop i)=R/\(bl=true->i<s.length/\s.getD i 0≠44/\s.getD i 0≠43)/\(X=true↔b=[]))/\T'=[(8,.bool X),(1,.int .i64 (i:Int)),(7,.gsl (u8s b) m L.length 1),(0,.str s)]/\L'=L++[.spare m 1]) asT ⟨at0,0,[],false,true,rfl,ad,asP,hid ⟨rfl,hR,asQ,asQ⟩,rfl,rfl⟩ ?_;rintro _ _ _ ⟨i,m,b,bl,X,rfl,hi,hm,F,rfl,rfl⟩;have e1:=kB b;have e2:=ju b;by_cases N:i<s.length
 .have g1:(i:Int)<(s.length:Int):=asP;have g2:=apn i asP;obtain⟨c,hc⟩:=apl (s.getD i 0);have q:=nh N;rw[hc]at q;have a:=F.o.2.1;rw[q]at a;by_cases g:c=44\/c=43;have J:bl=false:=by
   cases bl with
   |false=>rfl
   | true =>
     obtain⟨_,n1,n2⟩:=F.o.2.2.1 rfl;rw[hc]at n1 n2;rcases g with e|e
     .exact absurd e n1
     .exact absurd e n2
  subst J;rw[agY g]at a;have f:=h.o;rw[<- a]at f;simp only[ae0]at f;rw[<- q,aqT,show s.length-(s.length-i)=i by omega]at f;replace f:=hid f;have Q:((c.toNat:Int)=44)\/((c.toNat:Int)=43):=g.imp (bQ c 44).2 (bQ c 43).2;clear a g q;rcases Q with Q|Q;refine wk ?_;exact ac rfl f.o;refine wk ?_;exact ac rfl f.o
  .have Q:¬(c.toNat:Int)=44:=λe=>g (.inl ((bQ c 44).1 e))
   have k2:¬(c.toNat:Int)=43:=λe=>g (.inr ((bQ c 43).1 e))
   by_cases B:c=92;subst B;have g3:IntKind.i64.wrap ((i:Int)+1+1)=(i:Int)+1+1:=ae asP asP;have g4:IntKind.i64.wrap ((i:Int)+1+2)=(i:Int)+1+2:=ae asP asP;have t1:((i:Int)+1).toNat=i+1:=asP;have t3:((i:Int)+1+2).toNat=i+3:=asP;by_cases G:i+1<s.length;have T:(i:Int)+1<(s.length:Int):=asP;have V:¬(i:Int)+1=(s.length:Int):=asP;obtain⟨d,O⟩:=apl (s.getD (i+1) 0);have p:=nh G;rw[O]at p;rw[p]at a;by_cases A:d∈rP;simp only[np,wR A]at a;have f2:rP.contains d=true:=aqW.2 A;clear q p g;replace a:=hid a;have kk1:=@hid _ @YT;have kk2:=@hid _ @acn;have kk3:=@hid _ @aco;refine wk ?_;rw[show u8s b++[AV.int IntKind.u8 (d.toNat:Int)]=u8s (b++[d])by simp[u8s]];exact asU asP asS ⟨i+1+1,m+1,b++[d],false,false,rfl,G,asP,hid ⟨by simp[F.o.1],a.o,asQ,asQ⟩,rfl,rfl⟩;have f2:rP.contains d=false:=by rw[<- aq7,aqW];exact A
   by_cases h2:i+2<s.length;have f3:¬(s.length:Int)<(i:Int)+1+2:=asP;have f4:(i:Int)+1<=(i:Int)+1+2:=asP;have f5:(i:Int)+1+2<=(s.length:Int):=asP;have f6:(0:Int)<=(i:Int)+1:=asP;obtain⟨e,he⟩:=apl (s.getD (i+2) 0);have u:=nh h2;rw[he]at u;rw[u]at a;simp only[np,Ts A]at a;have ai:(s.drop (i+1)).take (i+3-(i+1))=[d,e]:=by rw[p,u,show i+3-(i+1)=2 by omega];rfl
   clear q p u g;replace a:=hid a;have kk1:=@hid _ @YT;have kk2:=@hid _ @acn;have kk3:=@hid _ @aco;refine wk ?_;refine ahk ?_;rcases j:V5 d e with _|x;rw[show SQ d e=.tup [.str [],.bool false]by simp only[SQ,j]];have f:=h.o;rw[<- a.o,j]at f;simp only[ae0]at f;replace f:=hid f;clear j;refine asX ?_;exact ac rfl f.o;rw[show SQ d e=.tup [.str [x],.bool true]by simp only[SQ,j]];have z:=a.o;rw[j]at z;simp only at z;replace z:=hid z;have q1:[x].getD 0 0=x:=rfl;clear j a;refine asX ?_;rw[show u8s b++[AV.int IntKind.u8 (x.toNat:Int)]=u8s (b++[x])by simp[u8s]];exact asU asP asS ⟨i+1+2,m+1,b++[x],false,false,rfl,h2,asP,hid ⟨by simp[F.o.1],z.o,asQ,asQ⟩,rfl,rfl⟩;have f3:(s.length:Int)<(i:Int)+1+2:=asP;have y:s.drop (i+1+1)=[]:=aq6 asP;rw[y]at a;simp only[np,OF A]at a;have f:=h.o;rw[<- a]at f;replace f:=hid f;clear q p a g;have kk1:=@hid _ @YT;have kk2:=@hid _ @acn;have kk3:=@hid _ @aco;refine wk ?_;exact ac rfl f.o;have T:¬(i:Int)+1<(s.length:Int):=asP;have V:(i:Int)+1=(s.length:Int):=asP;have f3:(s.length:Int)<(s.length:Int)+2:=asP;have f4:¬(s.length:Int)<(s.length:Int):=asP;have g5:IntKind.i64.wrap (s.length:Int)=(s.length:Int):=ae asP asP;have g6:IntKind.i64.wrap ((s.length:Int)+2)=(s.length:Int)+2:=ae asP asP;have y:s.drop (i+1)=[]:=aq6 asP;rw[y]at a;simp only[np,OG]at a;have f:=h.o;rw[<- a]at f;replace f:=hid f;clear q a g;have kk1:=@hid _ @YT;have kk2:=@hid _ @acn;have kk3:=@hid _ @aco;refine wk ?_;exact ac rfl f.o
   .have k3:¬(c.toNat:Int)=92:=λe=>B ((bQ c 92).1 e)
    obtain⟨p1,W⟩:=apl (([34,59,60,62]:List UInt8).contains c);obtain⟨p2,Y⟩:=apl (([32,35]:List UInt8).contains c);have w:p1=true↔c∈([34,59,60,62]:List UInt8):=(by rw[<- W,aqW]);have v:p2=true↔(c=32\/c=35):=(by rw[<- Y,aqW];simp);replace w:=hid w;replace v:=hid v;have S:=hid (bQ c 0);have C:=hid (bQ c 32);have H:=hid F.o.2.2.2;obtain⟨lst,r⟩:∃lst:Bool,decide (i+1<s.length->s.getD (i+1) 0=44\/s.getD (i+1) 0=43)=lst:=⟨_,rfl⟩;have k:=hid λ(e:c=0\/c∈([34,59,60,62]:List UInt8)\/(b=[]/\(c=32\/c=35)))=>(show R=none by rw[<- a,aiA g B e])
    have I:=hid λ(e:lst=true/\c=32)=>(show R=none by by_cases eb:c=0\/c∈([34,59,60,62]:List UInt8)\/(b=[]/\(c=32\/c=35));exact k.o eb;rw[<- a,Zb g B eb,e.2];have el:=of_decide_eq_true (r.trans e.1);simp only[decide_true];by_cases G:i+1<s.length;rw[nh G,aeZ (el G)];rw[aq6 asP,ag0])
    have P:=hid λ(e:¬(c=0\/c∈([34,59,60,62]:List UInt8)\/(b=[]/\(c=32\/c=35))))=>(show np (b++[c]) (decide (c=32)) (s.drop (i+1))=R by rw[<- a,Zb g B e])
    replace r:=hid r;clear q a g;have D:R=none->Fin L (.tup [.str [],.int .i64 0,.bool false]) (L++[.spare m 1]) K:=λe=>ac rfl (by have f:=h.o;rwa[e]at f)
    replace D:=hid D;by_cases G:i+1<s.length
    .have T:(i:Int)+1<(s.length:Int):=asP;have V:¬(i:Int)+1=(s.length:Int):=asP;have t1:((i:Int)+1).toNat=i+1:=asP;obtain⟨d,O⟩:=apl (s.getD (i+1) 0);have t:=hid (show lst=true↔((d.toNat:Int)=44\/(d.toNat:Int)=43)by rw[<- r.o,decide_eq_true_eq,O,show(44:Int)=((44:UInt8).toNat:Int)from rfl,show(43:Int)=((43:UInt8).toNat:Int)from rfl,bQ,bQ];exact⟨λe=>e G,λe _=>e⟩)
     repeat' first
      |refine bG ?_
      | (first|refine bw asR ?_|refine aN asR ?_|refine aQ ?_|refine cS ?_|refine bJ (fun _=>?_)|refine aF ?_|refine bA ?_|refine nP asQ ?_|refine bf (nP asQ ⟨rfl,rfl⟩) (nP asQ ⟨rfl,rfl⟩) ?_|refine aM (nP asQ ⟨rfl,rfl⟩) ?_)
        refine sm ?_
      | (first|refine bq asR ?_|refine bm ?_|refine aP ?_|refine bz ?_|refine bO (aE ?_))
        refine sl ?_
      |exact bK
      |first|apply bL|apply br|apply bM|apply bu|apply bN|apply bv
      |refine aT ?_
      |refine aO ?_
      |first|refine aR rfl ?_|refine aS rfl ?_|refine aB rfl ?_ ?_|refine aW rfl (λ_=>?_) (λ_=>?_)|refine aV rfl (λ_=>?_) (λ_=>?_)
      |((first|refine aA (λ_=>?_) (λ_=>?_)|refine aD (λ_=>?_) (λ_=>?_))<;>try refine sm ?_)
      |refine And.intro trivial ?_
      |refine And.intro asP ?_
      |refine bd rfl (λ_=>?_) (λ_=>?_)
      |refine And.intro ?_ ?_
     rename_i j;refine D.o ?_;simp only[aqf,apw,decide_eq_true_eq]at j;rcases j with((e|e)|⟨e,M⟩)|e;exact k.o (.inl (S.o.1 e));exact k.o (.inr (.inl (w.o.1 e)));exact k.o (.inr (.inr ⟨H.o.1 e,v.o.1 M⟩));exact I.o ⟨t.o.2 e.1,C.o.1 e.2⟩;rename_i j;rw[<- aq7]at j;simp only[aqf,apw,decide_eq_true_eq]at j;rw[show u8s b++[AV.int IntKind.u8 (c.toNat:Int)]=u8s (b++[c])by simp[u8s]];refine asU asP asS ⟨i+1,m+1,b++[c],decide (c=32),false,rfl,N,asP,hid ⟨by simp[F.o.1],?_,λe=>?_,asQ⟩,rfl,rfl⟩;refine P.o λe=>j ?_
     rcases e with e|e|⟨e,M⟩;exact .inl (.inl (.inl (S.o.2 e)));exact .inl (.inl (.inr (w.o.2 e)));exact .inl (.inr ⟨H.o.2 e,v.o.2 M⟩);have E:=C.o.2 (of_decide_eq_true e);refine⟨G,?_,?_⟩;intro U;exact j (.inr ⟨.inl (by rw[<- O,U];rfl),E⟩);intro U;exact j (.inr ⟨.inr (by rw[<- O,U];rfl),E⟩)
    .have T:¬(i:Int)+1<(s.length:Int):=asP;have V:(i:Int)+1=(s.length:Int):=asP;have g5:IntKind.i64.wrap (s.length:Int)=(s.length:Int):=ae asP asP;have t:=hid (show lst=true by rw[<- r.o,decide_eq_true_eq];exact λe=>absurd e G)
     repeat' first
      |refine bG ?_
      | (first|refine bw asR ?_|refine aN asR ?_|refine aQ ?_|refine cS ?_|refine bJ (fun _=>?_)|refine aF ?_|refine bA ?_|refine nP asQ ?_|refine bf (nP asQ ⟨rfl,rfl⟩) (nP asQ ⟨rfl,rfl⟩) ?_|refine aM (nP asQ ⟨rfl,rfl⟩) ?_)
        refine sm ?_
      | (first|refine bq asR ?_|refine bm ?_|refine aP ?_|refine bz ?_|refine bO (aE ?_))
        refine sl ?_
      |exact bK
      |first|apply bL|apply br|apply bM|apply bu|apply bN|apply bv
      |refine aT ?_
      |refine aO ?_
      |first|refine aR rfl ?_|refine aS rfl ?_|refine aB rfl ?_ ?_|refine aW rfl (λ_=>?_) (λ_=>?_)|refine aV rfl (λ_=>?_) (λ_=>?_)
      |((first|refine aA (λ_=>?_) (λ_=>?_)|refine aD (λ_=>?_) (λ_=>?_))<;>try refine sm ?_)
      |refine And.intro trivial ?_
      |refine And.intro asP ?_
      |refine bd rfl (λ_=>?_) (λ_=>?_)
      |refine And.intro ?_ ?_
     rename_i j;refine D.o ?_;simp only[aqf,apw,decide_eq_true_eq]at j;rcases j with((e|e)|⟨e,M⟩)|e;exact k.o (.inl (S.o.1 e));exact k.o (.inr (.inl (w.o.1 e)));exact k.o (.inr (.inr ⟨H.o.1 e,v.o.1 M⟩));exact I.o ⟨t.o,C.o.1 e⟩;rename_i j;rw[<- aq7]at j;simp only[aqf,apw,decide_eq_true_eq]at j;rw[show u8s b++[AV.int IntKind.u8 (c.toNat:Int)]=u8s (b++[c])by simp[u8s]];refine asU asP asS ⟨i+1,m+1,b++[c],decide (c=32),false,rfl,N,asP,hid ⟨by simp[F.o.1],?_,λe=>?_,asQ⟩,rfl,rfl⟩;refine P.o λe=>j ?_
     rcases e with e|e|⟨e,M⟩;exact .inl (.inl (.inl (S.o.2 e)));exact .inl (.inl (.inr (w.o.2 e)));exact .inl (.inr ⟨H.o.2 e,v.o.2 M⟩);have E:=C.o.2 (of_decide_eq_true e);exact absurd (.inr E) j
 have Z:i=s.length:=asP;subst Z;have g1:¬(s.length:Int)<(s.length:Int):=asP;have J:bl=false:=by
  cases bl with
  |false=>rfl
  |true=>exact absurd (F.o.2.2.1 rfl).1 asP
 subst J;have f:=h.o;rw[<- F.o.2.1,aqe,aiz]at f;simp only[ae0,ap9,aru]at f;replace f:=hid f;refine wk ?_;exact ac rfl f.o
theorem aiB:∀(n:Nat){s b:List UInt8}{bl:Bool}{v r:List UInt8}{ok:Bool},s.length<=n->ja b bl s=some (v,r,ok)->r <:+ s:=by
 intro n;induction n with
 | zero =>
   intro s b bl v r ok f h;obtain rfl:=aqc.1 (Nat.le_zero.1 f);rw[rM]at h;cases h;exact arB _
 | succ n ih =>
   intro s b bl v r ok f h;cases s with
   |nil=>rw[rM]at h;cases h;exact arB _
   | cons c s =>
     simp only[apC]at f;by_cases i:c=44\/c=43
     .rw[rF i]at h;cases h;exact arB _
     by_cases a:c=92
     .subst a;cases s with
      |nil=>rw[OG]at h;cases h
      | cons d s =>
        by_cases g:d∈rP
        .rw[wR g]at h;exact(ih (by simp at f;omega) h).trans ((arC _ _).trans (arC _ _))
        .cases s with
         |nil=>rw[OF g]at h;cases h
         | cons e s =>
           rw[Ts g]at h;split at h
           .cases h
           .exact(ih (by simp at f;omega) h).trans ((arC _ _).trans ((arC _ _).trans (arC _ _)))
     .rw[nq i a]at h;split at h
      .cases h
      .exact(ih asP h).trans (arC _ _)
theorem agZ{v r:List UInt8}(h:np [] false s=some (v,r)):ja [] false s=some (v,r,true):=by unfold np at h;split at h;rename_i e;cases h;exact e;cases h
theorem aby(f:Nat)(out:List Rdn)(a:Rdn)(s:List UInt8):tP (f+1) out a s=if out.length=32\/a.length=8 then([],9)else match lQ s with
  |none=>([],4)
  | some (typ,rest)=>if jG typ=false then ([],4) else if lZ a typ=true then ([],21) else match np [] false rest with
    |none=>([],4)
    | some (v,b)=>match b with
      |[]=>(out++[a++[(typ,v)]],0)
      |c::s'=>if c=44 then tP f (out++[a++[(typ,v)]]) [] s' else tP f out (a++[(typ,v)]) s':=by
 rw[tP];congr 1;rcases lQ s with _|⟨typ,rest⟩;rfl;simp only;congr 1;congr 1;unfold np;rcases ja [] false rest with _|⟨v,b,ok⟩;rfl;cases ok<;>rfl
theorem ah3{j:Nat}(e:i<=j)(c:j<s.length)(d:s.getD j 0≠61)(h:lQ (s.drop i)=(lQ (s.drop j)).map λp=>((s.drop i).take (j-i)++p.1,p.2)):
  lQ (s.drop i)=(lQ (s.drop (j+1))).map λp=>((s.drop i).take (j+1-i)++p.1,p.2):=by
 rw[h,nh c];simp only[lQ,if_neg d];have f:(s.drop i).take (j+1-i)=(s.drop i).take (j-i)++[s.getD j 0]:=by rw[show j+1-i=(j-i)+1 by omega,apK (by simp;omega)];congr 2;simp[show i+(j-i)=j by omega,c]
 rw[f];rcases lQ (s.drop (j+1))with _|⟨a,b⟩;rfl;simp
theorem alD(c:r.length=n)(f:n<=8)(b:∀a∈r,a.1.length<=32)(e:typ.length<=4096)(h:K (.bool (lZ r typ)) L):
  apq 87 [.gsl (bg r) n i 2,.str typ] L K:=by
 subst c;exact iL (by simpa only[AV.frzL,AV.frz,gP]using ai7 (cap:=none) asP (λa d=>by have:=b a d;omega) asP h)
theorem ahj{z:Int}{at0:Nat}(b:z=(at0:Int))(c:s.length<=100000)(a:at0<=s.length)(h:K (ae0 s.length (np [] false (s.drop at0))) L):apq 219 [.str s,.int .i64 z] L K:=by subst b;exact ai0 c a h
theorem ai3(h:K (aa0 (dW s)) L):apq 188 [.str s] L K:=by
 refine ab W6 (by simp[wD]) ?_;simp only[wD,ag];by_cases h1:4096<s.length;have f1:(4096:Int)<(s.length:Int):=asP;rw[dW,if_pos h1]at h;replace h:=hid h;clear h1;refine wk ?_;exact aY (aa h.o);have f1:¬(4096:Int)<(s.length:Int):=asP;rw[dW,if_neg h1]at h;have hs:=hid (show s.length<=4096 by omega);clear h1;obtain⟨R,hR⟩:=apl ((if s=[]then([],0)else tP (s.length+1) [] [] s));rw[hR]at h;replace h:=hid h;replace hR:=hid hR;refine wk ?_;refine bR (l:=[]) (n:=0) 4 1 rfl (apU 1).symm ?_;refine aj (λn T' L'=>∃(f m i:Nat) (out:List Rdn) (X:List Blk),f=n/\i<=s.length/\m<=32/\Hid (s≠[]->s.length-i<f/\tP f out [] (s.drop i)=R)/\Hid (s=[]->out=[])/\Hid (m=out.length)/\L'[L.length]?=some (.spare m 1)/\T'=[(5,.int .i64 (i:Int)),(4,.gsl (out.map aq) m L.length 1),(0,.str s)]/\L'=L++X) asT ⟨s.length+1,0,0,[],[.spare 0 1],rfl,apv _,asP,hid (λe=>⟨asP,by have:=hR.o;rw[if_neg e]at this;simpa using this⟩),hid (λ_=>rfl),hid rfl,asQ,rfl,rfl⟩ ?_;rintro _ _ _ ⟨f,m,i,out,X,rfl,hi,a7,hI,a1,hm,ho,rfl,rfl⟩;by_cases h0:s=[];have d:=h.o;rw[<- hR.o,if_pos h0]at d;replace d:=hid d;have f2:¬(0:Int)<(s.length:Int):=by rw[h0];simp
 clear h0;refine wk ?_;exact aY (ac rfl d.o);obtain⟨U,r⟩:=hI.o h0;have f2:(0:Int)<(s.length:Int):=by have:=aqi.2 h0;omega
 clear hI a1 hR h0;have hB:L.length<(L++X).length:=(aps.1 ho).1;by_cases ad:m=32;obtain⟨f,rfl⟩:∃g,f=g+1:=⟨f-1,asP⟩;rw[aby,if_pos (.inl (by rw[<- hm.o];exact ad))]at r;have d:=h.o;rw[<- r]at d;replace d:=hid d;have k:(m:Int)=32:=asP;clear r ad U;refine wk ?_;exact jf d.o;have k1:¬(m:Int)=32:=asP;replace r:=hid r;refine wk ?_;refine aj (λn T' L'=>∃(g i:Nat) (q:Rdn) (v:AV) (Z:List Blk),g=n/\g<=f/\i<=s.length/\q.length<=8/\Hid (s.length-i<g/\tP g out q (s.drop i)=R/\(∀a∈q,a.1.length<=32)/\an0 L.length q v L')/\L'[L.length]?=some (.spare m 1)/\X.length<=Z.length/\T'=[(6,v),(5,.int .i64 (i:Int)),(4,.gsl (out.map aq) m L.length 1),(0,.str s)]/\L'=L++Z) asT ⟨f,i,[],_,X,rfl,apt _,hi,asQ,hid ⟨U,r.o,asQ,.inl ⟨rfl,rfl,rfl⟩⟩,ho,apt _,rfl,rfl⟩ ?_;clear r U ho hi;rintro _ _ _ ⟨g,i,q,v,X1,rfl,bi,hi,av,hI,ho,a3,rfl,rfl⟩;obtain⟨U,r,ht,hv⟩:=hI.o;clear hI;obtain⟨g,rfl⟩:∃g',g=g'+1:=⟨g-1,asP⟩;have ap:L.length<(L++X1).length:=(aps.1 ho).1;refine ade 6 2 L.length rfl ap hv λp Y a0 F=>?_
 rw[apG]at F⊢;have O:(L++(X1++Y))[L.length]?=some (.spare m 1):=by rw[<- apG,apx ap];exact ho
 have z:X.length<=(X1++Y).length:=by simp;omega
 generalize X1++Y=Z at F O z⊢;clear ho ap hv a3 X1 Y;replace z:=hid z;have H:=(aps.1 F).1;have an:=(aps.1 O).1;have hz:p-L.length≠0:=asP;obtain⟨c,hc⟩:∃c:Nat,q.length=c:=⟨_,rfl⟩;rw[aby]at r;rw[hc]at r F av⊢;rw[apB]at H an;replace hz:=hid hz;replace H:=hid H;replace an:=hid an;by_cases I:c=8;rw[if_pos (.inr I)]at r;have d:=h.o;rw[<- r]at d;replace d:=hid d;have k:(c:Int)=8:=asP;clear r I;refine wk ?_;exact jf d.o;rw[if_neg (by rw[<- hm.o];omega)]at r;have k2:¬(c:Int)=8:=asP;replace r:=hid r;replace ht:=hid ht;replace U:=hid U;refine wk ?_;refine aj (λn T' L'=>∃j:Nat,n=s.length-j/\i<=j/\j<=s.length/\Hid (lQ (s.drop i)=(lQ (s.drop j)).map λp=>((s.drop i).take (j-i)++p.1,p.2))/\T'=[(7,.int .i64 (j:Int)),(6,.gsl (bg q) c p 2),(5,.int .i64 (i:Int)),(4,.gsl (out.map aq) m L.length 1),(0,.str s)]/\L'=L++Z) asT ⟨i,rfl,apt _,hi,hid (by rcases lQ (s.drop i)with _|⟨a,b⟩<;>simp),rfl,rfl⟩ ?_;rintro _ _ _ ⟨j,rfl,a2,hj,D,rfl,rfl⟩;by_cases M:j<s.length;rotate_left;have a6:j=s.length:=asP;subst a6;have g1:¬(s.length:Int)<(s.length:Int):=asP;have e:=D.o;rw[aqe]at e;simp only[lQ,aqb]at e;have d:=h.o;rw[<- r.o,e]at d;simp only at d;replace d:=hid d;clear e;refine wk ?_;exact jf d.o;have g1:(j:Int)<(s.length:Int):=asP;have g2:=apn j asP;obtain⟨x,hx⟩:=apl (s.getD j 0);by_cases Q:x=61;rotate_left;have g3:¬(x.toNat:Int)=61:=λe=>Q ((bQ x 61).1 e)
 have ai:=hid (ah3 a2 M (by rw[hx];exact Q) D.o);clear Q;refine wk ?_;exact asU asP asS ⟨j+1,rfl,asP,M,ai,rfl,rfl⟩;subst Q;have g3:((61:UInt8).toNat:Int)=61:=rfl;have C:lQ (s.drop i)=some ((s.drop i).take (j-i),s.drop (j+1)):=by rw[D.o,nh M,hx];simp[lQ]
 clear D;obtain⟨typ,V⟩:=apl ((s.drop i).take (j-i));have a8:typ.length<=4096:=by rw[<- V];have:=hs.o;simp;omega
 have T:(typ.length:Int)<=100000:=asP;rw[V]at C;have B:=r.o;rw[C]at B;simp only at B;have g4:¬(j:Int)=(s.length:Int):=asP;have g5:(i:Int)<=(j:Int):=asP;have g6:(j:Int)<=(s.length:Int):=asP;replace B:=hid B;clear C r;cases hty:jG typ with
 | false =>
   have d:=h.o;rw[<- B.o,if_pos hty]at d;replace d:=hid d;have kk1:=@asW _ _ _ _ (agq T);refine wk ?_;exact jf d.o
 |true =>
 have G:=B.o;rw[if_neg (by rw[hty];simp)]at G;replace G:=hid G;clear B;have a':=hid (show p≠L.length+Z.length by have:=H.o;omega);have b1:∀b,(L++(Z++[b]))[p]?=some (.spare c 2):=λb=>by rw[<- apG,apx (aps.1 F).1];exact F
 have b2:∀A b,(L++(Z++[b])).set p A=L++(Z.set (p-L.length) A++[b]):=λA b=>by rw[apW _ _ asP,aqB _ _ (by have:=H.o;omega)]
 have b3:∀A b,(L++(Z.set (p-L.length) A++[b]))[L.length]?=some (.spare m 1):=λA b=>by rw[<- b2,apM asP,<- apG,apx (aps.1 O).1];exact O
 have b4:∀A b,(L++(Z.set (p-L.length) A++[b]))[p]?=some A:=λA b=>by rw[<- b2,ap3,if_pos rfl,if_pos (by have:=H.o;simp;omega)]
 have bk:(i:Int).toNat=i:=asP;have kk1:=@asW _ _ _ _ (agq T);refine wk ?_;refine alD hc av ht.o asP ?_;cases hha:lZ q typ with
 | true =>
   have d:=h.o;rw[<- G.o,if_pos hha]at d;replace d:=hid d;refine asX ?_;exact jf d.o
 |false =>
 have E:=G.o;rw[if_neg (by rw[hha];simp)]at E;replace E:=hid E;clear G;refine asX ?_;refine ahj (at0:=j+1) asP (by have:=hs.o;omega) M ?_;rcases hvl:np [] false (s.drop (j+1))with _|⟨w,r2⟩;have d:=h.o;rw[<- E.o,hvl]at d;simp only at d;replace d:=hid d;simp only[ae0];refine asX ?_;exact jf d.o;have u:=E.o;rw[hvl]at u;simp only at u;have J:=aiB _ (apt _) (agZ hvl);have N:r2=s.drop (s.length-r2.length):=List.suffix_iff_eq_drop.1 (J.trans (List.drop_suffix _ _));have a4:r2.length<=s.length-(j+1):=by have:=J.length_le;simpa using this
 obtain⟨t,S⟩:=apl (s.length-r2.length);rw[S]at N;have bb:j<t:=asP;have a_:t<=s.length:=asP;simp only[ae0,S];replace u:=hid u;clear E hvl J;replace N:=hid N;have q1:(c+1)*32<=140737488355328:=asP;have q2:c+1<=140737488355328:=asP;have q3:(m+1)*24<=140737488355328:=asP;have q4:m+1<=140737488355328:=asP;have e1:bg q++[AV.str typ,AV.str w]=bg (q++[(typ,w)]):=(acb _ _ _).symm;have e2:out.map aq++[AV.sl (AV.frzL (bg q++[AV.str typ,AV.str w])) (c+1) none]=(out++[q++[(typ,w)]]).map aq:=by rw[e1,gP,ap1];simp[hc]
 have e3:(out++[q++[(typ,w)]]).length=m+1:=by simp[hm.o]
 have e4:(q++[(typ,w)]).length=c+1:=by simp[hc]
 have e5:∀a∈q++[(typ,w)],a.1.length<=32:=λa ha=>by rcases apy.1 ha with h|h;exact ht.o a h;rw[apT.1 h];exact wS hty
 have s4:∀(W:List Blk) A,(L++W).set L.length A=L++W.set 0 A:=λW A=>by rw[apW _ _ (apt _),aqR]
 have g7:IntKind.i64.wrap ((t:Int)+1)=(t:Int)+1:=ae (by have:=hs.o;omega) (by have:=hs.o;omega);replace e1:=hid e1;replace e2:=hid e2;replace e3:=hid e3;replace e4:=hid e4;replace e5:=hid e5;cases r2 with
 | nil =>
   have d:=h.o;rw[<- u.o]at d;simp only at d;replace d:=hid d;have a5:t=s.length:=(by simp at S;omega);subst a5;refine asX ?_;rw[e2.o];refine aY (ac ?_ ?_)
   .simp only[AV.frz,AV.frzL,bB,AV.refs,AV.refsL,fD,arx]
   .simp only[AV.frz,AV.frzL,bB];have:=d.o;simp only[aa0,e3.o]at this;exact this
 | cons x s' =>
   simp only at u;have y:t<s.length:=(by simp at S a4;omega);have k3:¬(t:Int)=(s.length:Int):=asP;have k4:(t:Int)<(s.length:Int):=asP;have al:=N.o;rw[nh y]at al;obtain⟨ar,P⟩:=List.cons.inj al;have a9:=ar.symm;replace P:=hid P;clear al ar;by_cases hx:x=44
   .subst hx;refine asX ?_;rw[e2.o];refine asU ?_ (CutS (b:=?_)) ⟨g,m+1,t+1,out++[q++[(typ,w)]],_,rfl,y,?_,hid λ_=>⟨?_,?_⟩,hid λe=>?_,hid e3.o.symm,?_,rfl,rfl⟩
    .omega
    .simp
    .have:=hm.o;omega
    .have:=U.o;omega
    .rw[<- P.o,<- u.o,if_pos rfl]
    .rw[e]at y;simp at y
    .rw[<- s4,ap3,if_pos rfl,if_pos asQ]
   .have q6:¬(x.toNat:Int)=44:=λe=>hx ((bQ x 44).1 e)
    refine asX ?_;rw[e1.o];refine asU ?_ (CutS (b:=?_)) ⟨g,t+1,q++[(typ,w)],_,_,rfl,?_,y,?_,hid ⟨?_,?_,e5.o,.inr ⟨p,a0,by rw[e4.o],by rw[e4.o];exact b4 _ _⟩⟩,b3 _ _,?_,rfl,rfl⟩
    .omega
    .have:=z.o;simp;omega
    .omega
    .rw[e4.o];omega
    .have:=U.o;omega
    .rw[<- P.o,<- u.o,if_neg hx]
    .have:=z.o;simp;omega
theorem WG(sep x:List UInt8):∀xs:List (List UInt8),Lib.join (xs++[x]) sep=if xs=[]then x else Lib.join xs sep++sep++x
 |[]=>by simp[Lib.join,List.intercalate]
 |[y]=>by simp[Lib.join,List.intercalate]
 |y::z::l=>by have a:=WG sep x (z::l);rw[if_neg asQ]at a⊢;have b:Lib.join (y::z::l++[x]) sep=y++(sep++Lib.join (z::l++[x]) sep):=(by simp[Lib.join,List.intercalate]);have c:Lib.join (y::z::l) sep=y++(sep++Lib.join (z::l) sep):=(by simp[Lib.join,List.intercalate]);rw[b,a,c];simp
theorem YS{d:List Rdn}{cap:Option Nat}(hn:d.length<=1000)(hr:∀r∈d,r.length<=1000/\∀a∈r,a.1.length<=10000/\a.2.length<=10000){L:List Blk}{K:apr}(h:K (.str (bp false d)) L):
  apq 88 [.sl (d.map aq) d.length cap] L K:=by
 replace h:=hid h;have al:=hid (λk=>@nv d k);replace hr:=hid hr;refine apo YB ?_;refine aj (λn T' L'=>∃(i:Nat) (g:List UInt8) (Z:List Blk),n=d.length-i/\i<=d.length/\g.length<=i*50000000/\Hid (g=Lib.join ((d.take i).map (dy false)) [44])/\T'=[(10,.int .i64 (i:Int)),(9,.int .i64 d.length),(8,.sl (d.map aq) d.length cap),(3,.str g)]/\L'=L++Z) asT ⟨0,[],[],rfl,apv _,asQ,hid (by simp[Lib.join]),rfl,asQ⟩ ?_;rintro _ _ _ ⟨i,g,X,rfl,hi,v,s,rfl,rfl⟩;by_cases m:i<d.length
 .have g1:(i:Int)<(d.length:Int):=asP;have g2:=apn i asP;have e2:=al.o i m;have J:d.getD i []∈d:=(by rw[apO,apD m];exact aqr _);have R:=hr.o _ J;obtain⟨r,F⟩:=apl (d.getD i []);have G:d.take (i+1)=d.take i++[r]:=(by rw[apK m,<- F];simp[m]);rw[F]at e2 R;clear F J;obtain⟨an,t⟩:=R;replace t:=hid t;obtain⟨B,I⟩:=apl ((if 0<i then g++[44]else g));have U:B.length<=i*50000000+1:=by rw[<- I];split;exact apR (Nat.le_of_eq asQ) (Nat.add_le_add_right v 1);exact apR v (Nat.le_add_right _ _)
  have u:B++dy false r=Lib.join ((d.take (i+1)).map (dy false)) [44]:=by rw[G,ap1,List.map_singleton,WG,<- s.o,<- I];by_cases q:0<i;rw[if_pos q,if_neg];intro e;rcases List.take_eq_nil_iff.1 (List.map_eq_nil_iff.1 e)with e|e;omega;rw[e]at m;simp at m;have:i=0:=asP;subst this;simp at v;simp[v]
  replace u:=hid u;replace I:=hid I;replace G:=hid G;have av:(i:Int)<=1000:=asP;have V:((g.length+1:Nat):Int)<=9223372036854775807:=asP
  iterate 12 first
   |refine bG ?_
   | (first|refine bw asR ?_|refine aN asR ?_|refine aQ ?_|refine cS ?_|refine bJ (fun _=>?_)|refine aF ?_|refine bA ?_)
     simp(config:={maxSteps:=2000000}) only[Kon,push_cast,reduceIte,Nat.reduceEqDiff,Nat.reduceAdd,Nat.reduceMul,Nat.reduceSub,Nat.reduceLT,Nat.reduceLeDiff,Int.reduceLT,Int.reduceLE,Int.reduceAdd,Int.reduceSub,Int.reduceNeg,Int.reduceToNat,Int.reduceEq,reduceCtorEq, *]
   | (first|refine bq asR ?_|refine bm ?_|refine aP ?_|refine bz ?_|refine bO (aE ?_))
     simp only[push_cast,reduceIte,Nat.reduceEqDiff,Nat.reduceAdd,Nat.reduceMul,Nat.reduceSub,Nat.reduceLT,Nat.reduceLeDiff,Int.reduceLT,Int.reduceLE,Int.reduceAdd,Int.reduceSub,Int.reduceNeg,Int.reduceToNat,Int.reduceEq,reduceCtorEq, *]
   |exact bK
   |first|apply bL|apply br|apply bM|apply bu|apply bN|apply bv
   |refine aT ?_
   |refine aO ?_
   |first|refine aR rfl ?_|refine aS rfl ?_|refine aB rfl ?_ ?_|refine aW rfl (λ_=>?_) (λ_=>?_)|refine aV rfl (λ_=>?_) (λ_=>?_)
   |((first|refine aA (λ_=>?_) (λ_=>?_)|refine aD (λ_=>?_) (λ_=>?_))<;>try simp(config:={maxSteps:=2000000}) only[Kon,push_cast,reduceIte,Nat.reduceEqDiff,Nat.reduceAdd,Nat.reduceMul,Nat.reduceSub,Nat.reduceLT,Nat.reduceLeDiff,Int.reduceLT,Int.reduceLE,Int.reduceAdd,Int.reduceSub,Int.reduceNeg,Int.reduceToNat,Int.reduceEq,reduceCtorEq, *])
   |refine And.intro trivial ?_
   |refine And.intro asP ?_
   |refine bd rfl (λ_=>?_) (λ_=>?_)
   |refine And.intro ?_ ?_
  refine OV (λT2 L2=>T2=[(3,.str B),(5,aq r),(10,.int .i64 (i:Int)),(9,.int .i64 d.length),(8,.sl (d.map aq) d.length cap)]/\L2=L++X) ?_ ?_;by_cases q:0<i;have W:(0:Int)<(i:Int):=asP;have f:=I.o;rw[if_pos q]at f;subst f;clear q;refine wk ?_;exact jQ _ _ asS ⟨rfl,rfl⟩;have W:¬(0:Int)<(i:Int):=asP;have f:=I.o;rw[if_neg q]at f;subst f;clear q;refine wk ?_;exact jQ _ _ asS ⟨rfl,rfl⟩;rintro _ _ ⟨rfl,rfl⟩ -;refine wk ?_;refine aj (λn T' L'=>∃(k:Nat) (c:List UInt8) (Z:List Blk),n=r.length-k/\k<=r.length/\c.length<=i*50000000+1+k*40002/\X.length<=Z.length/\Hid (c=B++Lib.join ((r.take k).map (avT false)) [43])/\T'=[(21,.int .i64 (k:Int)),(20,.int .i64 r.length),(19,aq r),(10,.int .i64 (i:Int)),(9,.int .i64 d.length),(8,.sl (d.map aq) d.length cap),(3,.str c)]/\L'=L++Z) asT ⟨0,B,X,rfl,apv _,asP,apt _,hid (by simp[Lib.join]),rfl,rfl⟩ ?_;rintro _ _ _ ⟨k,c,Z,rfl,hk,x,z,l,rfl,rfl⟩;replace z:=hid z;by_cases j:k<r.length
  .have g3:(k:Int)<(r.length:Int):=asP;have g4:=apn k asP;have e3:=gQ j;have e4:k*2+2<=(bg r).length:=(by rw[dp];omega);obtain⟨⟨ty,D⟩,T⟩:∃a,r.getD k ([],[])=a:=⟨_,rfl⟩;have S:(ty,D)∈r:=(by rw[<- T];simp[j]);have A:r.take (k+1)=r.take k++[(ty,D)]:=(by rw[apK j,<- T];simp[j]);rw[T]at e3;simp only[pD]at e3;have E:=t.o _ S;simp only at E;have Q:D.length<=100000:=asP;have ad:=Tp D.length D 0;obtain⟨C,N⟩:=apl (gS D);have ar:C.length<=30000:=(by rw[<- N];unfold gS;omega);have a1:=E.1;obtain⟨y,p⟩:=apl ((if 0<k then c++[43]else c));have ap:y.length<=i*50000000+1+k*40002+1:=by rw[<- p];split;exact apR (Nat.le_of_eq asQ) (Nat.add_le_add_right x 1);exact apR x (Nat.le_add_right _ _)
   have w:y++ty++[61]++C=B++Lib.join ((r.take (k+1)).map (avT false)) [43]:=by rw[A,ap1,List.map_singleton,WG,<- p];have e0:avT false (ty,D)=ty++[61]++C:=(by simp[avT,N]);by_cases q:0<k;rw[if_pos q,if_neg,l.o,e0];simp;intro e;rcases List.take_eq_nil_iff.1 (List.map_eq_nil_iff.1 e)with e|e;omega;rw[e]at j;simp at j;have:k=0:=asP;subst this;have:=l.o;simp only[aqX,ara]at this;rw[if_neg asP,this,e0];simp[Lib.join]
   replace w:=hid w;have Y:(y++ty++[61]++C).length=y.length+ty.length+1+C.length:=(by simp only[apB,apC,ap9]);have O:(y++ty++[61]++C).length<=i*50000000+1+(k+1)*40002:=(by rw[Y];omega);replace p:=hid p;clear ad T S E A;have a0:k<1000:=asP;have b0:((c.length+1:Nat):Int)<=9223372036854775807:=asP;have b1:((y.length+ty.length:Nat):Int)<=9223372036854775807:=asP;have b2:((y.length+ty.length+1:Nat):Int)<=9223372036854775807:=asP;have b3:((y.length+ty.length+1+C.length:Nat):Int)<=9223372036854775807:=asP;simp only[Int.natCast_add,Int.cast_ofNat_Int]at b0 b1 b2 b3
   iterate 12 first
    |refine bG ?_
    | (first|refine bw asR ?_|refine aN asR ?_|refine aQ ?_|refine cS ?_|refine bJ (fun _=>?_)|refine aF ?_|refine bA ?_)
      simp(config:={maxSteps:=2000000}) only[Kon,push_cast,reduceIte,Nat.reduceEqDiff,Nat.reduceAdd,Nat.reduceMul,Nat.reduceSub,Nat.reduceLT,Nat.reduceLeDiff,Int.reduceLT,Int.reduceLE,Int.reduceAdd,Int.reduceSub,Int.reduceNeg,Int.reduceToNat,Int.reduceEq,reduceCtorEq, *]
    | (first|refine bq asR ?_|refine bm ?_|refine aP ?_|refine bz ?_|refine bO (aE ?_))
      simp only[push_cast,reduceIte,Nat.reduceEqDiff,Nat.reduceAdd,Nat.reduceMul,Nat.reduceSub,Nat.reduceLT,Nat.reduceLeDiff,Int.reduceLT,Int.reduceLE,Int.reduceAdd,Int.reduceSub,Int.reduceNeg,Int.reduceToNat,Int.reduceEq,reduceCtorEq, *]
    |exact bK
    |first|apply bL|apply br|apply bM|apply bu|apply bN|apply bv
    |refine aT ?_
    |refine aO ?_
    |first|refine aR rfl ?_|refine aS rfl ?_|refine aB rfl ?_ ?_|refine aW rfl (λ_=>?_) (λ_=>?_)|refine aV rfl (λ_=>?_) (λ_=>?_)
    |((first|refine aA (λ_=>?_) (λ_=>?_)|refine aD (λ_=>?_) (λ_=>?_))<;>try simp(config:={maxSteps:=2000000}) only[Kon,push_cast,reduceIte,Nat.reduceEqDiff,Nat.reduceAdd,Nat.reduceMul,Nat.reduceSub,Nat.reduceLT,Nat.reduceLeDiff,Int.reduceLT,Int.reduceLE,Int.reduceAdd,Int.reduceSub,Int.reduceNeg,Int.reduceToNat,Int.reduceEq,reduceCtorEq, *])
    |refine And.intro trivial ?_
    |refine And.intro asP ?_
    |refine bd rfl (λ_=>?_) (λ_=>?_)
    |refine And.intro ?_ ?_
   refine OV (λT2 L2=>T2=[(3,.str y),(7,.ptr (L.length+Z.length) 0),(21,.int .i64 (k:Int)),(20,.int .i64 r.length),(19,aq r),(10,.int .i64 (i:Int)),(9,.int .i64 d.length),(8,.sl (d.map aq) d.length cap)]/\L2=L++(Z++[.cells [.str ty,.str D]])) ?_ ?_;by_cases q:0<k;have W:(0:Int)<(k:Int):=asP;have f:=p.o;rw[if_pos q]at f;subst f;clear q;refine wk ?_;exact jQ _ _ asS ⟨rfl,rfl⟩;have W:¬(0:Int)<(k:Int):=asP;have f:=p.o;rw[if_neg q]at f;subst f;clear q;refine wk ?_;exact jQ _ _ asS ⟨rfl,rfl⟩;rintro _ _ ⟨rfl,rfl⟩ -;have kk1:=@asW _ _ _ _ (nr Q);refine wk ?_;exact asU asP (CutL (b:=by have:=z.o;simp;omega)) ⟨k+1,y++ty++[61]++C,_,rfl,j,O,by have:=z.o;simp;omega,w,rfl,rfl⟩
  have H:k=r.length:=asP;subst H;have g3:¬(r.length:Int)<(r.length:Int):=asP;have ai:c.length<=(i+1)*50000000:=by rw[arG];clear v U V;generalize i*50000000=M at x⊢;omega
  have e:=l.o;rw[apJ,show Lib.join (r.map (avT false)) [43]=dy false r by simp[dy],u.o]at e;replace e:=hid e;refine wk ?_;exact asU asP asS ⟨i+1,c,_,rfl,m,ai,e,rfl,rfl⟩
 have H:i=d.length:=asP;subst H;have g1:¬(d.length:Int)<(d.length:Int):=asP;have e:=s.o;rw[apJ]at e;have P:=h.o;simp only[bp]at P;rw[<- e]at P;replace P:=hid P;clear s e;refine wk ?_;exact ac rfl P.o
def TE(r:Rdn):Nat:=(r.map λa=>min a.2.length 5000).sum
def Yo(d:List Rdn):Nat:=(d.map TE).sum
theorem aiw(n:Nat):∀(s:List UInt8) (i:Nat),s.length<=(wrL n i s).length
 |[],_=>asQ
 | c::s,i=>by
   have b:=aiw n s (i+1);have a:1<=(wrB i n c).length:=by
    unfold wrB;split
    .simp
    .split<;>simp
   simp only[wrL,apB,apC];omega
theorem acG(sep:List UInt8):∀xs:List (List UInt8),(xs.map List.length).sum<=(Lib.join xs sep).length
 |[]=>by simp[Lib.join]
 |[x]=>by simp[Lib.join,List.intercalate]
 |x::y::l=>by have a:=acG sep (y::l);have e:Lib.join (x::y::l) sep=x++(sep++Lib.join (y::l) sep):=(by simp[Lib.join,List.intercalate]);rw[e];simp only[apX,arb,apB]at a⊢;omega
theorem alv(r:Rdn):TE r<=(dy false r).length:=by
 have c:TE r<=((r.map (avT false)).map List.length).sum:=by
  induction r with
  |nil=>simp[TE]
  | cons a r ih =>
    have b:=aiw a.2.length a.2 0;have d:min a.2.length 5000<=(avT false a).length:=by simp only[avT,apL,if_false,apB,gS];omega
    simp only[TE,apX,arb]at ih⊢;omega
 have b:=acG [43] (r.map (avT false));simp only[dy,apL,if_false];omega
theorem ak8(d:List Rdn):Yo d<=(bp false d).length:=by
 have c:Yo d<=((d.map (dy false)).map List.length).sum:=by
  induction d with
  |nil=>simp[Yo]
  | cons a r ih =>
    have b:=alv a;simp only[Yo,apX,arb]at ih⊢;omega
 have b:=acG [44] (d.map (dy false));simp only[bp];omega
theorem acA:∀{l:List Nat}{x:Nat},x∈l->x<=l.sum
 |[],_,h=>by cases h
 | y::l,x,h=>by
   rw[arb];rcases apP.1 h with rfl|h
   .omega
   .have:=acA h;omega
theorem aiY(h:Yo d<=4096):∀r∈d,∀a∈r,a.2.length<=4096:=λr b a c=>by
 have g:TE r<=Yo d:=by unfold Yo;exact acA (ar7 b)
 have e:min a.2.length 5000<=TE r:=by unfold TE;exact acA (ar7 (f:=λa:Ava=>min a.2.length 5000) c)
 omega
theorem ajG(h:∀r∈d,∀a∈r,a.2.length<=4096):JV d=false:=by unfold JV N5;rw[aq0];intro r b;simp only[aq7,aq0,decide_eq_true_eq];intro a c;have:=h r b a c;omega
theorem alC(c:r.length=n)(f:n<=8)(b:∀a∈r,a.1.length<=32)(e:typ.length<=32)(h:K (.bool (lZ r typ)) L):
  apq 87 [.sl (bg r) n cap,.str typ] L K:=by
 subst c;exact ai7 asP (λa d=>by have:=b a d;omega) asP h
theorem rG(hn:d.length<=1100000)(U:∀r∈d,r.length<=1100000/\∀a∈r,(a.1.length:Int)<=140737488351232)(h:K (kG (prS d)) L):apq 37 [.sl (d.map aq) d.length cap] L K:=by
 obtain⟨R,hR⟩:=apl (prS d);rw[hR]at h;replace h:=hid h;have a0:=hid (λk=>@nv d k);replace U:=hid U;have j:jK 0 d≠0->R=([],jK 0 d):=λe=>by rw[<- hR,prS,if_pos e]
 replace j:=hid j;replace hR:=hid hR;refine apo W5 ?_;refine aj (λn T' L'=>∃(i:Nat) (c:Int) (X:List Blk),n=d.length-i/\i<=d.length/\i<=32/\Hid (c=(Yo (d.take i):Nat)/\c<=40000*i)/\Hid (jK i (d.drop i)=jK 0 d)/\T'=[(11,.int .i64 (i:Int)),(10,.int .i64 d.length),(9,.sl (d.map aq) d.length cap),(4,.int .i64 c),(0,.sl (d.map aq) d.length cap)]/\L'=L++X) asT ⟨0,0,[],rfl,apv _,asP,hid ⟨rfl,asP⟩,hid rfl,rfl,asQ⟩ ?_;rintro _ _ _ ⟨i,c,X,rfl,hi,a4,hc,he,rfl,rfl⟩;by_cases q:i<d.length
 .have g1:(i:Int)<(d.length:Int):=asP;have g2:=apn i asP;have e2:=a0.o i q;have ad:d.getD i []∈d:=(by rw[apO,apD q];exact aqr _);obtain⟨av,E⟩:=U.o (d.getD i []) ad;obtain⟨r,D⟩:=apl (d.getD i []);have al:d.drop i=r::d.drop (i+1):=(by rw[apY q,<- D];simp[q]);have V:d.take (i+1)=d.take i++[r]:=(by rw[apK q,<- D];simp[q]);rw[D]at e2 av E;have b:=he.o;rw[al,jK]at b;clear al D ad;replace E:=hid E;replace V:=hid V;by_cases v:i=32;rw[if_pos v]at b;have f:=h.o;rw[j.o (by rw[<- b];decide),<- b]at f;replace f:=hid f;have k1:(i:Int)=32:=asP;have a7:(32:Int)<(d.length:Int):=asP;clear v b;refine wk ?_;exact ac rfl f.o;rw[if_neg v]at b;have k1:¬(i:Int)=32:=asP;by_cases I:r=[];rw[if_pos I]at b;subst I;have f:=h.o;rw[j.o (by rw[<- b];decide),<- b]at f;replace f:=hid f;clear v b;refine wk ?_;exact ac rfl f.o;rw[if_neg I]at b;have k2:¬(r.length:Int)=0:=(by have:=aqi.2 I;omega);have l:∀e:Int,dX [] r=e->e≠0->K (.tup [.str [],.int .i64 e]) L:=λe a1 a2=>by rw[if_pos (by rw[a1];exact a2),a1]at b;have f:=h.o;rwa[j.o (by rw[<- b];exact a2),<- b]at f
  replace l:=hid l;replace b:=hid b;clear v;refine wk ?_;refine aj (λn T' L'=>∃(k:Nat) (c':Int) (Y:List Blk),n=r.length-k/\k<=r.length/\k<=8/\Hid (c'=c+(TE (r.take k):Nat)/\0<=c'/\c'<=40000*i+5000*k)/\Hid (dX (r.take k) (r.drop k)=dX [] r/\∀a∈r.take k,a.1.length<=32)/\T'=[(23,.int .i64 (k:Int)),(22,.int .i64 r.length),(21,aq r),(6,aq r),(11,.int .i64 (i:Int)),(10,.int .i64 d.length),(9,.sl (d.map aq) d.length cap),(4,.int .i64 c'),(0,.sl (d.map aq) d.length cap)]/\L'=L++(X++Y)) asT ⟨0,c,[],rfl,apv _,asP,hid ⟨by simp[TE],by have:=hc.o;omega,by have:=hc.o;omega⟩,hid ⟨rfl,asQ⟩,rfl,asQ⟩ ?_;rintro _ _ _ ⟨k,c',Y,rfl,hk,a5,S,B,rfl,rfl⟩;by_cases p:k<r.length
  .have g3:(k:Int)<(r.length:Int):=asP;have g4:=apn k asP;have e3:=gQ p;have e4:k*2+2<=(bg r).length:=(by rw[dp];omega);obtain⟨⟨ty,P⟩,w⟩:∃a,r.getD k ([],[])=a:=⟨_,rfl⟩;have ap:(ty,P)∈r:=(by rw[<- w];simp[p]);have an:r.drop k=(ty,P)::r.drop (k+1):=(by rw[apY p,<- w];simp[p]);have A:r.take (k+1)=r.take k++[(ty,P)]:=(by rw[apK p,<- w];simp[p]);rw[w]at e3;simp only[pD]at e3;have O:=E.o _ ap;simp only at O;obtain⟨s,H⟩:=B.o;rw[an,dX]at s;have Z:(r.take k).length=k:=(by simp;omega);rw[Z]at s;clear an w B ap;have e5:(bg r).take (k*2)=bg (r.take k):=Xk;have g5:(k:Int)<=(r.length:Int):=asP;replace s:=hid s;replace H:=hid H;replace A:=hid A;have e6:=hid Z;clear Z
   repeat' first
    |refine bG ?_
    | (first|refine bw asR ?_|refine aN asR ?_|refine aQ ?_|refine cS ?_|refine bJ (fun _=>?_)|refine aF ?_|refine bA ?_)
      refine sm ?_
    | (first|refine bq asR ?_|refine bm ?_|refine aP ?_|refine bz ?_|refine bO (aE ?_))
      refine sl ?_
    |exact bK
    |first|apply bL|apply br|apply bM|apply bu|apply bN|apply bv
    |refine aT ?_
    |refine aO ?_
    |first|refine aR rfl ?_|refine aS rfl ?_|refine aB rfl ?_ ?_|refine aW rfl (λ_=>?_) (λ_=>?_)|refine aV rfl (λ_=>?_) (λ_=>?_)
    |((first|refine aA (λ_=>?_) (λ_=>?_)|refine aD (λ_=>?_) (λ_=>?_))<;>try refine sm ?_)
    |refine And.intro trivial ?_
    |refine And.intro asP ?_
    |refine bd rfl (λ_=>?_) (λ_=>?_)
    |refine And.intro ?_ ?_
   rename_i h8;have f:=hid (l.o 9 (by rw[<- s.o,if_pos asP]) (by decide));exact ac rfl f.o;rename_i h8;have m:=s.o;rw[if_neg asP]at m;replace m:=hid m;refine adw O ?_;cases hty:jG ty with
   | false =>
     have f:=hid (l.o 20 (by rw[<- m.o,if_pos hty]) (by decide));clear m;refine asX ?_;exact ac rfl f.o
   | true =>
     have u:=m.o;rw[if_neg (by rw[hty];simp)]at u;replace u:=hid u;have ai:=wS hty;clear m;refine asX ?_;refine aM (alC e6.o asP H.o ai ⟨rfl,rfl⟩) ?_;cases hha:lZ (r.take k) ty with
     | true =>
       have f:=hid (l.o 21 (by rw[<- u.o,if_pos hha]) (by decide));refine asX ?_;exact ac rfl f.o
     | false =>
       have C:=u.o;rw[if_neg (by rw[hha];simp),<- A.o]at C;replace C:=hid C;clear u;obtain⟨z,hz⟩:∃z:Int,(if(5000:Int)<(P.length:Int)then 5000 else(P.length:Int))=z:=⟨_,rfl⟩;have Q:z=((min P.length 5000:Nat):Int):=(by rw[<- hz];split<;>omega);have a6:IntKind.i64.wrap (c'+z)=c'+z:=by have:=S.o;exact ae asP asP
       replace Q:=hid Q;refine asX ?_;refine asU asP asS ⟨k+1,c'+z,Y++[.cells [.str ty,.str P]],rfl,p,asP,hid ?_,hid ⟨C.o,λa w=>?_⟩,rfl,asQ⟩
       .have:=S.o;have e:TE (r.take (k+1))=TE (r.take k)+min P.length 5000:=(by rw[A.o];simp[TE]);have:=Q.o;omega
       rw[A.o]at w;rcases apy.1 w with h|h
       .exact H.o a h
       .rw[apT.1 h];exact ai
  have W:k=r.length:=asP;subst W;have g3:¬(r.length:Int)<(r.length:Int):=asP;have hz:=B.o.1;rw[aqe,dX]at hz;have y:=b.o;rw[<- hz]at y;simp only[ne_eq,not_true_eq_false,if_false]at y;replace y:=hid y;have J:=S.o;rw[apJ]at J;replace J:=hid J;clear hz;refine wk ?_;refine asU asP asT ⟨i+1,c',X++Y,rfl,q,asP,hid ?_,hid y.o,rfl,rfl⟩;have e:Yo (d.take (i+1))=Yo (d.take i)+TE r:=(by rw[V.o];simp[Yo]);have:=J.o;have:=hc.o;omega
 have W:i=d.length:=asP;subst W;have g1:¬(d.length:Int)<(d.length:Int):=asP;have t:=he.o;rw[aqe,jK]at t;have G:=hc.o.1;rw[apJ]at G;have g:=hR.o;rw[prS,if_neg (by rw[<- t];simp)]at g;have T:=ak8 d;by_cases x:4096<Yo d;have k1:(4096:Int)<c:=asP;have f:=h.o;rw[<- g]at f;have e:(if JV d=true then(([]:List UInt8),(5:Int))else if 4096<(bp false d).length then([],5)else(bp false d,0))=([],5):=by split;rfl;rw[if_pos asP]
 rw[e]at f;replace f:=hid f;clear x T G e g t;refine wk ?_;exact ac rfl f.o;have k1:¬(4096:Int)<c:=asP;have F:=aiY (d:=d) asP;obtain⟨a3,N⟩:=Y1 d 0 t.symm asP;rw[ajG F,if_neg asQ]at g;replace F:=hid F;replace N:=hid N;have ar:=hid (show ∀r∈d,r.length<=1000/\∀a∈r,a.1.length<=10000/\a.2.length<=10000 from λr U=>⟨by have:=(N.o r U).1;omega,λa w=>⟨by have:=(N.o r U).2 a w;omega,by have:=F.o r U a w;omega⟩⟩);by_cases M:4096<(bp false d).length;have k2:(4096:Int)<((bp false d).length:Int):=asP;have f:=h.o;rw[<- g,if_pos M]at f;replace f:=hid f;clear x T G g t M;have kk1:=@asW _ _ _ _ (YS (cap:=cap) asP ar.o);refine wk ?_;exact ac rfl f.o;have k2:¬(4096:Int)<((bp false d).length:Int):=asP;have f:=h.o;rw[<- g,if_neg M]at f;replace f:=hid f;clear x T G g t M;have kk1:=@asW _ _ _ _ (YS (cap:=cap) asP ar.o);refine wk ?_;exact ac rfl f.o
def Ed(a:Ava):Ava:=(ak a.1,cg a.2)
abbrev ER(a:Ava):List UInt8:=avT false a
def EJ(l:Rdn)(x:Ava):Nat->Nat
 |0=>0
 |n+1=>if ER x<ER (l.getD n ([],[]))then EJ l x n else n+1
def N8(l:Rdn)(x:Ava):Rdn:=l.take (EJ l x l.length)++[x]++l.drop (EJ l x l.length)
def iM(r:Rdn):Rdn:=r.foldl (λl a=>N8 l (Ed a)) []
def gX(d:List Rdn):List Rdn:=d.map iM
theorem agt(l:Rdn)(x:Ava):∀n,EJ l x n<=n
 |0=>apt _
 |n+1=>by have:=agt l x n;unfold EJ;split<;>omega
theorem aea(l:Rdn)(x:Ava):(N8 l x).length=l.length+1:=by simp[N8];omega
theorem adI(h:k<r.length):iM (r.take (k+1))=N8 (iM (r.take k)) (Ed (r.getD k ([],[]))):=by unfold iM;rw[apK h,arP];simp[h]
theorem Z3(r:Rdn):∀l:Rdn,(r.foldl (λl a=>N8 l (Ed a)) l).length=l.length+r.length:=by
 induction r with
 |nil=>simp
 |cons a r ih=>intro l;rw[aqt,ih,aea];simp;omega
theorem tf(r:Rdn):(iM r).length=r.length:=by simp[iM,Z3]
theorem aia  :(bg r).drop (k*2)=bg (r.drop k):=by
 induction r generalizing k with
 |nil=>simp[bg]
 | cons a r ih =>
   cases k with
   |zero=>simp[bg]
   | succ k =>
     have:=@ih k;simp only[bg]at this;rw[show(k+1)*2=k*2+1+1 by omega];simp[bg,pD,this]
theorem aca(r q:Rdn):bg (r++q)=bg r++bg q:=by simp[bg]
theorem agu(l:Rdn)(x:Ava):∀(n j:Nat),EJ l x n<=j->j<n->ER x<ER (l.getD j ([],[]))
 |0,_,_,h=>asP
 | n+1,j,h1,h2=>by
   unfold EJ at h1;split at h1
   .rename_i hk;rcases apV j n with e|e
    .exact agu l x n j h1 e
    grind
   omega
theorem agv(l:Rdn)(x:Ava):∀n,EJ l x n=0\/¬ER x<ER (l.getD (EJ l x n-1) ([],[]))
 |0=>.inl rfl
 | n+1=>by
   unfold EJ;split
   .exact agv l x n
   simp_all
def acd(l:Rdn):Prop:=l.Pairwise λa b=>ER a<=ER b
theorem afv{l:Rdn}{x:Ava}(s:acd l):acd (N8 l x):=by
 have g:=agu l x l.length;have d:=agv l x l.length;have j:=agt l x l.length;unfold N8;obtain⟨p,w⟩:=apl (EJ l x l.length);rw[w]at g d j⊢;have m:acd (l.take p++l.drop p):=by rw[aq5];exact s
 obtain⟨u,v,t⟩:=asG.1 m;have o:∀a∈l.take p,ER a<=ER x:=λa o=>by
  rcases d with e|e;simp_all;have f:p-1<l.length:=by grind
  refine List.le_trans ?_ (arA.1 e);obtain⟨i,r,rfl⟩:=aqn.1 o;rw[ar8];have n:l.getD (p-1) ([],[])=l[p-1]:=(by simp[f]);rw[n];rcases apV i (p-1)with q|q;exact(aqC.1 s) i (p-1) asP f q
  grind
 have k:∀b∈l.drop p,ER x<=ER b:=λb k=>by obtain⟨i,r,rfl⟩:=aqn.1 k;simp only[aqT]at r;rw[asr];have:=g (p+i) asP asP;have n:l.getD (p+i) ([],[])=l[p+i]:=(by simp[show p+i<l.length by omega]);rw[n]at this;exact List.le_of_lt this
 unfold acd;rw[apG,asG];refine⟨u,?_,?_⟩;simp only[arX,aq1];exact⟨k,v⟩;intro a h b c;simp only[arX,apP]at c;rcases c with rfl|c;exact o a h;exact t a h b c
theorem ad9(l:Rdn)(x:Ava):(N8 l x).Perm (x::l):=by unfold N8;rw[apG];refine(List.perm_middle (l₁:=l.take _) (l₂:=l.drop _)).trans ?_;simp
theorem V8:∀(r l:Rdn),acd l->acd (r.foldl (λl a=>N8 l (Ed a)) l)/\(r.foldl (λl a=>N8 l (Ed a)) l).Perm (l++r.map Ed)
 |[],l,h=>by simpa using h
 | a::r,l,h=>by
   obtain⟨c,b⟩:=V8 r (N8 l (Ed a)) (afv h);refine⟨c,b.trans ?_⟩;refine((ad9 l (Ed a)).append_right _).trans ?_
   grind
theorem amq(a:Ava):avT true a=ER (Ed a):=by simp[avT,Ed]
theorem afd(r:Rdn):(iM r).map ER=fE (r.map (avT true)):=by
 obtain⟨e,d⟩:=V8 r [] List.Pairwise.nil;refine asH (le:=λx y=>x<=y) (λa b _ _=>asq) ?_ ?_ ?_;rw[aso];exact e;have:=ass (le:=λx y:List UInt8=>decide (x<=y)) (λa b c e d=>by
  simp only[decide_eq_true_eq]at *;exact List.le_trans e d) (λa b=>by
  simp only[aqf,decide_eq_true_eq];exact List.le_total a b) (r.map (avT true))
 exact this.imp λh=>by simpa using h
 refine(d.map ER).trans ?_;refine List.Perm.trans ?_ (aq8 _ _).symm;rw[apZ,apS];rfl
theorem ahv(r:Rdn):dy false (iM r)=dy true r:=by have:=afd r;simp only[dy,apL,if_false,if_true];simp[*]
theorem EK(d:List Rdn):bp false (gX d)=bp true d:=by unfold bp gX;rw[apS];rw[show(dy false∘iM)=dy true from funext ahv]
theorem alY{p:Ava->Prop}{l:Rdn}{x:Ava}(h:∀a∈l,p a)(c:p x):∀a∈N8 l x,p a:=λa b=>by rcases apP.1 ((ad9 l x).mem_iff.1 b)with rfl|d;omega;simp[*]
theorem aaG:∀r:Rdn,(bg r).all AV.one=true
 |[]=>rfl
 |a::r=>by have:=aaG r;simp only[bg]at this;simp[bg,pD,AV.one,this]
theorem ag6{xs:List AV}{a b:AV}(h:(xs.drop i).take 2=[a,b]):xs.getD i .undef=a/\xs.getD (i+1) .undef=b:=by have d:=congrArg (·[0]?) h;have c:=congrArg (·[1]?) h;simp[List.getElem?_take,aqo]at d c;simp[apO,d,c]
theorem adx{d:List Rdn}{cap:Option Nat}(hn:d.length<=1000)(hr:∀r∈d,r.length<=1000/\∀a∈r,a.1.length<=10000/\a.2.length<=10000){L:List Blk}{K:apr}(h:K (.sl ((gX d).map aq) d.length none) L):
  apq 90 [.sl (d.map aq) d.length cap] L K:=by
 replace h:=hid h;have a8:=hid (λk=>@nv d k);replace hr:=hid hr;refine apo W4 ?_;refine bR (l:=[]) (n:=0) 3 1 rfl (apU 1).symm ?_;refine aj (λn T' L'=>∃(i:Nat) (out:List Rdn) (Z:List Blk),n=d.length-i/\i<=d.length/\Hid (out=(d.take i).map iM)/\L'[L.length]?=some (.spare i 1)/\T'=[(14,.int .i64 (i:Int)),(13,.int .i64 d.length),(12,.sl (d.map aq) d.length cap),(3,.gsl (out.map aq) i L.length 1)]/\L'=L++Z) asT ⟨0,[],[.spare 0 1],rfl,apv _,hid rfl,asQ,rfl,rfl⟩ ?_;rintro _ _ _ ⟨i,out,X,rfl,hi,E,ho,rfl,rfl⟩;by_cases C:i<d.length
 .have g1:(i:Int)<(d.length:Int):=asP;have g2:=apn i asP;have e2:=a8.o i C;have al:d.getD i []∈d:=(by rw[apO,apD C];exact aqr _);have a0:=hr.o _ al;obtain⟨r,S⟩:=apl (d.getD i []);have U:d.take (i+1)=d.take i++[r]:=(by rw[apK C,<- S];simp[C]);rw[S]at e2 a0;clear S al;obtain⟨a9,x⟩:=a0;replace x:=hid x;replace U:=hid U;refine wk ?_;refine aj (λn T' L'=>∃(k:Nat) (l:Rdn) (v:AV) (Z:List Blk),n=r.length-k/\k<=r.length/\Hid (l=iM (r.take k)/\an0 L.length l v L'/\∀a∈l,a.1.length<=10000/\a.2.length<=10000)/\L'[L.length]?=some (.spare i 1)/\X.length<=Z.length/\T'=[(20,.int .i64 (k:Int)),(19,.int .i64 r.length),(18,aq r),(6,v),(14,.int .i64 (i:Int)),(13,.int .i64 d.length),(12,.sl (d.map aq) d.length cap),(3,.gsl (out.map aq) i L.length 1)]/\L'=L++Z) (CutS (b:=by have:=(aps.1 ho).1;simp at this⊢)) ⟨0,[],_,X,rfl,apv _,hid ⟨rfl,.inl ⟨rfl,rfl,rfl⟩,asQ⟩,ho,apt _,rfl,rfl⟩ ?_;clear ho;rintro _ _ _ ⟨k,l,v,X1,rfl,hk,hI,ho,a5,rfl,rfl⟩;obtain⟨hl,hv,t⟩:=hI.o;clear hI;have hB:L.length<(L++X1).length:=(aps.1 ho).1;refine ade 6 2 L.length rfl hB hv λp Y bb H=>?_
  rw[apG]at H⊢;have y:(L++(X1++Y))[L.length]?=some (.spare i 1):=(by rw[<- apG,apx hB];exact ho);have j:X.length<=(X1++Y).length:=(by simp;omega);generalize X1++Y=Z at H y j⊢;clear ho hB hv a5 X1 Y;replace j:=hid j;have s:l.length=k:=(by rw[hl,tf];simp;omega);rw[s]at H⊢;have V:=(aps.1 H).1;have M:=(aps.1 y).1;rw[apB]at V M;replace t:=hid t;replace hl:=hid hl;replace V:=hid V;replace M:=hid M;by_cases G:k<r.length
  .have g3:(k:Int)<(r.length:Int):=asP;have g4:=apn k asP;have e3:=gQ G;have e4:k*2+2<=(bg r).length:=(by rw[dp];omega);obtain⟨⟨ty,va⟩,ha⟩:∃a,r.getD k ([],[])=a:=⟨_,rfl⟩;have a1:(ty,va)∈r:=(by rw[<- ha];simp[G]);have g:=adI G;rw[ha]at e3 g;simp only[pD]at e3;have a3:=x.o _ a1;simp only at a3;have w:(va.length:Int)<=100000:=asP;have u:(ty.length:Int)<=100000:=asP;obtain⟨c,ap⟩:=apl (ak ty);obtain⟨f,an⟩:=apl (cg va);have a7:c.length<=10000:=(by rw[<- ap];simp[ak];omega);have av:f.length<=10000:=(by rw[<- an];have:=Ec va;omega);have P:Ed (ty,va)=(c,f):=(by simp[Ed,ap,an]);rw[P,<- hl.o]at g;replace g:=hid g;clear ha a1 P
   iterate 24 first
    |refine bG ?_
    | (first|refine bw asR ?_|refine aN asR ?_|refine aQ ?_|refine cS ?_|refine bJ (fun _=>?_)|refine aF ?_|refine bA ?_|refine nI u ?_|refine EG w ?_|refine bf (nI u ⟨rfl,rfl⟩) (nI u ⟨rfl,rfl⟩) ?_|refine bf (EG w ⟨rfl,rfl⟩) (EG w ⟨rfl,rfl⟩) ?_|refine aM (nI u ⟨rfl,rfl⟩) ?_|refine aM (EG w ⟨rfl,rfl⟩) ?_)
      simp(config:={maxSteps:=2000000}) only[Kon,push_cast,reduceIte,Nat.reduceEqDiff,Nat.reduceAdd,Nat.reduceMul,Nat.reduceSub,Nat.reduceLT,Nat.reduceLeDiff,Int.reduceLT,Int.reduceLE,Int.reduceAdd,Int.reduceSub,Int.reduceNeg,Int.reduceToNat,Int.reduceEq,reduceCtorEq, *]
    | (first|refine bq asR ?_|refine bm ?_|refine aP ?_|refine bz ?_|refine bO (aE ?_))
      simp only[push_cast,reduceIte,Nat.reduceEqDiff,Nat.reduceAdd,Nat.reduceMul,Nat.reduceSub,Nat.reduceLT,Nat.reduceLeDiff,Int.reduceLT,Int.reduceLE,Int.reduceAdd,Int.reduceSub,Int.reduceNeg,Int.reduceToNat,Int.reduceEq,reduceCtorEq, *]
    |exact bK
    |first|apply bL|apply br|apply bM|apply bu|apply bN|apply bv
    |refine aT ?_
    |refine aO ?_
    |first|refine aR rfl ?_|refine aS rfl ?_|refine aB rfl ?_ ?_|refine aW rfl (λ_=>?_) (λ_=>?_)|refine aV rfl (λ_=>?_) (λ_=>?_)
    |((first|refine aA (λ_=>?_) (λ_=>?_)|refine aD (λ_=>?_) (λ_=>?_))<;>try simp(config:={maxSteps:=2000000}) only[Kon,push_cast,reduceIte,Nat.reduceEqDiff,Nat.reduceAdd,Nat.reduceMul,Nat.reduceSub,Nat.reduceLT,Nat.reduceLeDiff,Int.reduceLT,Int.reduceLE,Int.reduceAdd,Int.reduceSub,Int.reduceNeg,Int.reduceToNat,Int.reduceEq,reduceCtorEq, *])
    |refine And.intro trivial ?_
    |refine And.intro asP ?_
    |refine bd rfl (λ_=>?_) (λ_=>?_)
    |refine And.intro ?_ ?_
   have a4:l.getD k ([],[])=([],[]):=(by simp[s]);obtain⟨wx,ai⟩:=apl (gS f);have I:ER (c,f)=c++61::wx:=(by simp[avT,ai]);have a_:wx.length<=30000:=(by rw[<- ai];have:=OD f;omega);have B:f.length<=100000:=asP;replace I:=hid I;clear a4;refine OV (λT2 L2=>∃z:Nat,z<=k/\Hid (z=EJ l (c,f) k)/\T2=[(10,.int .i64 (z:Int)),(9,.ptr (L.length+(Z.length+1)) 0),(6,.gsl (bg l) k p 2),(20,.int .i64 (k:Int)),(19,.int .i64 r.length),(18,aq r),(14,.int .i64 (i:Int)),(13,.int .i64 d.length),(12,.sl (d.map aq) d.length cap),(3,.gsl (out.map aq) i L.length 1)]/\L2=L++(Z++[.cells [.str ty,.str va],.cells [.str c,.str f]])) ?_ ?_;refine wk ?_;refine aj (λn T' L'=>∃q:Nat,q=n/\q<=k/\Hid (EJ l (c,f) q=EJ l (c,f) k)/\T'=[(10,.int .i64 (q:Int)),(9,.ptr (L.length+(Z.length+1)) 0),(6,.gsl (bg l) k p 2),(20,.int .i64 (k:Int)),(19,.int .i64 r.length),(18,aq r),(14,.int .i64 (i:Int)),(13,.int .i64 d.length),(12,.sl (d.map aq) d.length cap),(3,.gsl (out.map aq) i L.length 1)]/\L'=L++(Z++[.cells [.str ty,.str va],.cells [.str c,.str f]])) asT ⟨k,rfl,apt _,hid rfl,rfl,rfl⟩ ?_;rintro _ _ _ ⟨q,rfl,bi,hq,rfl,rfl⟩;rcases q with _|q;have h0:=hid hq.o.symm;have k0:¬(0:Int)<((0:Nat):Int):=asP;have kk1:=@asW _ _ _ _ (nr B);refine wk ?_;exact jQ _ _ asS ⟨0,asP,hid h0.o.symm,rfl,rfl⟩;have k0:(0:Int)<((q+1:Nat):Int):=asP;have k1:IntKind.i64.wrap (((q+1:Nat):Int)-1)=(q:Int):=(by rw[ae asP asP];omega);have k4:(q:Int)<(k:Int):=asP;have e5:=gQ (r:=l) (k:=q) asP;have e6:q*2+2<=(bg l).length:=by rw[dp];omega
   obtain⟨⟨O,v1⟩,J⟩:∃a,l.getD q ([],[])=a:=⟨_,rfl⟩;rw[J]at e5;simp only[pD]at e5;obtain⟨e7,e8⟩:=ag6 e5;obtain⟨T,ar⟩:=apl (gS v1);have a6:=t.o (O,v1) (by rw[<- J];simp[show q<l.length by omega]);simp only at a6;have Q:v1.length<=100000:=asP;have a':T.length<=30000:=(by rw[<- ar];have:=OD v1;omega);have N:ER (l.getD q ([],[]))=O++61::T:=(by rw[J];simp[avT,ar]);have c1:((O.length+1:Nat):Int)<=9223372036854775807:=asP;have c2:((O.length+1+T.length:Nat):Int)<=9223372036854775807:=asP;have c3:((c.length+1:Nat):Int)<=9223372036854775807:=asP;have c4:((c.length+1+wx.length:Nat):Int)<=9223372036854775807:=asP;simp only[Int.natCast_add,Int.cast_ofNat_Int]at c1 c2 c3 c4;replace N:=hid N;simp only[Int.natCast_add,Int.cast_ofNat_Int]at k0 k1;have a2:=hid hq.o;clear hq J;by_cases F:ER (c,f)<ER (l.getD q ([],[]));have hb:(Op.bytesLess (O++61::T) (c++61::wx) ||decide (O++61::T=c++61::wx))=false:=by rw[I.o,N.o]at F;rw[bytesLess_eq];simp only[arO,decide_eq_false_iff_not];exact⟨λe=>aq9 _ (List.lt_trans e F),λe=>by rw[e]at F;exact aq9 _ F⟩
   have m:EJ l (c,f) q=EJ l (c,f) k:=(by rw[<- a2.o,EJ,if_pos F]);replace m:=hid m;clear F;have kk1:=@asW _ _ _ _ (nr B);have kk2:=@asW _ _ _ _ (nr Q);refine wk ?_;exact asU asP asS ⟨q,rfl,asP,m,rfl,rfl⟩;have hb:(Op.bytesLess (O++61::T) (c++61::wx) ||decide (O++61::T=c++61::wx))=true:=by rw[I.o,N.o]at F;rw[bytesLess_eq];simp only[aqf,decide_eq_true_eq];have:=arA.1 F;rcases List.le_iff_lt_or_eq.1 this with e|e;exact .inl e;exact .inr e
   have m:q+1=EJ l (c,f) k:=(by rw[<- a2.o,EJ,if_neg F]);replace m:=hid m;clear F;have kk1:=@asW _ _ _ _ (nr B);have kk2:=@asW _ _ _ _ (nr Q);refine wk ?_;exact jQ _ _ asS ⟨q+1,asP,m,rfl,rfl⟩;rintro _ _ ⟨z,bk,hz,rfl,rfl⟩ -;have z0:(0:Int)<=(z:Int):=asP;have z1:(z:Int)<=(k:Int):=asP;have s1:(bg l).take (z*2)=bg (l.take z):=Xk;have s2:((bg l).drop (z*2)).take ((k-z)*2)=bg (l.drop z):=by rw[aia,ap2];rw[dp,aqT,s];omega
   have s3:AV.frzL (bg (l.take z))=bg (l.take z):=gP _;have s4:AV.frzL (bg (l.drop z))=bg (l.drop z):=gP _;have s5:(bg (l.take z)).length=z*2:=(by rw[dp,aqK];omega);have s6:(bg (l.drop z)).length=(k-z)*2:=(by rw[dp,aqT,s]);have s7:z+1+(k-z)=k+1:=asP;have s8:=aaG (l.take z);have s9:=aaG (l.drop z);have q1:z*32<=140737488355328:=asP;have q2:z<=140737488355328:=asP;have q3:(z+1)*32<=140737488355328:=asP;have q4:z+1<=140737488355328:=asP;have q5:(k+1)*32<=140737488355328:=asP;have q6:k+1<=140737488355328:=asP
   iterate 3 first
    |refine bG ?_
    | (first|refine bw asR ?_|refine aN asR ?_|refine aQ ?_|refine cS ?_|refine bJ (fun _=>?_)|refine aF ?_|refine bA ?_)
      simp(config:={maxSteps:=2000000}) only[Kon,push_cast,reduceIte,Nat.reduceEqDiff,Nat.reduceAdd,Nat.reduceMul,Nat.reduceSub,Nat.reduceLT,Nat.reduceLeDiff,Int.reduceLT,Int.reduceLE,Int.reduceAdd,Int.reduceSub,Int.reduceNeg,Int.reduceToNat,Int.reduceEq,reduceCtorEq, *]
    | (first|refine bq asR ?_|refine bm ?_|refine aP ?_|refine bz ?_|refine bO (aE ?_))
      simp only[push_cast,reduceIte,Nat.reduceEqDiff,Nat.reduceAdd,Nat.reduceMul,Nat.reduceSub,Nat.reduceLT,Nat.reduceLeDiff,Int.reduceLT,Int.reduceLE,Int.reduceAdd,Int.reduceSub,Int.reduceNeg,Int.reduceToNat,Int.reduceEq,reduceCtorEq, *]
    |exact bK
    |first|apply bL|apply br|apply bM|apply bu|apply bN|apply bv
    |refine aT ?_
    |refine aO ?_
    |first|refine aR rfl ?_|refine aS rfl ?_|refine aB rfl ?_ ?_|refine aW rfl (λ_=>?_) (λ_=>?_)|refine aV rfl (λ_=>?_) (λ_=>?_)
    |((first|refine aA (λ_=>?_) (λ_=>?_)|refine aD (λ_=>?_) (λ_=>?_))<;>try simp(config:={maxSteps:=2000000}) only[Kon,push_cast,reduceIte,Nat.reduceEqDiff,Nat.reduceAdd,Nat.reduceMul,Nat.reduceSub,Nat.reduceLT,Nat.reduceLeDiff,Int.reduceLT,Int.reduceLE,Int.reduceAdd,Int.reduceSub,Int.reduceNeg,Int.reduceToNat,Int.reduceEq,reduceCtorEq, *])
    |refine And.intro trivial ?_
    |refine And.intro asP ?_
    |refine bd rfl (λ_=>?_) (λ_=>?_)
    |refine And.intro ?_ ?_
   refine bR (l:=[]) (n:=0) 11 2 rfl (apU 2).symm ?_;refine wk ?_;have R:bg (l.take z)++AV.str c::AV.str f::bg (l.drop z)=bg (N8 l (c,f)):=by rw[N8,s,<- hz.o,aca,aca];simp[bg,pD]
   have D:(N8 l (c,f)).length=k+1:=(by rw[aea,s]);rw[R];refine asU asP (CutL (b:=?_)) ⟨k+1,N8 l (c,f),_,_,rfl,G,hid ⟨g.o.symm,.inr ⟨L.length+(Z.length+2),asP,by rw[D],?_⟩,alY t.o ⟨a7,av⟩⟩,?_,?_,rfl,rfl⟩;have:=j.o;simp;omega;rw[nK,nK,D];rfl;rw[<- apG,apx (aps.1 y).1];exact y;have:=j.o;simp;omega
  have ad:k=r.length:=asP;subst ad;have g3:¬(r.length:Int)<(r.length:Int):=asP;have q3:(i+1)*24<=140737488355328:=asP;have q4:i+1<=140737488355328:=asP;have e5:AV.frzL (bg l)=bg l:=gP _;have e6:out.map aq++[AV.sl (bg l) r.length none]=(out++[l]).map aq:=by rw[ap1];simp[s]
  have e7:out++[l]=(d.take (i+1)).map iM:=by rw[U.o,ap1,<- E.o,hl.o,apJ];rfl
  have s4:∀(W:List Blk) A,(L++W).set L.length A=L++W.set 0 A:=λW A=>by rw[apW _ _ (apt _),aqR]
  have f1:(L++Z.set 0 (.spare (i+1) 1))[L.length]?=some (.spare (i+1) 1):=by rw[<- s4,ap3,if_pos rfl,if_pos (aps.1 y).1]
  replace e7:=hid e7;replace f1:=hid f1;replace e6:=hid e6;refine wk ?_;rw[e6.o];refine asU asP (CutL (b:=?_)) ⟨i+1,out++[l],_,rfl,C,e7,f1.o,rfl,rfl⟩;have:=M.o;simp;omega
 have ad:i=d.length:=asP;subst ad;have g1:¬(d.length:Int)<(d.length:Int):=asP;have e:=E.o;rw[apJ]at e;have h':=h.o;rw[show(gX d)=out from e.symm]at h';replace h':=hid h';clear E e;refine wk ?_;refine aY (ac ?_ ?_);simp only[AV.frz,AV.frzL,bB,AV.refs,AV.refsL,fD,arx];simp only[AV.frz,AV.frzL,bB];exact h'.o
theorem SC(d:List Rdn):(gX d).length=d.length:=by simp[gX]
theorem Zy(h:∀a∈r,a.1.length<=10000/\a.2.length<=10000):∀a∈iM r,a.1.length<=10000/\a.2.length<=10000:=λa e=>by have f:=(V8 r [] List.Pairwise.nil).2;have c:=f.mem_iff.1 e;rw[apZ]at c;obtain⟨b,d,rfl⟩:=apz.1 c;obtain⟨i,j⟩:=h b d;have g:=Ec b.2;simp only[Ed,ak,apQ];omega
theorem TG(n:d.length<=1100000)(b:∀r∈d,r.length<=1100000/\∀a∈r,(a.1.length:Int)<=140737488351232)(h:K (kG (SF d)) L):
  apq 89 [.sl (d.map aq) d.length cap] L K:=by
 unfold SF kG at h;refine apo YF ?_;refine rG n b ?_;unfold kG;obtain⟨⟨ps,q⟩,j⟩:∃p,prS d=p:=⟨_,rfl⟩;rw[j]at h⊢;simp only at h⊢;by_cases m:q=0;subst m;obtain⟨s,i⟩:=Zw (by rw[j]);rw[if_neg asQ]at h;have f:∀r∈d,r.length<=1000/\∀a∈r,a.1.length<=10000/\a.2.length<=10000:=λr b=>⟨by have:=(i r b).1;omega,λa k=>⟨by have:=((i r b).2 a k).1;omega,by have:=((i r b).2 a k).2;omega⟩⟩
 have c:∀r∈gX d,r.length<=1000/\∀a∈r,a.1.length<=10000/\a.2.length<=10000:=λr b=>by obtain⟨l,e,rfl⟩:=apz.1 b;exact⟨by rw[tf];exact(f l e).1,Zy (f l e).2⟩
 have g:=hid (SC d);rw[<- EK]at h;replace h:=hid h;replace f:=hid f;replace c:=hid c;clear j b i;refine sk ?_;have kk1:=@asW _ _ _ _ (adx (cap:=cap) asP f.o);refine wk ?_;rw[<- g.o];refine YS (by rw[g.o];omega) c.o ?_;refine asX ?_;exact aa h.o;rw[if_pos m]at h;replace h:=hid h;clear j b;refine asX ?_;exact aa h.o
theorem alx(f:d.length<=1000000)(c:∀r∈d,r.length<=1000000/\∀a∈r,(a.1.length:Int)<=100000)(h:K (kG (SF d)) L):
 apq 89 [.sl (d.map aq) d.length cap] L K:=TG asP (λr b=>⟨by have:=(c r b).1;omega,λa e=>by have:=(c r b).2 a e;omega⟩) h
theorem ZD:∀(f:Nat) (out:List Rdn) (b:Rdn) (s:List UInt8),(∀a∈b,a.1.length<=32)->(∀r∈out,∀a∈r,a.1.length<=32)->∀r∈(tP f out b s).1,∀a∈r,a.1.length<=32
 |0,_,_,_,_,_=>by simp[tP]
 | f+1,out,b,s,h1,h2=>by
   rw[tP];split
   .simp
   split
   .simp
   split
   .simp
   rename_i g;have e:=wS (by simpa using g);have d:∀v,∀a∈b++[(_,v)],a.1.length<=32:=λv a i=>by
    rcases apy.1 i with h|h
    .exact h1 a h
    .rw[apT.1 h];exact e
   have c:∀v,∀r∈out++[b++[(_,v)]],∀a∈r,a.1.length<=32:=λv r j=>by
    rcases apy.1 j with h|h
    .exact h2 r h
    .rw[apT.1 h];exact d v
   split
   .simp
   split
   .simp
   split
   .simp
   split
   .exact c _
   split
   .exact ZD f _ _ _ asQ (c _)
   .exact ZD f _ _ _ (d _) h2
theorem ajn(s:List UInt8):∀r∈(dW s).1,∀a∈r,a.1.length<=32:=by unfold dW;split;simp;split;simp;exact ZD _ _ _ _ asQ asQ
theorem ai6(h:K (kG (ad5 s)) L):apq 140 [.str s] L K:=by unfold ad5 at h;refine apo aaw ?_;refine ai3 ?_;obtain⟨e,b⟩:=OM s;have c:=ajn s;obtain⟨⟨l,j⟩,f⟩:∃p,dW s=p:=⟨_,rfl⟩;rw[f]at h e b c⊢;simp only[aa0]at h e b c⊢;clear f;by_cases i:j=0;subst i;rw[if_neg asQ]at h;replace h:=hid h;replace b:=hid b;replace c:=hid c;refine asX ?_;refine alx asP (λr g=>⟨by have:=b.o r g;omega,λa k=>by have:=c.o r g a k;omega⟩) ?_;have d:=h.o;unfold kG at d⊢;replace d:=hid d;refine asX ?_;exact aa d.o;rw[if_pos i]at h;unfold kG at h;replace h:=hid h;clear e b c;refine asX ?_;exact aa h.o
end Go.Proofs.YtdnfjhflkkpokaaGreatDoor.Av
