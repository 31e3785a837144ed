/- Joined texts of the walk, made small by a program. -/
import Derived.Test.YtcmfcpjnhephaaaGreatDoorVk4
import Derived.Test.YtcmfcpjnhephaaaGreatDoorRows
import Derived.KernelRfl
import Derived.Test.YtcmfcpjnhephaaaGreatDoorVk6
import Derived.Test.YtcmfcpjnhephaaaGreatDoorVk5
import Derived.Test.YtcmfcpjnhephaaaGreatDoorVk7
import Derived.Test.YtcmfcpjnhephaaaGreatDoorVk8
import Derived.Sort.Walk0
set_option linter.unusedSimpArgs false
set_option linter.unusedVariables false
set_option maxRecDepth 100000
namespace Go.Proofs.YtcmfcpjnhephaaaGreatDoor.Av
open Go
variable {s typ b:List UInt8}{cap:Option Nat}{n k i:Nat}{a c:UInt8}{r:Rdn}{d:List Rdn}
def FQ:LSO:=[Af 2]
def FP:LSO:=[Aa 6 0,Ak 7 39 6,Aa 3 7]
def FO:LSO:=[Aa 8 3,Au 9 8,Bj 10 9 1,Aa 11 10,.grp none 11 true
 [Ae 12 11 3,BI 13 11 12,og 14 11 true (.bin .leq (tm 13) (iv 32))]
 15 (tm 14),Aa 4 15]
def FN:LSO:=[Ac 5 0]
def FM:LSO:=[Aa 16 5,Aa 17 3,Au 18 17,Al 19 16 18,Aa 20 19,.grp none 20 true
 [Ae 21 20 4]
 22 (tm 21)]
def FL:LSO:=[Aa 25 3,Aa 26 5,AA 27 25 26,
 o1 28 (.call 170 [(tm 27),(.av (.str [97,98,99,100,101,102,103,104,105,106,107,108,109,110,111,112,113,114,115,116,117,118,119,120,121,122]))]),Aa 29 28,.grp none 29 false
 [Ah 30 29 5,A9 31 29 30 0,Ah 32 29 31,.grp (some (29,false)) 32 true
 [Ae 33 32 3,Ae 34 32 5,AS 35 32 33 34,og 36 32 true (.call 170 [(tm 35),(.av (.str [48,49,50,51,52,53,54,55,56,57,45]))])]
 37 (tm 36)]
 38 (tm 37),Aa 4 38]
def FK:LSO:=[Aa 23 5,Ag 24 23 1,Aa 5 24]
def FJ:LSO:=[Aa 39 4,Aa 2 39]
def v7:aO:=⟨40,(akg FQ [] (akg FP Cr (akg FO Cu (.seq (akg FN [] (akj 0 (.seq (akg FM Cu (akk 22 0)) (.seq (.block 1 (.sreg FL Cw)) (.sreg FK Cr))))) (akg FJ Cq .ret))))),[(.tmp 2)]⟩
attribute [push_cast] FQ FP FO FN FM FL FK FJ
theorem Qj:akl 134=akm v7:=by kernel_rfl
def MV:LSO:=[Af 4]
def MU:LSO:=[Ac 5 0]
def MT:LSO:=[Aa 6 5,Aa 7 1,Au 8 7,Al 9 6 8]
def MS:LSO:=[Aa 12 1,Aa 13 5,AA 14 12 13,Aa 15 0,AC 16 14 15]
def MR:LSO:=[A0 4]
def MQ:LSO:=[Aa 10 5,Ag 11 10 1,Aa 5 11]
def MP:LSO:=[Af 4]
def Ma:aO:=⟨17,(akg MV [] (.seq (akg MU [] (akj 0 (.seq (akg MT Cs (akk 9 0)) (.seq (.block 1 (akg MS Ct (aki 16 (.sreg MR [])))) (.sreg MQ Cr))))) (akg MP [] .ret))),[(.tmp 4)]⟩
attribute [push_cast] MV MU MT MS MR MQ MP
theorem SO:akl 170=akm Ma:=by kernel_rfl
def JZ:LSO:=[Af 4]
def JY:LSO:=[Aa 7 0,Am 8 7,Ac 9 0]
def JW:LSO:=[Al 10 9 8]
def JV:LSO:=[An 11 2 7 9,Ap 12 2 11,Bg 6,Ai 2 6 12]
def JU:LSO:=[Ad 13 0 6,Ab 14 1 13,Ak 15 39 14,Aa 16 1,Ak 17 39 16,AC 18 15 17]
def JT:LSO:=[A0 4]
def JS:LSO:=[Ag 19 9 1,Aa 9 19]
def JR:LSO:=[Af 4]
def Ib:aO:=⟨20,(akg JZ [] (.seq (akg JY [] (akj 0 (akg JW [] (.seq (akk 10 0) (.seq (.block 1 (akg JV Cr (akg JU Cu (aki 18 (.sreg JT []))))) (.sreg JS Cq)))))) (akg JR [] .ret))),[(.tmp 4)]⟩
attribute [push_cast] JZ JY JW JV JU JT JS JR
theorem R6:akl 165=akm Ib:=by kernel_rfl
def yR:LSO:=[Aj 2,Ac 3 0]
def yQ:LSO:=[Aa 12 0,Au 13 12,A3 14 13 4096]
def yP:LSO:=[Aj 2,Ac 3 5]
def yO:LSO:=[Aj 4]
def yN:LSO:=[Ac 5 0]
def yM:LSO:=[Aa 15 0,Au 16 15,A3 17 16 0]
def yL:LSO:=[Aj 6]
def yK:LSO:=[Aa 18 4,Am 19 18,Aq 20 19 32]
def yJ:LSO:=[Aj 2,Ac 3 9]
def yI:LSO:=[Aa 21 6,Am 22 21,Aq 23 22 8]
def uH:LSO:=[Aj 2,Ac 3 9]
def uG:LSO:=[Aa 24 5,Aa 7 24]
def uF:LSO:=[Aa 25 7,Aa 26 0,Au 27 26,Al 28 25 27,Aa 29 28,.grp none 29 true
 [Ae 30 29 0,Ae 31 29 7,AS 32 29 30 31,og 33 29 true (.bin .neq (tm 32) (.av (.int .u8 61)))]
 34 (tm 33)]
def uE:LSO:=[Aa 35 7,Ag 36 35 1,Aa 7 36]
def uD:LSO:=[Aa 37 7,Aa 38 0,Au 39 38,AC 40 37 39,Aa 41 40,.grp none 41 false
 [Ah 42 41 0,Ah 43 41 5,Ah 44 41 7,og 45 41 false (.slS (tm 42) (some (tm 43)) (some (tm 44))),AZ 46 41 134 45,Bk 47 41 46]
 48 (tm 47)]
def uC:LSO:=[Aj 2,Ac 3 4]
def uB:LSO:=[Aa 49 0,Aa 50 5,Aa 51 7,B5 52 49 50 51,o1 53 (.build [(.str []),(.str [])] [(0,(1,(tm 52)))]),Bg 8,Ai 2 8 53]
def uA:LSO:=[Aa 54 6,Ad 55 0 8,Ab 56 1 55,Ax 57 165 54 56]
def uz:LSO:=[Aj 2,Ac 3 21]
def uy:LSO:=[Aa 59 0,Aa 60 7,Ag 61 60 1,Ax 62 166 59 61,Aa 58 62,Ar 63 58,Aw 64 58,Bo 65 58,Aa 9 63,Aa 10 64,Aa 11 65]
def ux:LSO:=[Aa 66 11,Ay 67 66]
def uw:LSO:=[Aj 2,Ac 3 4]
def uv:LSO:=[Aa 68 9,Ad 69 1 8,Ai 1 69 68]
def uu:LSO:=[Aa 70 6,Ap 71 2 8,Cc 72 71,B6 73 70 72,Aa 6 73]
def ut:LSO:=[Aa 74 10,Aa 5 74]
def ur:LSO:=[Aa 75 5,Aa 76 0,Au 77 76,AC 78 75 77,Aa 79 78,.grp none 79 false
 [Ah 80 79 0,Ah 81 79 5,Bp 82 79 80 81,og 83 79 false (.bin .eql (tm 82) (.av (.int .u8 44)))]
 84 (tm 83)]
def uq:LSO:=[Aa 85 5,Ag 86 85 1,Aa 5 86]
def uo:LSO:=[Aa 87 4,Aa 88 6,B7 89 88,B8 90 87 89,Aa 4 90]
def um:LSO:=[Aa 91 5,Aa 92 0,Au 93 92,AC 94 91 93]
def ul:LSO:=[Aa 95 4,Aa 2 95,Ac 3 0]
def uk:LSO:=[Aa 96 5,Ag 97 96 1,Aa 5 97]
def uj:LSO:=[Aj 2,Ac 3 0]
def rI:aO:=⟨98,(akg yR [] (.seq (akg yQ Cr (aki 14 (.sreg yP []))) (akg yO [] (akg yN [] (.seq (akj 0 (.seq (akg yM Cr (akk 17 0)) (.block 1 (akg yL [] (.seq (akg yK Cr (aki 20 (.sreg yJ []))) (.seq (akj 2 (.block 3 (.seq (akg yI Cr (aki 23 (.sreg uH []))) (akg uG Cq (.seq (akj 4 (.seq (akg uF Cu (akk 34 4)) (.block 5 (.sreg uE Cr)))) (.seq (akg uD Cu (aki 48 (.sreg uC []))) (akg uB Cu (.seq (akg uA Cs (aki 57 (.sreg uz []))) (akg uy [true,true,true,false,false,false,false,false,false,false,false] (.seq (akg ux Cq (aki 67 (.sreg uw []))) (akg uv Cy (akg uu Ct (akg ut Cq (.seq (akg ur Cu (akh 84 (.exit 2) .skip)) (.sreg uq Cr))))))))))))))) (akg uo Ct (.seq (akg um Cs (aki 94 (.sreg ul Cv))) (.sreg uk Cr))))))))) (akg uj [] .ret)))))),[(.tmp 2),(.tmp 3)]⟩
attribute [push_cast] yR yQ yP yO yN yM yL yK yJ yI uH uG uF uE uD uC uB uA uz uy ux uw uv uu ut ur uq uo um ul uk uj
theorem O4:akl 131=akm rI:=by kernel_rfl
def yg:LSO:=[Ao 4,Ac 5 0,Af 6]
def yf:LSO:=[Aj 7]
def ye:LSO:=[A0 8]
def yd:LSO:=[Aa 13 1,Aa 14 0,Au 15 14,Al 16 13 15,Aa 17 16,.grp none 17 true
 [Ae 18 17 0,Ae 19 17 1,AS 20 17 18 19,og 21 17 true (.bin .neq (tm 20) (.av (.int .u8 44)))]
 22 (tm 21),Aa 23 22,.grp none 23 true
 [Ae 24 23 0,Ae 25 23 1,AS 26 23 24 25,og 27 23 true (.bin .neq (tm 26) (.av (.int .u8 43)))]
 28 (tm 27)]
def yc:LSO:=[Aa 29 0,Aa 30 1,AA 31 29 30,Aa 9 31]
def yb:LSO:=[Aa 32 1,Ag 33 32 1,Aa 1 33]
def ya:LSO:=[Aa 34 1,Aa 35 0,Au 36 35,AC 37 34 36,Aa 38 37,.grp none 38 false
 [Ah 39 38 0,Ah 40 38 1,Bp 41 38 39 40,og 42 38 false (.bin .eql (tm 41) (.av (.int .u8 44)))]
 43 (tm 42),Aa 44 43,.grp none 44 false
 [Ah 45 44 0,Ah 46 44 1,Bp 47 44 45 46,og 48 44 false (.bin .eql (tm 47) (.av (.int .u8 43)))]
 49 (tm 48),Aa 10 49]
def x9:LSO:=[Aa 50 9,o1 51 (.bin .eql (tm 50) (.av (.int .u8 92)))]
def x8:LSO:=[Aa 52 1,Aa 53 0,Au 54 53,Al 55 52 54,Aa 56 55,.grp none 56 true
 [Ae 57 56 0,Ae 58 56 1,AS 59 56 57 58,og 60 56 true (.call 170 [(tm 59),(.av (.str [34,43,44,59,60,62,92,32,35,61]))])]
 61 (tm 60)]
def x0:LSO:=[Aa 62 7,Aa 63 0,Aa 64 1,AA 65 63 64,AK 66 65,AD 67 62 66,Aa 7 67]
def tJ:LSO:=[Aa 68 1,Ag 69 68 1,Aa 1 69]
def tI:LSO:=[Aa 70 1,Ag 71 70 2,Aa 72 0,Au 73 72,o1 74 (.bin .gtr (tm 71) (tm 73))]
def tH:LSO:=[Ao 4,Ac 5 0,Af 6]
def tG:LSO:=[Aa 76 0,Aa 77 1,Aa 78 1,Ag 79 78 2,B5 80 76 77 79,Ak 81 189 80,Aa 75 81,Ar 82 75,Aw 83 75,Aa 11 82,Aa 12 83]
def tF:LSO:=[Aa 84 12,Ay 85 84]
def tE:LSO:=[Ao 4,Ac 5 0,Af 6]
def tD:LSO:=[Aa 86 7,Aa 87 11,Bx 88 87 0,AK 89 88,AD 90 86 89,Aa 7 90]
def tC:LSO:=[Aa 91 1,Ag 92 91 2,Aa 1 92]
def tB:LSO:=[Aa 93 9,B4 94 93,Aa 95 94,.grp none 95 false
 [Ah 96 95 9,og 97 95 false (.call 170 [(tm 96),(.av (.str [34,59,60,62]))])]
 98 (tm 97),Aa 99 98,.grp none 99 false
 [Ah 100 99 8,Ah 101 99 100,.grp (some (99,false)) 101 true
 [Ae 102 101 9,og 103 101 true (.call 170 [(tm 102),(.av (.str [32,35]))])]
 104 (tm 103)]
 105 (tm 104),Aa 106 105,.grp none 106 false
 [Ah 107 106 10,Ah 108 106 107,.grp (some (106,false)) 108 true
 [Ae 109 108 9,Br 110 108 109]
 111 (tm 110)]
 112 (tm 111)]
def tA:LSO:=[Ao 4,Ac 5 0,Af 6]
def tz:LSO:=[Aa 113 7,Aa 114 9,AK 115 114,AD 116 113 115,Aa 7 116]
def tx:LSO:=[Af 8]
def tw:LSO:=[Aa 117 7,AN 118 117,Aa 119 1,Aa 4 118,Aa 5 119,A0 6]
def rF:aO:=⟨120,(akg yg [] (akg yf [] (akg ye [] (.seq (akj 0 (.seq (akg yd Cx (akk 28 0)) (.block 1 (akg yc Cs (akg yb Cr (akg ya CC (.seq (akg x9 Cq (akh 51 (akg x8 Cu (akh 61 (akg x0 Cw (.sreg tJ Cr)) (.seq (akg tI Ct (aki 74 (.sreg tH []))) (akg tG CO (.seq (akg tF Cq (aki 85 (.sreg tE []))) (akg tD Cu (.sreg tC Cr))))))) (.seq (akg tB Cx (aki 112 (.sreg tA []))) (.sreg tz Ct)))) (.sreg tx [])))))))) (akg tw CP .ret))))),[(.tmp 4),(.tmp 5),(.tmp 6)]⟩
attribute [push_cast] yg yf ye yd yc yb ya x9 x8 x0 tJ tI tH tG tF tE tD tC tB tA tz tx tw
theorem O1:akl 166=akm rF:=by kernel_rfl
def ri:LSO:=[Ao 2]
def rh:LSO:=[Aj 3]
def rf:LSO:=[Ac 4 0]
def re:LSO:=[Aa 6 4,Aa 7 0,Au 8 7,Al 9 6 8]
def rb:LSO:=[Aa 12 0,Aa 13 4,AA 14 12 13,Aa 5 14]
def ra:LSO:=[Aa 15 5,B4 16 15]
def q9:LSO:=[Aa 17 3,o1 18 (.app 1 1 1 [(.int .u8 0)] (tm 17) (.av (.str [92,48,48]))),Aa 3 18]
def qZ:LSO:=[Aa 19 5,o1 20 (.call 170 [(tm 19),(.av (.str [34,43,44,59,60,62,92]))]),Aa 21 20,.grp none 21 false
 [Ah 22 21 4,AM 23 21 22 0,Ah 24 21 23,.grp (some (21,false)) 24 true
 [Ae 25 24 5,og 26 24 true (.call 170 [(tm 25),(.av (.str [32,35]))])]
 27 (tm 26)]
 28 (tm 27),Aa 29 28,.grp none 29 false
 [Ah 30 29 4,og 31 29 false (.bin .add (tm 30) (iv 1)),Ah 32 29 0,Bq 33 29 32,og 34 29 false (.bin .eql (tm 31) (tm 33)),Ah 35 29 34,.grp (some (29,false)) 35 true
 [Ae 36 35 5,Br 37 35 36]
 38 (tm 37)]
 39 (tm 38)]
def qY:LSO:=[Aa 40 3,o1 41 (.bslice false 1 1 [(.int .u8 0)] [(0,(1,(.av (.int .u8 92))))]),AD 42 40 41,Aa 3 42]
def qX:LSO:=[Aa 43 3,Aa 44 5,AK 45 44,AD 46 43 45,Aa 3 46]
def p9:LSO:=[Aa 10 4,Ag 11 10 1,Aa 4 11]
def p8:LSO:=[Aa 47 3,AN 48 47,Aa 2 48]
def oS:aO:=⟨49,(akg ri [] (akg rh [] (.seq (akg rf [] (akj 0 (.seq (akg re Cs (akk 9 0)) (.seq (.block 1 (akg rb Cs (.seq (akg ra Cq (akh 16 (akg q9 Cr (.exit 1)) .skip)) (.seq (akg qZ Cu (akh 39 (.sreg qY Cs) .skip)) (.sreg qX Ct))))) (.sreg p9 Cr))))) (akg p8 Cr .ret)))),[(.tmp 2)]⟩
attribute [push_cast] ri rh rf re rb ra q9 qZ qY qX p9 p8
theorem L9:akl 197=akm oS:=by kernel_rfl
def FI:LSO:=[Ao 2]
def FH:LSO:=[Ao 3]
def FG:LSO:=[Aa 8 0,Am 9 8,Ac 10 0]
def FF:LSO:=[Al 11 10 9]
def FE:LSO:=[Aa 12 10,An 13 1 8 10,Ab 14 1 13,Aa 4 12,Aa 5 14]
def FD:LSO:=[Aa 15 4,A3 16 15 0]
def FC:LSO:=[Aa 17 3,o1 18 (.bin .add (tm 17) (.av (.str [44]))),Aa 3 18]
def FB:LSO:=[Aa 19 5,Am 20 19,Ac 21 0]
def FA:LSO:=[Al 22 21 20]
def Fz:LSO:=[Aa 23 21,An 24 2 19 21,Ap 25 2 24,Bg 7,Aa 6 23,Ai 2 7 25]
def ym:LSO:=[Aa 26 6,A3 27 26 0]
def yl:LSO:=[Aa 28 3,o1 29 (.bin .add (tm 28) (.av (.str [43]))),Aa 3 29]
def yk:LSO:=[Aa 30 3,Ad 31 0 7,Ab 32 1 31,AY 33 30 32,o1 34 (.bin .add (tm 33) (.av (.str [61]))),Ad 35 1 7,Ab 36 1 35,Ak 37 197 36,AY 38 34 37,Aa 3 38]
def yj:LSO:=[Ag 39 21 1,Aa 21 39]
def yi:LSO:=[Ag 40 10 1,Aa 10 40]
def yh:LSO:=[Aa 41 3,Aa 2 41]
def v6:aO:=⟨42,(akg FI [] (akg FH [] (.seq (akg FG [] (akj 0 (akg FF [] (.seq (akk 11 0) (.seq (.block 1 (akg FE Cz (.seq (akg FD Cq (akh 16 (.sreg FC Cr) .skip)) (akg FB [] (akj 2 (akg FA [] (.seq (akk 22 2) (.seq (.block 3 (akg Fz Cz (.seq (akg ym Cq (akh 27 (.sreg yl Cr) .skip)) (.sdreg yk [.pure,.pure,(.read 0 0),.pure,.pure,.pure,(.read 0 0),(.read 0 0)] CD)))) (.sreg yj Cq))))))))) (.sreg yi Cq)))))) (akg yh Cq .ret)))),[(.tmp 2)]⟩
attribute [push_cast] FI FH FG FF FE FD FC FB FA Fz ym yl yk yj yi yh
theorem Qi:akl 168=akm v6:=by kernel_rfl
def yH:LSO:=[Ao 2,Ac 3 0]
def yG:LSO:=[Ac 4 0]
def yF:LSO:=[Aa 9 0,Am 10 9,Ac 11 0]
def yE:LSO:=[Al 12 11 10]
def yD:LSO:=[Aa 13 11,An 14 1 9 11,Ab 15 1 14,Aa 5 13,Aa 6 15]
def yC:LSO:=[Aa 16 5,Aq 17 16 32]
def yB:LSO:=[Ao 2,Ac 3 9]
def yA:LSO:=[Aa 18 6,Am 19 18,Aq 20 19 0]
def yz:LSO:=[Ao 2,Ac 3 2]
def yy:LSO:=[Aa 21 6,Am 22 21,Ac 23 0]
def ui:LSO:=[Al 24 23 22]
def uh:LSO:=[Aa 25 23,An 26 2 21 23,Ap 27 2 26,Bg 8,Aa 7 25,Ai 2 8 27]
def ug:LSO:=[Aa 28 7,Aq 29 28 8]
def uf:LSO:=[Ao 2,Ac 3 9]
def ue:LSO:=[Ad 30 0 8,Ab 31 1 30,Ak 32 134 31,Ay 33 32]
def ud:LSO:=[Ao 2,Ac 3 20]
def uc:LSO:=[Aa 34 6,Aa 35 7,Ce 36 34 35,Ad 37 0 8,Ab 38 1 37,Ax 39 165 36 38]
def ub:LSO:=[Ao 2,Ac 3 21]
def ua:LSO:=[Aa 40 4,Ad 41 1 8,Ab 42 1 41,Au 43 42,o1 44 (.minmax false [(tm 43),(iv 5000)]),AY 45 40 44,Aa 4 45]
def t8:LSO:=[Ag 46 23 1,Aa 23 46]
def t7:LSO:=[Ag 47 11 1,Aa 11 47]
def tZ:LSO:=[Aa 48 4,A3 49 48 4096,Aa 50 49,.grp none 50 false
 [Ah 51 50 0,AZ 52 50 168 51,Bq 53 50 52,A9 54 50 53 4096]
 55 (tm 54)]
def tY:LSO:=[Ao 2,Ac 3 5]
def tX:LSO:=[Aa 56 0,Ak 57 168 56,Aa 2 57,Ac 3 0]
def rH:aO:=⟨58,(akg yH [] (akg yG [] (.seq (akg yF [] (akj 0 (akg yE [] (.seq (akk 12 0) (.seq (.block 1 (akg yD Cz (.seq (akg yC Cq (aki 17 (.sreg yB []))) (.seq (akg yA Cr (aki 20 (.sreg yz []))) (akg yy [] (akj 2 (akg ui [] (.seq (akk 24 2) (.seq (.block 3 (akg uh Cz (.seq (akg ug Cq (aki 29 (.sreg uf []))) (.seq (akg ue Cs (aki 33 (.sreg ud []))) (.seq (.seq (.sdreg uc [.pure,.pure,(.read 0 0),.pure,(.read 0 0)] Cu) (aki 39 (.sreg ub []))) (.sreg ua Cw)))))) (.sreg t8 Cq)))))))))) (.sreg t7 Cq)))))) (.seq (akg tZ Cs (aki 55 (.sreg tY []))) (akg tX C7 .ret))))),[(.tmp 2),(.tmp 3)]⟩
attribute [push_cast] yH yG yF yE yD yC yB yA yz yy ui uh ug uf ue ud uc ub ua t8 t7 tZ tY tX
theorem O3:akl 167=akm rH:=by kernel_rfl
def yx:LSO:=[Aj 2]
def yw:LSO:=[Aj 3]
def yv:LSO:=[Aa 12 0,Am 13 12,Ac 14 0]
def yu:LSO:=[Al 15 14 13]
def yt:LSO:=[An 16 1 12 14,Ab 17 1 16,Aa 5 17]
def yr:LSO:=[Aj 6]
def yq:LSO:=[Aa 18 5,Am 19 18,Ac 20 0]
def yp:LSO:=[Al 21 20 19]
def yo:LSO:=[An 22 2 18 20,Ap 23 2 22,Bg 8,Ai 2 8 23]
def yn:List (ai×Kd):=
 [A5 24 0 8,Az 25 1 24 0 1,Ba 26 39 25 0 1,A5 27 1 8,Az 28 1 27 0 1,Ba 29 90 28 0 1,od 30 (.build [(.str []),(.str [])] [(0,(1,(tm 26))),(1,(1,(tm 29)))]) .pure,
 od 9 (.alloc [(.str []),(.str [])]) .eff]
def tK:List ai :=
 [⟨none,(.store 2 (tm 9) (tm 30)),none⟩]
def tW:LSO:=[Aa 31 6,Am 32 31,Aa 10 32]
def tV:LSO:=[Aa 33 10,A3 34 33 0,Aa 35 34,.grp none 35 true
 [Ae 36 35 6,Ae 37 35 10,BJ 38 35 37 1,BD 39 35 2 36 38,A8 40 35 0 39,A7 41 35 1 40,og 42 35 true (.bin .add (tm 41) (.av (.str [61]))),Ae 43 35 6,Ae 44 35 10,BJ 45 35 44 1,
 BD 46 35 2 43 45,A8 47 35 1 46,A7 48 35 1 47,AJ 49 35 197 48,og 50 35 true (.bin .add (tm 42) (tm 49)),A8 51 35 0 9,A7 52 35 1 51,
 og 53 35 true (.bin .add (tm 52) (.av (.str [61]))),A8 54 35 1 9,A7 55 35 1 54,AJ 56 35 197 55,og 57 35 true (.bin .add (tm 53) (tm 56)),
 og 58 35 true (.bin .gtr (tm 50) (tm 57))]
 59 (tm 58)]
def tU:LSO:=[Aa 60 10,Bi 61 60 1,Aa 10 61]
def tT:LSO:=[Aj 11]
def tS:LSO:=[Aa 62 11,Aa 63 6,Aa 64 10,Ce 65 63 64,B6 66 62 65,Aa 11 66]
def tR:LSO:=[Aa 67 11,Ap 68 2 9,Cc 69 68,B6 70 67 69,Aa 11 70]
def tQ:LSO:=[Aa 71 11,Aa 72 6,Aa 73 10,o1 74 (.slV 2 (tm 72) (some (tm 73)) none none),B6 75 71 74,Aa 11 75]
def tP:LSO:=[Aa 76 11,Aa 6 76]
def tO:LSO:=[Ag 77 20 1,Aa 20 77]
def tN:LSO:=[Aa 78 3,Aa 79 6,B7 80 79,B8 81 78 80,Aa 3 81]
def tM:LSO:=[Ag 82 14 1,Aa 14 82]
def tL:LSO:=[Aa 83 3,Aa 2 83]
def rG:aO:=⟨84,(akg yx [] (akg yw [] (.seq (akg yv [] (akj 0 (akg yu [] (.seq (akk 15 0) (.seq (.block 1 (akg yt Cr (akg yr [] (.seq (akg yq [] (akj 2 (akg yp [] (.seq (akk 21 2) (.seq (.block 3 (akg yo Cr (.seq (.dregM yn tK Cx) (akg tW Cr (.seq (akj 4 (.seq (.seq (.sdreg tV [.pure,.pure,.pure,.pure,.pure,.pure,(.read 0 0),.pure,(.read 0 0),.pure,.pure,.pure,.pure,(.read 0 0),.pure,(.read 0 0),(.read 0 0),.pure,.pure,(.read 0 0),.pure,.pure,(.read 0 0),(.read 0 0),.pure] Cs) (akk 59 4)) (.block 5 (.sreg tU Cr)))) (akg tT [] (akg tS Cu (akg tR Ct (akg tQ Cu (.sreg tP Cq)))))))))) (.sreg tO Cq)))))) (.sreg tN Ct))))) (.sreg tM Cq)))))) (akg tL Cq .ret)))),[(.tmp 2)]⟩
attribute [push_cast] yx yw yv yu yt yr yq yp yo yn tK tW tV tU tT tS tR tQ tP tO tN tM tL
theorem O2:akl 169=akm rG:=by kernel_rfl
def FV:LSO:=[Ao 2,Ac 3 0]
def FU:LSO:=[Aa 7 0,Ak 8 167 7,Aa 6 8,Ar 9 6,Aw 10 6,Aa 4 9,Aa 5 10]
def FT:LSO:=[Aa 11 5,AF 12 11 0]
def FS:LSO:=[Aa 13 5,Ao 2,Aa 3 13]
def FR:LSO:=[Aa 14 0,Ak 15 169 14,Ak 16 168 15,Aa 2 16,Ac 3 0]
def v8:aO:=⟨17,(akg FV [] (akg FU Cw (.seq (akg FT Cq (aki 12 (.sreg FS Cv))) (akg FR Cz .ret)))),[(.tmp 2),(.tmp 3)]⟩
attribute [push_cast] FV FU FT FS FR
theorem Qk:akl 132=akm v8:=by kernel_rfl
def J4:LSO:=[Ao 2,Ac 3 0]
def J3:LSO:=[Aa 7 0,Ak 8 131 7,Aa 6 8,Ar 9 6,Aw 10 6,Aa 4 9,Aa 5 10]
def J2:LSO:=[Aa 11 5,AF 12 11 0]
def J1:LSO:=[Aa 13 5,Ao 2,Aa 3 13]
def J0:LSO:=[Aa 14 4,Ak 15 132 14,Ar 16 15,Aw 17 15,Aa 2 16,Aa 3 17]
def Ic:aO:=⟨18,(akg J4 [] (akg J3 CB (.seq (akg J2 Cq (aki 12 (.sreg J1 Cv))) (akg J0 CI .ret)))),[(.tmp 2),(.tmp 3)]⟩
attribute [push_cast] J4 J3 J2 J1 J0
theorem R7:akl 92=akm Ic:=by kernel_rfl
attribute [push_cast] v7 Ma Ib rF oS v6 rH rG v8 Ic
variable {L:List Blk}{K:ag7}
set_option maxHeartbeats 8000000
set_option maxRecDepth 100000
theorem mV{l:List UInt8}{x:UInt8}(hn:l.length<=1100000)(h:K (.bool (l.contains x)) L):
  ag6 170 [.int .u8 x.toNat,.str l] L K:=by
 replace h:=hid h;refine ag5 SO ?_;refine ak (λn T' L'=>∃(i:Nat),n=l.length-i/\i<=l.length/\Hid (∀j,j<i->l.getD j 0≠x)/\T'=[(5,.int .i64 (i:Int)),(0,.int .u8 x.toNat),(1,.str l)]/\L=L') (CutS (b:=ag9 _)) ⟨0,rfl,ahf _,hid (by simp),rfl,rfl⟩ ?_;rintro _ _ _ ⟨i,rfl,hi,hno,rfl,rfl⟩;by_cases hlt:i<l.length;have h1:(i:Int)<(l.length:Int):=by omega
 have h2:=ag4 i (by omega);obtain⟨p,hp⟩:=ag2 (l.getD i 0);by_cases hpq:p=x;have hc:l.contains x=true:=by rw[ah1,<- hpq,<- hp,ahz,ahn hlt];exact ah9 _
 have h':=h.out;rw[hc]at h';replace h':=hid h';clear hc;subst hpq;refine wk ?_;exact aa h'.out;have k1:¬(p.toNat:Int)=(x.toNat:Int):=λe=>hpq ((bp p x).1 e)
 have hp':=hid hp;refine wk ?_;refine ah _ _ _ (by omega) (CutS (b:=ag9 _)) ⟨i+1,rfl,hlt,hid λj hj=>?_,rfl,rfl⟩;rcases aht j i with e|e;exact hno.out j e;have:j=i:=by omega
 subst this;rw[hp];exact hpq;have hke:i=l.length:=by omega
 subst hke;have h1:¬(l.length:Int)<(l.length:Int):=by omega
 have hc:l.contains x=false:=by rw[<- aiI,ah1];intro hm;obtain⟨j,hj,e⟩:=aiq.1 hm;exact hno.out j hj (by simp[hj,e])
 have h':=h.out;rw[hc]at h';replace h':=hid h';clear hc;refine wk ?_;exact aa h'.out
abbrev oF:List UInt8:=[97,98,99,100,101,102,103,104,105,106,107,108,109,110,111,112,113,114,115,116,117,118,119,120,121,122]
abbrev TX:List UInt8:=[48,49,50,51,52,53,54,55,56,57,45]
theorem ad8:∀n:_root_.Fin 256,oF.contains (dN (UInt8.ofNat n.val))=oH (n.val:Int)/\(oF.contains (dN (UInt8.ofNat n.val)) ||TX.contains (dN (UInt8.ofNat n.val)))=Mo (n.val:Int):=by decide +kernel
theorem UE(c:UInt8):oF.contains (dN c)=oH (c.toNat:Int)/\(oF.contains (dN c) ||TX.contains (dN c))=Mo (c.toNat:Int):=by have:=ad8 ⟨c.toNat,c.toNat_lt⟩;simpa using this
def okC(j:Nat)(c:UInt8):Bool:=oF.contains (dN c) ||(decide (0<j)&&TX.contains (dN c))
theorem aaN(s:List UInt8):eT s=true↔(1<=s.length/\s.length<=32)/\∀j,j<s.length->okC j (s.getD j 0)=true:=by
 simp only[eT,ahe,decide_eq_true_eq,ahk];constructor;rintro⟨⟨⟨h1,h2⟩,h3⟩,h4⟩;refine⟨⟨h1,h2⟩,λj hj=>?_⟩;obtain⟨e1,e2⟩:=UE (s.getD j 0);by_cases h0:j=0;subst h0;rw[okC,e1,h3];rfl;have hm:s.getD j 0∈s:=by simp[hj]
 have:=h4 _ hm;rw[<- e2]at this;rw[okC,show decide (0<j)=true by simp;omega,aia];exact this;rintro⟨⟨h1,h2⟩,h3⟩;refine⟨⟨⟨h1,h2⟩,?_⟩,λc hc=>?_⟩;have:=h3 0 (by omega);rw[okC]at this;simp only[Nat.lt_irrefl,decide_false,aiE,ajj]at this;rw[<- (UE _).1];exact this;obtain⟨j,hj,rfl⟩:=aiq.1 hc;have:=h3 j hj;have e:s.getD j 0=s[j]:=by simp[hj]
 rw[e,okC]at this;rw[<- (UE _).2];cases hl:oF.contains (dN s[j])with
 |true=>rfl
 | false =>
   rw[hl,aiJ,ahe]at this;rw[this.2];rfl
theorem Vn(hs:(s.length:Int)<=140737488351232)(h:K (.bool (eT s)) L):ag6 134 [.str s] L K:=by
 replace h:=hid h;obtain⟨t,ht⟩:=ag2 (af s);have htl:t.length=s.length:=by rw[<- ht];simp[af]
 have hg:∀j,j<s.length->t.getD j 0=dN (s.getD j 0):=λj hj=>by rw[<- ht];simp[af,hj]
 replace htl:=hid htl;replace hg:=hid hg;have hit:=hid (aaN s);refine ag5 Qj ?_;refine ce hs ?_;rw[ht];refine sk ?_;refine wk ?_;refine ak (λn T' L'=>∃(i:Nat) (b:Bool),n=s.length+1-i/\i<=s.length/\Hid (b=true↔(1<=s.length/\s.length<=32)/\∀j,j<i->okC j (s.getD j 0)=true)/\T'=[(5,.int .i64 (i:Int)),(4,.bool b),(3,.str t)]/\L=L') (CutS (b:=ag9 _)) ⟨0,_,rfl,ahf _,hid (by have:=htl.out;simp;omega),rfl,rfl⟩ ?_;rintro _ _ _ ⟨i,b,rfl,hi,hb,rfl,rfl⟩;have htl':=htl.out;by_cases hlt:i<s.length
 .have g1:(i:Int)<(t.length:Int):=(by omega);have g2:=ag4 i (by omega);have g3:=hg.out i hlt;obtain⟨c,hc⟩:=ag2 (s.getD i 0);rw[hc]at g3;replace hc:=hid hc;clear htl';cases b with
  | false =>
    have hf:eT s=false:=by rw[<- aiI,hit.out];intro⟨q1,q2⟩;have:=hb.out.2 ⟨q1,λj hj=>q2 j (by omega)⟩;cases this
    have h':=h.out;rw[hf]at h';replace h':=hid h';clear hf;refine wk ?_;exact aa h'.out
  | true =>
    have hnext:okC i c=true↔((1<=s.length/\s.length<=32)/\∀j,j<i+1->okC j (s.getD j 0)=true):=by
     have hb1:=hb.out.1 rfl;constructor
     .intro e;refine⟨hb1.1,λj hj=>?_⟩;rcases aht j i with q|q
      .exact hb1.2 j q
      .have:j=i:=(by omega);subst this;rw[hc.out];exact e
     .rintro⟨_,e⟩;have:=e i (by omega);rwa[hc.out]at this
    replace hnext:=hid hnext;have hok:okC i c=(oF.contains (dN c) ||(decide (0<i)&&TX.contains (dN c))):=rfl;replace hok:=hid hok;refine wk ?_;refine mV (by simp) ?_;cases hl:oF.contains (dN c)with
    | true =>
      have hk:=hid (show okC i c=true by rw[hok.out,hl];rfl);refine sk ?_;refine wk ?_;exact ah _ _ _ (by omega) (CutL (b:=ag9 _)) ⟨i+1,true,rfl,hlt,hid (by rw[<- hnext.out,hk.out]),rfl,rfl⟩
    | false =>
      by_cases h0:i=0
      .have hk:=hid (show okC i c=false by rw[hok.out,hl,h0];rfl);have k0:¬(0:Int)<(i:Int):=(by omega);clear h0;refine sk ?_;refine wk ?_;exact ah _ _ _ (by omega) (CutL (b:=ag9 _)) ⟨i+1,false,rfl,hlt,hid (by rw[<- hnext.out,hk.out]),rfl,rfl⟩
      .have hk:=hid (show okC i c=TX.contains (dN c)by rw[hok.out,hl,show decide (0<i)=true by simp;omega];simp);have k0:(0:Int)<(i:Int):=(by omega);clear h0;refine sk ?_
       repeat' first
        |refine br ?_
        | (first|refine bh (by kernel_rfl) ?_|refine aH (by kernel_rfl) ?_|refine aK ?_|refine cO ?_|refine bB (fun _=>?_)|refine aB ?_|refine bm ?_)
          refine sm ?_
        | (first|refine a8 (by kernel_rfl) ?_|refine bc ?_|refine aJ ?_|refine bj ?_|refine bG (aA ?_))
          refine sl ?_
        |exact bC
        |first|apply bD|apply be|apply bE|apply bf|apply bF|apply bg
        |refine aN ?_
        |refine aI ?_
        |first|refine aL rfl ?_|refine aM rfl ?_|refine aw rfl ?_ ?_|refine aQ rfl (λ_=>?_) (λ_=>?_)|refine aP rfl (λ_=>?_) (λ_=>?_)
        |((first|refine au (λ_=>?_) (λ_=>?_)|refine az (λ_=>?_) (λ_=>?_))<;>try refine sm ?_)
        |refine And.intro trivial ?_
        |refine And.intro (by omega) ?_
        |refine aU rfl (λ_=>?_) (λ_=>?_)
        |refine And.intro ?_ ?_
       refine aC (mV (by simp) ⟨rfl,rfl⟩) ?_;refine sk ?_
       repeat' first
        |refine br ?_
        | (first|refine bh (by kernel_rfl) ?_|refine aH (by kernel_rfl) ?_|refine aK ?_|refine cO ?_|refine bB (fun _=>?_)|refine aB ?_|refine bm ?_)
          refine sm ?_
        | (first|refine a8 (by kernel_rfl) ?_|refine bc ?_|refine aJ ?_|refine bj ?_|refine bG (aA ?_))
          refine sl ?_
        |exact bC
        |first|apply bD|apply be|apply bE|apply bf|apply bF|apply bg
        |refine aN ?_
        |refine aI ?_
        |first|refine aL rfl ?_|refine aM rfl ?_|refine aw rfl ?_ ?_|refine aQ rfl (λ_=>?_) (λ_=>?_)|refine aP rfl (λ_=>?_) (λ_=>?_)
        |((first|refine au (λ_=>?_) (λ_=>?_)|refine az (λ_=>?_) (λ_=>?_))<;>try refine sm ?_)
        |refine And.intro trivial ?_
        |refine And.intro (by omega) ?_
        |refine aU rfl (λ_=>?_) (λ_=>?_)
        |refine And.intro ?_ ?_
       exact ah _ _ _ (by omega) (CutL (b:=ag9 _)) ⟨i+1,TX.contains (dN c),rfl,hlt,hid (by rw[<- hnext.out,hk.out]),rfl,rfl⟩
 have hke:i=s.length:=by omega
 subst hke;have g1:¬(s.length:Int)<(t.length:Int):=by omega
 have hfin:b=eT s:=by have e:=hb.out.trans hit.out.symm;cases b<;>cases hs':eT s<;>simp_all
 have h':=h.out;rw[<- hfin]at h';replace h':=hid h';clear hfin;clear htl';refine wk ?_;exact aa h'.out
theorem qD(hs:(s.length:Int)<=100000)(h:K (.bool (eT s)) L):ag6 134 [.str s] L K:=Vn (by omega) h
theorem aa9{r:List Ava}(hn:r.length<=100000)(h1:∀a∈r,(a.1.length:Int)<=100000)(h2:(typ.length:Int)<=100000)(h:K (.bool (lu r typ)) L):
  ag6 165 [WV r cap,.str typ] L K:=by
 replace h:=hid h;replace h1:=hid h1;refine ag5 R6 ?_;refine ak (λn T' L'=>∃(k:Nat) (Z:List Blk),n=r.length-k/\k<=r.length/\Hid (lu (r.take k) typ=false)/\T'=[(9,.int .i64 (k:Int)),(8,.int .i64 r.length),(7,WV r cap),(1,.str typ)]/\L'=L++Z) (CutS (b:=by simp)) ⟨0,[],rfl,ahf _,hid rfl,rfl,by simp⟩ ?_;rintro _ _ _ ⟨k,Z,rfl,hk,hf,rfl,rfl⟩;by_cases hlt:k<r.length;have g1:(k:Int)<(r.length:Int):=by omega
 have g2:=ag4 k (by omega);have e1:=fQ hlt;have e2:k*2+2<=(aG r).length:=by rw[dF];omega
 obtain⟨⟨ty,va⟩,ha⟩:∃a,r.getD k ([],[])=a:=⟨_,rfl⟩;have ham:(ty,va)∈r:=by rw[<- ha];simp[hlt]
 have htk:r.take (k+1)=r.take k++[(ty,va)]:=by rw[ahw hlt,<- ha];simp[hlt]
 rw[ha]at e1;simp only[qC]at e1;have hs:lu (r.take (k+1)) typ=decide (af ty=af typ):=by have:=hf.out;simp only[lu]at this⊢;rw[htk,ajX,this];simp
 have ha1:=h1.out _ ham;simp only at ha1;have hall:af ty=af typ->lu r typ=true:=λe=>ajD.2 ⟨_,ham,by simpa using e⟩
 replace hall:=hid hall;replace hs:=hid hs;clear ha ham htk;by_cases hq:af ty=af typ;have h':=h.out;rw[hall.out hq]at h';replace h':=hid h';have kk1:=@hid _ (λL K=>mP ha1 (L:=L) (K:=K));have kk2:=@hid _ (λL K=>mP h2 (L:=L) (K:=K));refine wk ?_;exact ae rfl h'.out;have kk1:=@hid _ (λL K=>mP ha1 (L:=L) (K:=K));have kk2:=@hid _ (λL K=>mP h2 (L:=L) (K:=K));refine wk ?_;exact ah _ _ _ (by omega) (CutL (b:=by simp)) ⟨k+1,_,rfl,hlt,hid (by rw[hs.out];simpa using hq),rfl,rfl⟩;have hke:k=r.length:=by omega
 subst hke;have g1:¬(r.length:Int)<(r.length:Int):=by omega
 have hn':=hf.out;rw[ahr]at hn';have h':=h.out;rw[hn']at h';replace h':=hid h';clear hn';refine wk ?_;exact ae rfl h'.out
theorem mE(hs:s.length<=100000)(h:K (.str (eu s)) L):ag6 197 [.str s] L K:=by
 replace h:=hid h;refine ag5 L9 ?_;refine bX (l:=[]) (n:=0) 3 1 rfl (ahD 1).symm ?_;refine ak (λn T' L'=>∃(i m:Nat) (b:List UInt8),n=s.length-i/\i<=s.length/\m<=3*i/\Hid (m=b.length/\b++wrL s.length i (s.drop i)=eu s)/\T'=[(4,.int .i64 (i:Int)),(3,.gsl (u8s b) m L.length 1),(0,.str s)]/\L'=L++[.spare m 1]) (CutS (b:=by simp)) ⟨0,0,[],rfl,ahf _,by omega,hid ⟨rfl,rfl⟩,rfl,rfl⟩ ?_;rintro _ _ _ ⟨i,m,b,rfl,hi,hm,hb,rfl,rfl⟩;by_cases hlt:i<s.length
 .have g1:(i:Int)<(s.length:Int):=(by omega);have g2:=ag4 i (by omega);obtain⟨c,hc⟩:=ag2 (s.getD i 0);have hdr:=mz hlt;rw[hc]at hdr;have hb2:=hb.out.2;rw[hdr]at hb2;simp only[wrL]at hb2;clear hdr;replace hb2:=hid hb2;obtain⟨p1,hp1⟩:=ag2 (([34,43,44,59,60,62,92]:List UInt8).contains c);obtain⟨p2,hp2⟩:=ag2 (([32,35]:List UInt8).contains c);have hq1:p1=true↔c∈([34,43,44,59,60,62,92]:List UInt8):=(by rw[<- hp1,ah1]);have hq2:p2=true↔(c=32\/c=35):=(by rw[<- hp2,ah1];simp);replace hq1:=hid hq1;replace hq2:=hid hq2
  repeat' first
   |refine br ?_
   | (first|refine bh (by kernel_rfl) ?_|refine aH (by kernel_rfl) ?_|refine aK ?_|refine cO ?_|refine bB (fun _=>?_)|refine aB ?_|refine bm ?_|refine mV (by simp) ?_|refine bb (mV (by simp) ⟨rfl,rfl⟩) (mV (by simp) ⟨rfl,rfl⟩) ?_|refine aC (mV (by simp) ⟨rfl,rfl⟩) ?_)
     refine sm ?_
   | (first|refine a8 (by kernel_rfl) ?_|refine bc ?_|refine aJ ?_|refine bj ?_|refine bG (aA ?_))
     refine sl ?_
   |exact bC
   |first|apply bD|apply be|apply bE|apply bf|apply bF|apply bg
   |refine aN ?_
   |refine aI ?_
   |first|refine aL rfl ?_|refine aM rfl ?_|refine aw rfl ?_ ?_|refine aQ rfl (λ_=>?_) (λ_=>?_)|refine aP rfl (λ_=>?_) (λ_=>?_)
   |((first|refine au (λ_=>?_) (λ_=>?_)|refine az (λ_=>?_) (λ_=>?_))<;>try refine sm ?_)
   |refine And.intro trivial ?_
   |refine And.intro (by omega) ?_
   |refine aU rfl (λ_=>?_) (λ_=>?_)
   |refine And.intro ?_ ?_
  rfl;omega;rename_i h0;have hc0:=(bp c 0).1 h0;rw[show u8s b++AV.frzL (u8s [92,48,48])=u8s (b++[92,48,48])by simp[u8s,AV.frzL,AV.frz]];refine ah _ _ _ (by omega) (CutL (b:=by simp)) ⟨i+1,m+3,b++[92,48,48],rfl,hlt,by omega,hid ⟨by simp[hb.out.1],?_⟩,rfl,rfl⟩;rw[<- hb2.out,wrB,if_pos hc0,aho];rename_i h0 h1;have hc0:¬c=0:=λe=>h0 ((bp c 0).2 e)
  have hq:(i=0/\(c=32\/c=35))\/(i+1=s.length/\c=32)\/c∈[34,43,44,59,60,62,92]:=by simp only[ahO,ahe,decide_eq_true_eq]at h1;rcases h1 with(e|⟨e1,e2⟩)|⟨e1,e2⟩;exact .inr (.inr (hq1.out.1 e));exact .inl ⟨by omega,hq2.out.1 e2⟩;exact .inr (.inl ⟨by omega,(bp c 32).1 e2⟩)
  rw[show u8s b++[AV.int IntKind.u8 92,AV.int IntKind.u8 (c.toNat:Int)]=u8s (b++[92,c])by simp[u8s]];refine ah _ _ _ (by omega) (CutL (b:=by simp)) ⟨i+1,m+1+1,b++[92,c],rfl,hlt,by omega,hid ⟨by simp[hb.out.1],?_⟩,rfl,rfl⟩;rw[<- hb2.out,wrB,if_neg hc0,if_pos hq,aho];rename_i h0 h1;have hc0:¬c=0:=λe=>h0 ((bp c 0).2 e)
  have hq:¬((i=0/\(c=32\/c=35))\/(i+1=s.length/\c=32)\/c∈[34,43,44,59,60,62,92]):=λhq=>by rw[<- aiI]at h1;refine h1 ?_;simp only[ahO,ahe,decide_eq_true_eq];rcases hq with⟨e1,e2⟩|⟨e1,e2⟩|e;exact .inl (.inr ⟨by omega,hq2.out.2 e2⟩);exact .inr ⟨by omega,(bp c 32).2 e2⟩;exact .inl (.inl (hq1.out.2 e))
  rw[show u8s b++[AV.int IntKind.u8 (c.toNat:Int)]=u8s (b++[c])by simp[u8s]];refine ah _ _ _ (by omega) (CutL (b:=by simp)) ⟨i+1,m+1,b++[c],rfl,hlt,by omega,hid ⟨by simp[hb.out.1],?_⟩,rfl,rfl⟩;rw[<- hb2.out,wrB,if_neg hc0,if_neg hq,aho]
 have hke:i=s.length:=by omega
 subst hke;have g1:¬(s.length:Int)<(s.length:Int):=by omega
 have e1:=iZ b;have e2:=gw b;have e:=hb.out.2;rw[ahU,wrL,ahG]at e;have h':=h.out;rw[<- e]at h';replace h':=hid h';clear e;refine wk ?_;exact ae rfl h'.out
def Z9(n:Nat):Nat:=if n<10 then 48+n else 87+n
theorem D5(hn:n<16)(h:K (.int .u8 (Z9 n:Nat)) L):ag6 221 [.int .u8 n] L K:=by
 unfold Z9 at h;refine ad O5 (by simp[rJ]) ?_;simp only[rJ,am];by_cases h1:n<10;rw[if_pos h1]at h;replace h:=hid h;have k1:(n:Int)<10:=by omega
 have k2:IntKind.u8.wrap (48+(n:Int))=48+(n:Int):=cD (by omega) (by omega);clear h1;refine wk ?_;refine aa ?_;simpa using h.out;rw[if_neg h1]at h;replace h:=hid h;have k1:¬(n:Int)<10:=by omega
 have k2:IntKind.u8.wrap (97+(n:Int))=97+(n:Int):=cD (by omega) (by omega);have k3:IntKind.u8.wrap (97+(n:Int)-10)=97+(n:Int)-10:=cD (by omega) (by omega);clear h1;refine wk ?_;refine aa ?_;have:=h.out;rwa[show((87+n:Nat):Int)=97+(n:Int)-10 by omega]at this
theorem aeh:∀(a:_root_.Fin 256) (x:_root_.Fin 16),(Z9 x.val=(dN (UInt8.ofNat a.val)).toNat)↔kU (UInt8.ofNat a.val)=some x.val:=by decide +kernel
theorem agq{x:Nat}(hx:x<16):((Z9 x:Nat):Int)=((dN a).toNat:Int)↔kU a=some x:=by have:=aeh ⟨a.toNat,a.toNat_lt⟩ ⟨x,hx⟩;simp only[UInt8.ofNat_toNat]at this;rw[<- this];omega
def Xo(a b:UInt8)(k:Nat):Prop:=kU a=some (k/16)/\kU b=some (k%16)
theorem ZI{b:UInt8}(h:Xo a b k):N1 a b=some (UInt8.ofNat k):=by obtain⟨h1,h2⟩:=h;simp only[N1,h1,h2];congr 2;omega
theorem ZJ{b:UInt8}(h:∀j,j<256->¬Xo a b j):N1 a b=none:=by unfold N1;rcases h1:kU a with _|x;rfl;rcases h2:kU b with _|y;rfl;have:=IF h1;have:=IF h2;exact absurd ⟨by rw[h1];congr 1;omega,by rw[h2];congr 1;omega⟩ (h (16*x+y) (by omega))
theorem Ze{b:UInt8}(h:K (LR a b) L):ag6 189 [.str [a,b]] L K:=by
 obtain⟨p,hp⟩:=ag2 (dN a);obtain⟨q,hq⟩:=ag2 (dN b);have hf:af [a,b]=[p,q]:=by simp[af,hp,hq]
 have hl:[p,q].length=2:=rfl;have hl':[a,b].length=2:=rfl;have ha:[p,q].getD 0 0=p:=rfl;have hb:[p,q].getD 1 0=q:=rfl;have d1:Int.tmod 2 2=0:=by decide
 replace h:=hid h;refine ag5 O6 ?_;refine mP (by simp) ?_;rw[hf];refine sk ?_;refine wk ?_;refine bX (l:=[]) (n:=0) 4 1 rfl (ahD 1).symm ?_;refine ak (λn T' L'=>(n=1/\T'=[(6,.int .i64 0),(4,.gsl [] 0 L.length 1),(5,.str [p,q]),(0,.str [a,b])]/\L'=L++[.spare 0 1])\/(n=0/\∃(x:UInt8) (w:List AV),Hid (N1 a b=some x/\w=u8s [x])/\T'=[(6,.int .i64 2),(4,.gsl w 1 L.length 1),(5,.str [p,q]),(0,.str [a,b])]/\L'=L++[.spare 1 1])) (n0:=1) (T0:=[(6,.int .i64 0),(4,.gsl [] 0 L.length 1),(5,.str [p,q]),(0,.str [a,b])]) (L0:=L++[.spare 0 1]) (CutS (b:=by simp)) (.inl ⟨rfl,rfl,rfl⟩) ?_;rintro _ _ _ (⟨rfl,rfl,rfl⟩|⟨rfl,x,w,hx,rfl,rfl⟩);refine wk ?_;refine ak (λn T' L'=>(∃k:Nat,n=257-k/\k<=256/\Hid (∀j,j<k->¬Xo a b j)/\T'=[(8,.int .i64 (k:Int)),(7,.bool false),(6,.int .i64 0),(4,.gsl [] 0 L.length 1),(5,.str [p,q]),(0,.str [a,b])]/\L'=L++[.spare 0 1])\/(n=0/\∃(x:UInt8) (k:Nat) (w:List AV),k<=256/\Hid (N1 a b=some x/\w=u8s [x])/\T'=[(8,.int .i64 (k:Int)),(7,.bool true),(6,.int .i64 0),(4,.gsl w 1 L.length 1),(5,.str [p,q]),(0,.str [a,b])]/\L'=L++[.spare 1 1])) (n0:=257) (T0:=[(8,.int .i64 0),(7,.bool false),(6,.int .i64 0),(4,.gsl [] 0 L.length 1),(5,.str [p,q]),(0,.str [a,b])]) (L0:=L++[.spare 0 1]) (CutS (b:=by simp)) (.inl ⟨0,rfl,by omega,hid (by simp),rfl,rfl⟩) ?_;rintro _ _ _ (⟨k,rfl,hk,hno,rfl,rfl⟩|⟨rfl,x,k,w,hk,hx,rfl,rfl⟩);by_cases hlt:k<256;have g1:(k:Int)<256:=by omega
 have g2:=ag4 k (by omega);have g3:IntKind.u8.wrap (k:Int)=(k:Int):=cD (by omega) (by omega);obtain⟨u,hu⟩:=ag2 (k/16);obtain⟨v,hv⟩:=ag2 (k%16);have hu16:u<16:=by omega
 have hv16:v<16:=by omega
 have g4:IntKind.i64.wrap (Int.tdiv (k:Int) 16)=(u:Int):=by rw[Int.tdiv_eq_ediv_of_nonneg (by omega),ac (by omega) (by omega)];omega
 have g5:IntKind.u8.wrap (u:Int)=(u:Int):=cD (by omega) (by omega);have g6:Int.tmod (k:Int) 16=(v:Int):=by rw[ai6 (by omega)];omega
 have g7:IntKind.u8.wrap (v:Int)=(v:Int):=cD (by omega) (by omega);have m1:=agq (a:=a) hu16;have m2:=agq (a:=b) hv16;rw[hp]at m1;rw[hq]at m2;have mk:Xo a b k↔kU a=some u/\kU b=some v:=by unfold Xo;rw[hu,hv]
 replace hu:=hid hu;replace hv:=hid hv;replace mk:=hid mk;have nxt:=hid λ(e:¬Xo a b k)=>show ∀j,j<k+1->¬Xo a b j from λj hj=>by rcases aht j k with e'|e';exact hno.out j e';rw[show j=k by omega];exact e
 by_cases h1:kU a=some u;have k1:=m1.2 h1;by_cases h2:kU b=some v;have k2:=m2.2 h2;have hx:=ZI (mk.out.2 ⟨h1,h2⟩);have hkk:((UInt8.ofNat k).toNat:Int)=(k:Int):=by simp;omega
 replace hkk:=hid hkk;replace hx:=hid hx;clear m1 m2 h1 h2;have kk1:=@hid _ (λL K=>D5 hu16 (L:=L) (K:=K));have kk2:=@hid _ (λL K=>D5 hv16 (L:=L) (K:=K));refine wk ?_;refine ah _ _ _ (by omega) (CutL (b:=by simp)) (.inr ⟨rfl,UInt8.ofNat k,k+1,_,by omega,hid ⟨hx.out,?_⟩,rfl,rfl⟩);simp only[u8s,List.map,hkk.out];have k2:¬((Z9 v:Nat):Int)=(q.toNat:Int):=λe=>h2 (m2.1 e)
 have hn:=hid (nxt.out λe=>h2 (mk.out.1 e).2);clear m1 m2 h1 h2;have kk1:=@hid _ (λL K=>D5 hu16 (L:=L) (K:=K));have kk2:=@hid _ (λL K=>D5 hv16 (L:=L) (K:=K));refine wk ?_;exact ah _ _ _ (by omega) (CutL (b:=by simp)) (.inl ⟨k+1,rfl,by omega,hn,rfl,rfl⟩);have k1:¬((Z9 u:Nat):Int)=(p.toNat:Int):=λe=>h1 (m1.1 e)
 have hn:=hid (nxt.out λe=>h1 (mk.out.1 e).1);clear m1 m2 h1;have kk1:=@hid _ (λL K=>D5 hu16 (L:=L) (K:=K));refine wk ?_;exact ah _ _ _ (by omega) (CutL (b:=by simp)) (.inl ⟨k+1,rfl,by omega,hn,rfl,rfl⟩);have hke:k=256:=by omega
 subst hke;have h':=h.out;simp only[LR,ZJ hno.out]at h';replace h':=hid h';have g1:¬((256:Nat):Int)<256:=by omega
 refine wk ?_;exact ae rfl h'.out;by_cases hlt:(k:Int)<256;refine wk ?_;exact ah _ _ _ (by omega) (CutL (b:=by simp)) (.inr ⟨rfl,x,w,hx,rfl,rfl⟩);refine wk ?_;exact ah _ _ _ (by omega) (CutL (b:=by simp)) (.inr ⟨rfl,x,w,hx,rfl,rfl⟩);have h':=h.out;simp only[LR,hx.out.1]at h';replace h':=hid h';rw[hx.out.2];have e1:=iZ [x];have e2:=gw [x];refine wk ?_;exact ae rfl h'.out
def mC(b:List UInt8)(bl:Bool)(s:List UInt8):Option (List UInt8×List UInt8):=match fF b bl s with
 |some (v,r,true)=>some (v,r)
 |_=>none
def WJ(n:Nat)(o:Option (List UInt8×List UInt8)):AV:=match o with
 |none=>.tup [.str [],.int .i64 0,.bool false]
 |some (v,r)=>.tup [.str v,.int .i64 ((n-r.length:Nat):Int),.bool true]
theorem YQ(h:c=44\/c=43):mC b false (c::s)=some (b,c::s):=by simp only[mC,pL h];rfl
theorem WI(h:c=44\/c=43):mC b true (c::s)=none:=by simp only[mC,pL h];rfl
theorem aaG :mC b false []=some (b,[]):=by simp only[mC,mU];rfl
theorem YS :mC b true []=none:=by simp only[mC,mU];rfl
theorem aaH{bl:Bool}(h:¬(c=44\/c=43))(h2:c≠92)(hb:c=0\/c∈([34,59,60,62]:List UInt8)\/(b=[]/\(c=32\/c=35))):mC b bl (c::s)=none:=by simp only[mC,mD h h2,if_pos hb]
theorem QO{bl:Bool}(h:¬(c=44\/c=43))(h2:c≠92)(hb:¬(c=0\/c∈([34,59,60,62]:List UInt8)\/(b=[]/\(c=32\/c=35)))):mC b bl (c::s)=mC (b++[c]) (decide (c=32)) s:=by simp only[mC,mD h h2,if_neg hb]
theorem Qv{x:UInt8}{L:List Blk}{K:ag7}(h:K (.bool (pT.contains x)) L):ag6 170 [.int .u8 x.toNat,.str pT] L K:=mV (by simp) h
theorem Up{a b c d x:UInt8}{L:List Blk}{K:ag7}(h:K (.bool ([a,b,c,d].contains x)) L):ag6 170 [.int .u8 x.toNat,.str [a,b,c,d]] L K:=mV (by simp) h
theorem Uq{a b x:UInt8}{L:List Blk}{K:ag7}(h:K (.bool ([a,b].contains x)) L):ag6 170 [.int .u8 x.toNat,.str [a,b]] L K:=mV (by simp) h
theorem aa0{at0:Nat}(hs:s.length<=100000)(hat:at0<=s.length)(h:K (WJ s.length (mC [] false (s.drop at0))) L):ag6 166 [.str s,.int .i64 (at0:Int)] L K:=by
 obtain⟨R,hR⟩:=ag2 (mC [] false (s.drop at0));rw[hR]at h;replace h:=hid h;refine ag5 O1 ?_;refine bX (l:=[]) (n:=0) 7 1 rfl (ahD 1).symm ?_;refine ak (λn T' L'=>∃(i m:Nat) (b:List UInt8) (bl fb:Bool),n=s.length-i/\i<=s.length/\m<=i/\Hid (m=b.length/\mC b bl (s.drop i)=R/\(bl=true->i<s.length/\s.getD i 0≠44/\s.getD i 0≠43)/\(fb=true↔b=[]))/\T'=[(8,.bool fb),(1,.int .i64 (i:Int)),(7,.gsl (u8s b) m L.length 1),(0,.str s)]/\L'=L++[.spare m 1]) (CutS (b:=by simp)) ⟨at0,0,[],false,true,rfl,hat,by omega,hid ⟨rfl,hR,by simp,by simp⟩,rfl,rfl⟩ ?_;rintro _ _ _ ⟨i,m,b,bl,fb,rfl,hi,hm,hI,rfl,rfl⟩;have e1:=iZ b;have e2:=gw b;by_cases hlt:i<s.length
 .have g1:(i:Int)<(s.length:Int):=(by omega);have g2:=ag4 i (by omega);obtain⟨c,hc⟩:=ag2 (s.getD i 0);have hdr:=mz hlt;rw[hc]at hdr;have hb2:=hI.out.2.1;rw[hdr]at hb2;by_cases hcc:c=44\/c=43;have hbl:bl=false:=by
   cases bl with
   |false=>rfl
   | true =>
     obtain⟨_,n1,n2⟩:=hI.out.2.2.1 rfl;rw[hc]at n1 n2;rcases hcc with e|e
     .exact absurd e n1
     .exact absurd e n2
  subst hbl;rw[YQ hcc]at hb2;have h':=h.out;rw[<- hb2]at h';simp only[WJ]at h';rw[<- hdr,aja,show s.length-(s.length-i)=i by omega]at h';replace h':=hid h';have k1:((c.toNat:Int)=44)\/((c.toNat:Int)=43):=hcc.imp (bp c 44).2 (bp c 43).2;clear hb2 hcc hdr;rcases k1 with k1|k1;refine wk ?_;exact ae rfl h'.out;refine wk ?_;exact ae rfl h'.out
  .have k1:¬(c.toNat:Int)=44:=λe=>hcc (.inl ((bp c 44).1 e))
   have k2:¬(c.toNat:Int)=43:=λe=>hcc (.inr ((bp c 43).1 e))
   by_cases h92:c=92;subst h92;have g3:IntKind.i64.wrap ((i:Int)+1+1)=(i:Int)+1+1:=ac (by omega) (by omega);have g4:IntKind.i64.wrap ((i:Int)+1+2)=(i:Int)+1+2:=ac (by omega) (by omega);have t1:((i:Int)+1).toNat=i+1:=(by omega);have t3:((i:Int)+1+2).toNat=i+3:=(by omega);by_cases h1:i+1<s.length;have f1:(i:Int)+1<(s.length:Int):=(by omega);have f0:¬(i:Int)+1=(s.length:Int):=(by omega);obtain⟨d,hd⟩:=ag2 (s.getD (i+1) 0);have hdr1:=mz h1;rw[hd]at hdr1;rw[hdr1]at hb2;by_cases hsp:d∈pT;simp only[mC,rV hsp]at hb2;have f2:pT.contains d=true:=ah1.2 hsp;clear hdr hdr1 hcc;replace hb2:=hid hb2;have kk1:=@hid _ @Qv;have kk2:=@hid _ @Up;have kk3:=@hid _ @Uq;refine wk ?_;rw[show u8s b++[AV.int IntKind.u8 (d.toNat:Int)]=u8s (b++[d])by simp[u8s]];exact ah _ _ _ (by omega) (CutL (b:=by simp)) ⟨i+1+1,m+1,b++[d],false,false,rfl,h1,by omega,hid ⟨by simp[hI.out.1],hb2.out,by simp,by simp⟩,rfl,rfl⟩;have f2:pT.contains d=false:=by rw[<- aiI,ah1];exact hsp
   by_cases h2:i+2<s.length;have f3:¬(s.length:Int)<(i:Int)+1+2:=(by omega);have f4:(i:Int)+1<=(i:Int)+1+2:=(by omega);have f5:(i:Int)+1+2<=(s.length:Int):=(by omega);have f6:(0:Int)<=(i:Int)+1:=(by omega);obtain⟨e,he⟩:=ag2 (s.getD (i+2) 0);have hdr2:=mz h2;rw[he]at hdr2;rw[hdr2]at hb2;simp only[mC,DV hsp]at hb2;have hcut:(s.drop (i+1)).take (i+3-(i+1))=[d,e]:=by rw[hdr1,hdr2,show i+3-(i+1)=2 by omega];rfl
   clear hdr hdr1 hdr2 hcc;replace hb2:=hid hb2;have kk1:=@hid _ @Qv;have kk2:=@hid _ @Up;have kk3:=@hid _ @Uq;refine wk ?_;refine Ze ?_;rcases hx:N1 d e with _|x;rw[show LR d e=.tup [.str [],.bool false]by simp only[LR,hx]];have h':=h.out;rw[<- hb2.out,hx]at h';simp only[WJ]at h';replace h':=hid h';clear hx;refine sk ?_;refine wk ?_;exact ae rfl h'.out;rw[show LR d e=.tup [.str [x],.bool true]by simp only[LR,hx]];have hb3:=hb2.out;rw[hx]at hb3;simp only at hb3;replace hb3:=hid hb3;have q1:[x].getD 0 0=x:=rfl;clear hx hb2;refine sk ?_;refine wk ?_;rw[show u8s b++[AV.int IntKind.u8 (x.toNat:Int)]=u8s (b++[x])by simp[u8s]];exact ah _ _ _ (by omega) (CutL (b:=by simp)) ⟨i+1+2,m+1,b++[x],false,false,rfl,h2,by omega,hid ⟨by simp[hI.out.1],hb3.out,by simp,by simp⟩,rfl,rfl⟩;have f3:(s.length:Int)<(i:Int)+1+2:=(by omega);have hnil:s.drop (i+1+1)=[]:=aiN (by omega);rw[hnil]at hb2;simp only[mC,It hsp]at hb2;have h':=h.out;rw[<- hb2]at h';replace h':=hid h';clear hdr hdr1 hb2 hcc;have kk1:=@hid _ @Qv;have kk2:=@hid _ @Up;have kk3:=@hid _ @Uq;refine wk ?_;exact ae rfl h'.out;have f1:¬(i:Int)+1<(s.length:Int):=(by omega);have f0:(i:Int)+1=(s.length:Int):=(by omega);have f3:(s.length:Int)<(s.length:Int)+2:=(by omega);have f4:¬(s.length:Int)<(s.length:Int):=(by omega);have g5:IntKind.i64.wrap (s.length:Int)=(s.length:Int):=ac (by omega) (by omega);have g6:IntKind.i64.wrap ((s.length:Int)+2)=(s.length:Int)+2:=ac (by omega) (by omega);have hnil:s.drop (i+1)=[]:=aiN (by omega);rw[hnil]at hb2;simp only[mC,Iu]at hb2;have h':=h.out;rw[<- hb2]at h';replace h':=hid h';clear hdr hb2 hcc;have kk1:=@hid _ @Qv;have kk2:=@hid _ @Up;have kk3:=@hid _ @Uq;refine wk ?_;exact ae rfl h'.out
   .have k3:¬(c.toNat:Int)=92:=λe=>h92 ((bp c 92).1 e)
    obtain⟨p1,hp1⟩:=ag2 (([34,59,60,62]:List UInt8).contains c);obtain⟨p2,hp2⟩:=ag2 (([32,35]:List UInt8).contains c);have hq1:p1=true↔c∈([34,59,60,62]:List UInt8):=(by rw[<- hp1,ah1]);have hq2:p2=true↔(c=32\/c=35):=(by rw[<- hp2,ah1];simp);replace hq1:=hid hq1;replace hq2:=hid hq2;have h0:=hid (bp c 0);have h32:=hid (bp c 32);have hfb:=hid hI.out.2.2.2;obtain⟨lst,hlst⟩:∃lst:Bool,decide (i+1<s.length->s.getD (i+1) 0=44\/s.getD (i+1) 0=43)=lst:=⟨_,rfl⟩;have hbad:=hid λ(e:c=0\/c∈([34,59,60,62]:List UInt8)\/(b=[]/\(c=32\/c=35)))=>(show R=none by rw[<- hb2,aaH hcc h92 e])
    have hend:=hid λ(e:lst=true/\c=32)=>(show R=none by by_cases eb:c=0\/c∈([34,59,60,62]:List UInt8)\/(b=[]/\(c=32\/c=35));exact hbad.out eb;rw[<- hb2,QO hcc h92 eb,e.2];have el:=of_decide_eq_true (hlst.trans e.1);simp only[decide_true];by_cases h1:i+1<s.length;rw[mz h1,WI (el h1)];rw[aiN (by omega),YS])
    have hgo:=hid λ(e:¬(c=0\/c∈([34,59,60,62]:List UInt8)\/(b=[]/\(c=32\/c=35))))=>(show mC (b++[c]) (decide (c=32)) (s.drop (i+1))=R by rw[<- hb2,QO hcc h92 e])
    replace hlst:=hid hlst;clear hdr hb2 hcc;have bad:R=none->Fin L (.tup [.str [],.int .i64 0,.bool false]) (L++[.spare m 1]) K:=λe=>ae rfl (by have h':=h.out;rwa[e]at h')
    replace bad:=hid bad;by_cases h1:i+1<s.length
    .have f1:(i:Int)+1<(s.length:Int):=(by omega);have f0:¬(i:Int)+1=(s.length:Int):=(by omega);have t1:((i:Int)+1).toNat=i+1:=(by omega);obtain⟨d,hd⟩:=ag2 (s.getD (i+1) 0);have hlst2:=hid (show lst=true↔((d.toNat:Int)=44\/(d.toNat:Int)=43)by rw[<- hlst.out,decide_eq_true_eq,hd,show(44:Int)=((44:UInt8).toNat:Int)from rfl,show(43:Int)=((43:UInt8).toNat:Int)from rfl,bp,bp];exact⟨λe=>e h1,λe _=>e⟩)
     repeat' first
      |refine br ?_
      | (first|refine bh (by kernel_rfl) ?_|refine aH (by kernel_rfl) ?_|refine aK ?_|refine cO ?_|refine bB (fun _=>?_)|refine aB ?_|refine bm ?_|refine mV (by simp) ?_|refine bb (mV (by simp) ⟨rfl,rfl⟩) (mV (by simp) ⟨rfl,rfl⟩) ?_|refine aC (mV (by simp) ⟨rfl,rfl⟩) ?_)
        refine sm ?_
      | (first|refine a8 (by kernel_rfl) ?_|refine bc ?_|refine aJ ?_|refine bj ?_|refine bG (aA ?_))
        refine sl ?_
      |exact bC
      |first|apply bD|apply be|apply bE|apply bf|apply bF|apply bg
      |refine aN ?_
      |refine aI ?_
      |first|refine aL rfl ?_|refine aM rfl ?_|refine aw rfl ?_ ?_|refine aQ rfl (λ_=>?_) (λ_=>?_)|refine aP rfl (λ_=>?_) (λ_=>?_)
      |((first|refine au (λ_=>?_) (λ_=>?_)|refine az (λ_=>?_) (λ_=>?_))<;>try refine sm ?_)
      |refine And.intro trivial ?_
      |refine And.intro (by omega) ?_
      |refine aU rfl (λ_=>?_) (λ_=>?_)
      |refine And.intro ?_ ?_
     rename_i hx;refine bad.out ?_;simp only[ahO,ahe,decide_eq_true_eq]at hx;rcases hx with((e|e)|⟨e,e'⟩)|e;exact hbad.out (.inl (h0.out.1 e));exact hbad.out (.inr (.inl (hq1.out.1 e)));exact hbad.out (.inr (.inr ⟨hfb.out.1 e,hq2.out.1 e'⟩));exact hend.out ⟨hlst2.out.2 e.1,h32.out.1 e.2⟩;rename_i hx;rw[<- aiI]at hx;simp only[ahO,ahe,decide_eq_true_eq]at hx;rw[show u8s b++[AV.int IntKind.u8 (c.toNat:Int)]=u8s (b++[c])by simp[u8s]];refine ah _ _ _ (by omega) (CutL (b:=by simp)) ⟨i+1,m+1,b++[c],decide (c=32),false,rfl,hlt,by omega,hid ⟨by simp[hI.out.1],?_,λe=>?_,by simp⟩,rfl,rfl⟩;refine hgo.out λe=>hx ?_
     rcases e with e|e|⟨e,e'⟩;exact .inl (.inl (.inl (h0.out.2 e)));exact .inl (.inl (.inr (hq1.out.2 e)));exact .inl (.inr ⟨hfb.out.2 e,hq2.out.2 e'⟩);have e32:=h32.out.2 (of_decide_eq_true e);refine⟨h1,?_,?_⟩;intro e4;exact hx (.inr ⟨.inl (by rw[<- hd,e4];rfl),e32⟩);intro e4;exact hx (.inr ⟨.inr (by rw[<- hd,e4];rfl),e32⟩)
    .have f1:¬(i:Int)+1<(s.length:Int):=(by omega);have f0:(i:Int)+1=(s.length:Int):=(by omega);have g5:IntKind.i64.wrap (s.length:Int)=(s.length:Int):=ac (by omega) (by omega);have hlst2:=hid (show lst=true by rw[<- hlst.out,decide_eq_true_eq];exact λe=>absurd e h1)
     repeat' first
      |refine br ?_
      | (first|refine bh (by kernel_rfl) ?_|refine aH (by kernel_rfl) ?_|refine aK ?_|refine cO ?_|refine bB (fun _=>?_)|refine aB ?_|refine bm ?_|refine mV (by simp) ?_|refine bb (mV (by simp) ⟨rfl,rfl⟩) (mV (by simp) ⟨rfl,rfl⟩) ?_|refine aC (mV (by simp) ⟨rfl,rfl⟩) ?_)
        refine sm ?_
      | (first|refine a8 (by kernel_rfl) ?_|refine bc ?_|refine aJ ?_|refine bj ?_|refine bG (aA ?_))
        refine sl ?_
      |exact bC
      |first|apply bD|apply be|apply bE|apply bf|apply bF|apply bg
      |refine aN ?_
      |refine aI ?_
      |first|refine aL rfl ?_|refine aM rfl ?_|refine aw rfl ?_ ?_|refine aQ rfl (λ_=>?_) (λ_=>?_)|refine aP rfl (λ_=>?_) (λ_=>?_)
      |((first|refine au (λ_=>?_) (λ_=>?_)|refine az (λ_=>?_) (λ_=>?_))<;>try refine sm ?_)
      |refine And.intro trivial ?_
      |refine And.intro (by omega) ?_
      |refine aU rfl (λ_=>?_) (λ_=>?_)
      |refine And.intro ?_ ?_
     rename_i hx;refine bad.out ?_;simp only[ahO,ahe,decide_eq_true_eq]at hx;rcases hx with((e|e)|⟨e,e'⟩)|e;exact hbad.out (.inl (h0.out.1 e));exact hbad.out (.inr (.inl (hq1.out.1 e)));exact hbad.out (.inr (.inr ⟨hfb.out.1 e,hq2.out.1 e'⟩));exact hend.out ⟨hlst2.out,h32.out.1 e⟩;rename_i hx;rw[<- aiI]at hx;simp only[ahO,ahe,decide_eq_true_eq]at hx;rw[show u8s b++[AV.int IntKind.u8 (c.toNat:Int)]=u8s (b++[c])by simp[u8s]];refine ah _ _ _ (by omega) (CutL (b:=by simp)) ⟨i+1,m+1,b++[c],decide (c=32),false,rfl,hlt,by omega,hid ⟨by simp[hI.out.1],?_,λe=>?_,by simp⟩,rfl,rfl⟩;refine hgo.out λe=>hx ?_
     rcases e with e|e|⟨e,e'⟩;exact .inl (.inl (.inl (h0.out.2 e)));exact .inl (.inl (.inr (hq1.out.2 e)));exact .inl (.inr ⟨hfb.out.2 e,hq2.out.2 e'⟩);have e32:=h32.out.2 (of_decide_eq_true e);exact absurd (.inr e32) hx
 have hke:i=s.length:=by omega
 subst hke;have g1:¬(s.length:Int)<(s.length:Int):=by omega
 have hbl:bl=false:=by
  cases bl with
  |false=>rfl
  |true=>exact absurd (hI.out.2.2.1 rfl).1 (by omega)
 subst hbl;have h':=h.out;rw[<- hI.out.2.1,ahU,aaG]at h';simp only[WJ,ahX,Nat.sub_zero]at h';replace h':=hid h';refine wk ?_;exact ae rfl h'.out
theorem aaI:∀(n:Nat){s b:List UInt8}{bl:Bool}{v r:List UInt8}{ok:Bool},s.length<=n->fF b bl s=some (v,r,ok)->r <:+ s:=by
 intro n;induction n with
 | zero =>
   intro s b bl v r ok hn h;obtain rfl:=ahH.1 (Nat.le_zero.1 hn);rw[mU]at h;cases h;exact List.suffix_refl _
 | succ n ih =>
   intro s b bl v r ok hn h;cases s with
   |nil=>rw[mU]at h;cases h;exact List.suffix_refl _
   | cons c s =>
     simp only[ahj]at hn;by_cases hc:c=44\/c=43
     .rw[pL hc]at h;cases h;exact List.suffix_refl _
     by_cases h92:c=92
     .subst h92;cases s with
      |nil=>rw[Iu]at h;cases h
      | cons d s =>
        by_cases hd:d∈pT
        .rw[rV hd]at h;exact(ih (by simp at hn;omega) h).trans ((ajr _ _).trans (ajr _ _))
        .cases s with
         |nil=>rw[It hd]at h;cases h
         | cons e s =>
           rw[DV hd]at h;split at h
           .cases h
           .exact(ih (by simp at hn;omega) h).trans ((ajr _ _).trans ((ajr _ _).trans (ajr _ _)))
     .rw[mD hc h92]at h;split at h
      .cases h
      .exact(ih (by omega) h).trans (ajr _ _)
theorem YR{v r:List UInt8}(h:mC [] false s=some (v,r)):fF [] false s=some (v,r,true):=by unfold mC at h;split at h;rename_i e;cases h;exact e;cases h
theorem Tn(f:Nat)(out:List Rdn)(now:Rdn)(s:List UInt8):qB (f+1) out now s=if out.length=32\/now.length=8 then([],9)else match kX s with
  |none=>([],4)
  | some (typ,rest)=>if eT typ=false then ([],4) else if lu now typ=true then ([],21) else match mC [] false rest with
    |none=>([],4)
    | some (v,r2)=>match r2 with
      |[]=>(out++[now++[(typ,v)]],0)
      |c::s'=>if c=44 then qB f (out++[now++[(typ,v)]]) [] s' else qB f out (now++[(typ,v)]) s':=by
 rw[qB];congr 1;rcases kX s with _|⟨typ,rest⟩;rfl;simp only;congr 1;congr 1;unfold mC;rcases fF [] false rest with _|⟨v,r2,ok⟩;rfl;cases ok<;>rfl
theorem aab{j:Nat}(hij:i<=j)(hj:j<s.length)(hc:s.getD j 0≠61)(h:kX (s.drop i)=(kX (s.drop j)).map λp=>((s.drop i).take (j-i)++p.1,p.2)):
  kX (s.drop i)=(kX (s.drop (j+1))).map λp=>((s.drop i).take (j+1-i)++p.1,p.2):=by
 rw[h,mz hj];simp only[kX,if_neg hc];have ht:(s.drop i).take (j+1-i)=(s.drop i).take (j-i)++[s.getD j 0]:=by rw[show j+1-i=(j-i)+1 by omega,ahw (by simp;omega)];congr 2;simp[show i+(j-i)=j by omega,hj]
 rw[ht];rcases kX (s.drop (j+1))with _|⟨a,b⟩;rfl;simp
theorem adU(hr:r.length=n)(hn:n<=8)(h1:∀a∈r,a.1.length<=32)(h2:typ.length<=4096)(h:K (.bool (lu r typ)) L):
  ag6 165 [.gsl (aG r) n i 2,.str typ] L K:=by
 subst hr;exact iU (by simpa only[AV.frzL,AV.frz,iS]using aa9 (cap:=none) (by omega) (λa ha=>by have:=h1 a ha;omega) (by omega) h)
theorem Zd{z:Int}{at0:Nat}(hz:z=(at0:Int))(hs:s.length<=100000)(hat:at0<=s.length)(h:K (WJ s.length (mC [] false (s.drop at0))) L):ag6 166 [.str s,.int .i64 z] L K:=by subst hz;exact aa0 hs hat h
theorem aa3(h:K (W2 (vb s)) L):ag6 131 [.str s] L K:=by
 refine ad O4 (by simp[rI]) ?_;simp only[rI,am];by_cases h1:4096<s.length;have f1:(4096:Int)<(s.length:Int):=by omega
 rw[vb,if_pos h1]at h;replace h:=hid h;clear h1;refine wk ?_;exact ba (aa h.out);have f1:¬(4096:Int)<(s.length:Int):=by omega
 rw[vb,if_neg h1]at h;have hs:=hid (show s.length<=4096 by omega);clear h1;obtain⟨R,hR⟩:=ag2 ((if s=[]then([],0)else qB (s.length+1) [] [] s));rw[hR]at h;replace h:=hid h;replace hR:=hid hR;refine wk ?_;refine bX (l:=[]) (n:=0) 4 1 rfl (ahD 1).symm ?_;refine ak (λn T' L'=>∃(f m i:Nat) (out:List Rdn) (X:List Blk),f=n/\i<=s.length/\m<=32/\Hid (s≠[]->s.length-i<f/\qB f out [] (s.drop i)=R)/\Hid (s=[]->out=[])/\Hid (m=out.length)/\L'[L.length]?=some (.spare m 1)/\T'=[(5,.int .i64 (i:Int)),(4,.gsl (out.map cq) m L.length 1),(0,.str s)]/\L'=L++X) (CutS (b:=by simp)) ⟨s.length+1,0,0,[],[.spare 0 1],rfl,ahf _,by omega,hid (λe=>⟨by omega,by have:=hR.out;rw[if_neg e]at this;simpa using this⟩),hid (λ_=>rfl),hid rfl,by simp,rfl,rfl⟩ ?_;rintro _ _ _ ⟨f,m,i,out,X,rfl,hi,hm32,hI,hI0,hm,ho,rfl,rfl⟩;by_cases h0:s=[];have h':=h.out;rw[<- hR.out,if_pos h0]at h';replace h':=hid h';have f2:¬(0:Int)<(s.length:Int):=by rw[h0];simp
 clear h0;refine wk ?_;exact ba (ae rfl h'.out);obtain⟨hf,hp⟩:=hI.out h0;have f2:(0:Int)<(s.length:Int):=by have:=ain.2 h0;omega
 clear hI hI0 hR h0;have hB:L.length<(L++X).length:=(ag8.1 ho).1;by_cases hlim:m=32;obtain⟨f,rfl⟩:∃g,f=g+1:=⟨f-1,by omega⟩;rw[Tn,if_pos (.inl (by rw[<- hm.out];exact hlim))]at hp;have h':=h.out;rw[<- hp]at h';replace h':=hid h';have k:(m:Int)=32:=by omega
 clear hp hlim hf;refine wk ?_;exact fV h'.out;have k1:¬(m:Int)=32:=by omega
 replace hp:=hid hp;refine wk ?_;refine ak (λn T' L'=>∃(g i:Nat) (now:Rdn) (v:AV) (Z:List Blk),g=n/\g<=f/\i<=s.length/\now.length<=8/\Hid (s.length-i<g/\qB g out now (s.drop i)=R/\(∀a∈now,a.1.length<=32)/\af4 L.length now v L')/\L'[L.length]?=some (.spare m 1)/\X.length<=Z.length/\T'=[(6,v),(5,.int .i64 (i:Int)),(4,.gsl (out.map cq) m L.length 1),(0,.str s)]/\L'=L++Z) (CutS (b:=by simp)) ⟨f,i,[],_,X,rfl,ag9 _,hi,by simp,hid ⟨hf,hp.out,by simp,.inl ⟨rfl,rfl,rfl⟩⟩,ho,ag9 _,rfl,rfl⟩ ?_;clear hp hf ho hi;rintro _ _ _ ⟨g,i,now,v,X1,rfl,hgf,hi,hn8,hI,ho,hXZ,rfl,rfl⟩;obtain⟨hf,hp,ht,hv⟩:=hI.out;clear hI;obtain⟨g,rfl⟩:∃g',g=g'+1:=⟨g-1,by omega⟩;have hB1:L.length<(L++X1).length:=(ag8.1 ho).1;refine Va 6 2 L.length rfl hB1 hv λp Y hBi hpi=>?_
 rw[aho]at hpi⊢;have ho2:(L++(X1++Y))[L.length]?=some (.spare m 1):=by rw[<- aho,ahi hB1];exact ho
 have hXZ2:X.length<=(X1++Y).length:=by simp;omega
 generalize X1++Y=Z at hpi ho2 hXZ2⊢;clear ho hB1 hv hXZ X1 Y;replace hXZ2:=hid hXZ2;have hpl:=(ag8.1 hpi).1;have hol:=(ag8.1 ho2).1;have hz:p-L.length≠0:=by omega
 obtain⟨c,hc⟩:∃c:Nat,now.length=c:=⟨_,rfl⟩;rw[Tn]at hp;rw[hc]at hp hpi hn8⊢;rw[ahq]at hpl hol;replace hz:=hid hz;replace hpl:=hid hpl;replace hol:=hid hol;by_cases hlim2:c=8;rw[if_pos (.inr hlim2)]at hp;have h':=h.out;rw[<- hp]at h';replace h':=hid h';have k:(c:Int)=8:=by omega
 clear hp hlim2;refine wk ?_;exact fV h'.out;rw[if_neg (by rw[<- hm.out];omega)]at hp;have k2:¬(c:Int)=8:=by omega
 replace hp:=hid hp;replace ht:=hid ht;replace hf:=hid hf;refine wk ?_;refine ak (λn T' L'=>∃j:Nat,n=s.length-j/\i<=j/\j<=s.length/\Hid (kX (s.drop i)=(kX (s.drop j)).map λp=>((s.drop i).take (j-i)++p.1,p.2))/\T'=[(7,.int .i64 (j:Int)),(6,.gsl (aG now) c p 2),(5,.int .i64 (i:Int)),(4,.gsl (out.map cq) m L.length 1),(0,.str s)]/\L'=L++Z) (CutS (b:=by simp)) ⟨i,rfl,ag9 _,hi,hid (by rcases kX (s.drop i)with _|⟨a,b⟩<;>simp),rfl,rfl⟩ ?_;rintro _ _ _ ⟨j,rfl,hij,hj,hcut,rfl,rfl⟩;by_cases hjl:j<s.length;rotate_left;have hje:j=s.length:=by omega
 subst hje;have g1:¬(s.length:Int)<(s.length:Int):=by omega
 have e:=hcut.out;rw[ahU]at e;simp only[kX,ahF]at e;have h':=h.out;rw[<- hp.out,e]at h';simp only at h';replace h':=hid h';clear e;refine wk ?_;exact fV h'.out;have g1:(j:Int)<(s.length:Int):=by omega
 have g2:=ag4 j (by omega);obtain⟨x,hx⟩:=ag2 (s.getD j 0);by_cases h61:x=61;rotate_left;have g3:¬(x.toNat:Int)=61:=λe=>h61 ((bp x 61).1 e)
 have hcut':=hid (aab hij hjl (by rw[hx];exact h61) hcut.out);clear h61;refine wk ?_;exact ah _ _ _ (by omega) (CutL (b:=by simp)) ⟨j+1,rfl,by omega,hjl,hcut',rfl,rfl⟩;subst h61;have g3:((61:UInt8).toNat:Int)=61:=rfl;have hcutS:kX (s.drop i)=some ((s.drop i).take (j-i),s.drop (j+1)):=by rw[hcut.out,mz hjl,hx];simp[kX]
 clear hcut;obtain⟨typ,htyp⟩:=ag2 ((s.drop i).take (j-i));have htl:typ.length<=4096:=by rw[<- htyp];have:=hs.out;simp;omega
 have htl3:(typ.length:Int)<=100000:=by omega
 rw[htyp]at hcutS;have hp2:=hp.out;rw[hcutS]at hp2;simp only at hp2;have g4:¬(j:Int)=(s.length:Int):=by omega
 have g5:(i:Int)<=(j:Int):=by omega
 have g6:(j:Int)<=(s.length:Int):=by omega
 replace hp2:=hid hp2;clear hcutS hp;cases hty:eT typ with
 | false =>
   have h':=h.out;rw[<- hp2.out,if_pos hty]at h';replace h':=hid h';have kk1:=@hid _ (λL K=>qD htl3 (L:=L) (K:=K));refine wk ?_;exact fV h'.out
 |true =>
 have hp3:=hp2.out;rw[if_neg (by rw[hty];simp)]at hp3;replace hp3:=hid hp3;clear hp2;have hpn:=hid (show p≠L.length+Z.length by have:=hpl.out;omega);have b1:∀b,(L++(Z++[b]))[p]?=some (.spare c 2):=λb=>by rw[<- aho,ahi (ag8.1 hpi).1];exact hpi
 have b2:∀A b,(L++(Z++[b])).set p A=L++(Z.set (p-L.length) A++[b]):=λA b=>by rw[ahT _ _ (by omega),ahY _ _ (by have:=hpl.out;omega)]
 have b3:∀A b,(L++(Z.set (p-L.length) A++[b]))[L.length]?=some (.spare m 1):=λA b=>by rw[<- b2,ahx (by omega),<- aho,ahi (ag8.1 ho2).1];exact ho2
 have b4:∀A b,(L++(Z.set (p-L.length) A++[b]))[p]?=some A:=λA b=>by rw[<- b2,ahv,if_pos rfl,if_pos (by have:=hpl.out;simp;omega)]
 have hsl:(i:Int).toNat=i:=by omega
 have kk1:=@hid _ (λL K=>qD htl3 (L:=L) (K:=K));refine wk ?_;refine adU hc hn8 ht.out (by omega) ?_;cases hha:lu now typ with
 | true =>
   have h':=h.out;rw[<- hp3.out,if_pos hha]at h';replace h':=hid h';refine sk ?_;refine wk ?_;exact fV h'.out
 |false =>
 have hp4:=hp3.out;rw[if_neg (by rw[hha];simp)]at hp4;replace hp4:=hid hp4;clear hp3;refine sk ?_;refine wk ?_;refine Zd (at0:=j+1) (by omega) (by have:=hs.out;omega) hjl ?_;rcases hvl:mC [] false (s.drop (j+1))with _|⟨w,r2⟩;have h':=h.out;rw[<- hp4.out,hvl]at h';simp only at h';replace h':=hid h';simp only[WJ];refine sk ?_;refine wk ?_;exact fV h'.out;have hp5:=hp4.out;rw[hvl]at hp5;simp only at hp5;have hsuf:=aaI _ (ag9 _) (YR hvl);have hsd:r2=s.drop (s.length-r2.length):=List.suffix_iff_eq_drop.1 (hsuf.trans (List.drop_suffix _ _));have hl2:r2.length<=s.length-(j+1):=by have:=hsuf.length_le;simpa using this
 obtain⟨t,ht0⟩:=ag2 (s.length-r2.length);rw[ht0]at hsd;have htj:j<t:=by omega
 have hts:t<=s.length:=by omega
 simp only[WJ,ht0];replace hp5:=hid hp5;clear hp4 hvl hsuf;replace hsd:=hid hsd;have q1:(c+1)*32<=140737488355328:=by omega
 have q2:c+1<=140737488355328:=by omega
 have q3:(m+1)*24<=140737488355328:=by omega
 have q4:m+1<=140737488355328:=by omega
 have e1:aG now++[AV.str typ,AV.str w]=aG (now++[(typ,w)]):=(Ue _ _ _).symm;have e2:out.map cq++[AV.sl (AV.frzL (aG now++[AV.str typ,AV.str w])) (c+1) none]=(out++[now++[(typ,w)]]).map cq:=by rw[e1,iS,ahE];simp[hc]
 have e3:(out++[now++[(typ,w)]]).length=m+1:=by simp[hm.out]
 have e4:(now++[(typ,w)]).length=c+1:=by simp[hc]
 have e5:∀a∈now++[(typ,w)],a.1.length<=32:=λa ha=>by rcases ahb.1 ha with h|h;exact ht.out a h;rw[ahs.1 h];exact rW hty
 have s4:∀(W:List Blk) A,(L++W).set L.length A=L++W.set 0 A:=λW A=>by rw[ahT _ _ (ag9 _),aiv]
 have g7:IntKind.i64.wrap ((t:Int)+1)=(t:Int)+1:=ac (by have:=hs.out;omega) (by have:=hs.out;omega);replace e1:=hid e1;replace e2:=hid e2;replace e3:=hid e3;replace e4:=hid e4;replace e5:=hid e5;cases r2 with
 | nil =>
   have h':=h.out;rw[<- hp5.out]at h';simp only at h';replace h':=hid h';have hte:t=s.length:=(by simp at ht0;omega);subst hte;refine sk ?_;refine wk ?_;rw[e2.out];refine ba (ae ?_ ?_)
   .simp only[AV.frz,AV.frzL,sc,AV.refs,AV.refsL,Iz,ah7]
   .simp only[AV.frz,AV.frzL,sc];have:=h'.out;simp only[W2,e3.out]at this;exact this
 | cons x s' =>
   simp only at hp5;have htl2:t<s.length:=(by simp at ht0 hl2;omega);have k3:¬(t:Int)=(s.length:Int):=(by omega);have k4:(t:Int)<(s.length:Int):=(by omega);have hxd:=hsd.out;rw[mz htl2]at hxd;obtain⟨hx1,hx2⟩:=List.cons.inj hxd;have hx3:=hx1.symm;replace hx2:=hid hx2;clear hxd hx1;by_cases hx:x=44
   .subst hx;refine sk ?_;refine wk ?_;rw[e2.out];refine ah _ _ _ ?_ (CutS (b:=?_)) ⟨g,m+1,t+1,out++[now++[(typ,w)]],_,rfl,htl2,?_,hid λ_=>⟨?_,?_⟩,hid λe=>?_,hid e3.out.symm,?_,rfl,rfl⟩
    .omega
    .simp
    .have:=hm.out;omega
    .have:=hf.out;omega
    .rw[<- hx2.out,<- hp5.out,if_pos rfl]
    .rw[e]at htl2;simp at htl2
    .rw[<- s4,ahv,if_pos rfl,if_pos (by simp)]
   .have q6:¬(x.toNat:Int)=44:=λe=>hx ((bp x 44).1 e)
    refine sk ?_;refine wk ?_;rw[e1.out];refine ah _ _ _ ?_ (CutS (b:=?_)) ⟨g,t+1,now++[(typ,w)],_,_,rfl,?_,htl2,?_,hid ⟨?_,?_,e5.out,.inr ⟨p,hBi,by rw[e4.out],by rw[e4.out];exact b4 _ _⟩⟩,b3 _ _,?_,rfl,rfl⟩
    .omega
    .have:=hXZ2.out;simp;omega
    .omega
    .rw[e4.out];omega
    .have:=hf.out;omega
    .rw[<- hx2.out,<- hp5.out,if_neg hx]
    .have:=hXZ2.out;simp;omega
theorem OF(sep x:List UInt8):∀xs:List (List UInt8),Lib.join (xs++[x]) sep=if xs=[]then x else Lib.join xs sep++sep++x
 |[]=>by simp[Lib.join,List.intercalate]
 |[y]=>by simp[Lib.join,List.intercalate]
 |y::z::l=>by have ih:=OF sep x (z::l);rw[if_neg (by simp)]at ih⊢;have e1:Lib.join (y::z::l++[x]) sep=y++(sep++Lib.join (z::l++[x]) sep):=(by simp[Lib.join,List.intercalate]);have e2:Lib.join (y::z::l) sep=y++(sep++Lib.join (z::l) sep):=(by simp[Lib.join,List.intercalate]);rw[e1,ih,e2];simp
theorem Uo(hn:d.length<=1000)(hr:∀r∈d,r.length<=1000/\∀a∈r,a.1.length<=10000/\a.2.length<=10000)(h:K (.str (dY false d)) L):
  ag6 168 [.sl (d.map cq) d.length cap] L K:=by
 replace h:=hid h;have hat:=hid (λk=>@LG d k);replace hr:=hid hr;refine ag5 Qi ?_;refine ak (λn T' L'=>∃(i:Nat) (acc:List UInt8) (Z:List Blk),n=d.length-i/\i<=d.length/\acc.length<=i*50000000/\Hid (acc=Lib.join ((d.take i).map (dp false)) [44])/\T'=[(10,.int .i64 (i:Int)),(9,.int .i64 d.length),(8,.sl (d.map cq) d.length cap),(3,.str acc)]/\L'=L++Z) (CutS (b:=by simp)) ⟨0,[],[],rfl,ahf _,by simp,hid (by simp[Lib.join]),rfl,by simp⟩ ?_;rintro _ _ _ ⟨i,acc,X,rfl,hi,hal,hacc,rfl,rfl⟩;by_cases hlt:i<d.length
 .have g1:(i:Int)<(d.length:Int):=(by omega);have g2:=ag4 i (by omega);have e2:=hat.out i hlt;have hrm:d.getD i []∈d:=(by rw[ahz,ahn hlt];exact ah9 _);have hrl:=hr.out _ hrm;obtain⟨r,hri⟩:=ag2 (d.getD i []);have htk:d.take (i+1)=d.take i++[r]:=(by rw[ahw hlt,<- hri];simp[hlt]);rw[hri]at e2 hrl;clear hri hrm;obtain⟨hrl1,hrl2⟩:=hrl;replace hrl2:=hid hrl2;obtain⟨B,hB⟩:=ag2 ((if 0<i then acc++[44]else acc));have hBl:B.length<=i*50000000+1:=by rw[<- hB];split;exact ahy (Nat.le_of_eq (by simp)) (Nat.add_le_add_right hal 1);exact ahy hal (aj4 _ _)
  have hfin:B++dp false r=Lib.join ((d.take (i+1)).map (dp false)) [44]:=by rw[htk,ahE,List.map_singleton,OF,<- hacc.out,<- hB];by_cases h0:0<i;rw[if_pos h0,if_neg];intro e;rcases List.take_eq_nil_iff.1 (ake.1 e)with e|e;omega;rw[e]at hlt;simp at hlt;have:i=0:=(by omega);subst this;simp at hal;simp[hal]
  replace hfin:=hid hfin;replace hB:=hid hB;replace htk:=hid htk;have hb0:(i:Int)<=1000:=(by omega);have hab:((acc.length+1:Nat):Int)<=9223372036854775807:=by omega
  iterate 12 first
   |refine br ?_
   | (first|refine bh (by kernel_rfl) ?_|refine aH (by kernel_rfl) ?_|refine aK ?_|refine cO ?_|refine bB (fun _=>?_)|refine aB ?_|refine bm ?_)
     simp(config:={maxSteps:=2000000}) only[Kon,push_cast,reduceIte,Nat.reduceEqDiff,Nat.reduceAdd,Nat.reduceMul,Nat.reduceSub,Nat.reduceLT,Nat.reduceLeDiff,Int.reduceLT,Int.reduceLE,Int.reduceAdd,Int.reduceSub,Int.reduceNeg,Int.reduceToNat,Int.reduceEq,reduceCtorEq, *]
   | (first|refine a8 (by kernel_rfl) ?_|refine bc ?_|refine aJ ?_|refine bj ?_|refine bG (aA ?_))
     simp only[push_cast,reduceIte,Nat.reduceEqDiff,Nat.reduceAdd,Nat.reduceMul,Nat.reduceSub,Nat.reduceLT,Nat.reduceLeDiff,Int.reduceLT,Int.reduceLE,Int.reduceAdd,Int.reduceSub,Int.reduceNeg,Int.reduceToNat,Int.reduceEq,reduceCtorEq, *]
   |exact bC
   |first|apply bD|apply be|apply bE|apply bf|apply bF|apply bg
   |refine aN ?_
   |refine aI ?_
   |first|refine aL rfl ?_|refine aM rfl ?_|refine aw rfl ?_ ?_|refine aQ rfl (λ_=>?_) (λ_=>?_)|refine aP rfl (λ_=>?_) (λ_=>?_)
   |((first|refine au (λ_=>?_) (λ_=>?_)|refine az (λ_=>?_) (λ_=>?_))<;>try simp(config:={maxSteps:=2000000}) only[Kon,push_cast,reduceIte,Nat.reduceEqDiff,Nat.reduceAdd,Nat.reduceMul,Nat.reduceSub,Nat.reduceLT,Nat.reduceLeDiff,Int.reduceLT,Int.reduceLE,Int.reduceAdd,Int.reduceSub,Int.reduceNeg,Int.reduceToNat,Int.reduceEq,reduceCtorEq, *])
   |refine And.intro trivial ?_
   |refine And.intro (by omega) ?_
   |refine aU rfl (λ_=>?_) (λ_=>?_)
   |refine And.intro ?_ ?_
  refine QI (λT2 L2=>T2=[(3,.str B),(5,cq r),(10,.int .i64 (i:Int)),(9,.int .i64 d.length),(8,.sl (d.map cq) d.length cap)]/\L2=L++X) ?_ ?_;by_cases h0:0<i;have k0:(0:Int)<(i:Int):=(by omega);have hB':=hB.out;rw[if_pos h0]at hB';subst hB';clear h0;refine wk ?_;exact rS _ _ (CutL (b:=by simp)) ⟨rfl,rfl⟩;have k0:¬(0:Int)<(i:Int):=(by omega);have hB':=hB.out;rw[if_neg h0]at hB';subst hB';clear h0;refine wk ?_;exact rS _ _ (CutL (b:=by simp)) ⟨rfl,rfl⟩;rintro _ _ ⟨rfl,rfl⟩ -;refine wk ?_;refine ak (λn T' L'=>∃(k:Nat) (acc2:List UInt8) (Z:List Blk),n=r.length-k/\k<=r.length/\acc2.length<=i*50000000+1+k*40002/\X.length<=Z.length/\Hid (acc2=B++Lib.join ((r.take k).map (avT false)) [43])/\T'=[(21,.int .i64 (k:Int)),(20,.int .i64 r.length),(19,cq r),(10,.int .i64 (i:Int)),(9,.int .i64 d.length),(8,.sl (d.map cq) d.length cap),(3,.str acc2)]/\L'=L++Z) (CutS (b:=by simp)) ⟨0,B,X,rfl,ahf _,by omega,ag9 _,hid (by simp[Lib.join]),rfl,rfl⟩ ?_;rintro _ _ _ ⟨k,acc2,Z,rfl,hk,hal2,hXZ,hacc2,rfl,rfl⟩;replace hXZ:=hid hXZ;by_cases hkl:k<r.length
  .have g3:(k:Int)<(r.length:Int):=(by omega);have g4:=ag4 k (by omega);have e3:=fQ hkl;have e4:k*2+2<=(aG r).length:=(by rw[dF];omega);obtain⟨⟨ty,va⟩,ha⟩:∃a,r.getD k ([],[])=a:=⟨_,rfl⟩;have ham:(ty,va)∈r:=(by rw[<- ha];simp[hkl]);have htk2:r.take (k+1)=r.take k++[(ty,va)]:=(by rw[ahw hkl,<- ha];simp[hkl]);rw[ha]at e3;simp only[qC]at e3;have hva:=hrl2.out _ ham;simp only at hva;have hva':va.length<=100000:=(by omega);have hwl:=Mk va.length va 0;obtain⟨wv,hwv⟩:=ag2 (eu va);have hwl2:wv.length<=30000:=(by rw[<- hwv];unfold eu;omega);have hty:=hva.1;obtain⟨B2,hB2⟩:=ag2 ((if 0<k then acc2++[43]else acc2));have hB2l:B2.length<=i*50000000+1+k*40002+1:=by rw[<- hB2];split;exact ahy (Nat.le_of_eq (by simp)) (Nat.add_le_add_right hal2 1);exact ahy hal2 (aj4 _ _)
   have hnew:B2++ty++[61]++wv=B++Lib.join ((r.take (k+1)).map (avT false)) [43]:=by rw[htk2,ahE,List.map_singleton,OF,<- hB2];have e0:avT false (ty,va)=ty++[61]++wv:=(by simp[avT,hwv]);by_cases h0:0<k;rw[if_pos h0,if_neg,hacc2.out,e0];simp;intro e;rcases List.take_eq_nil_iff.1 (ake.1 e)with e|e;omega;rw[e]at hkl;simp at hkl;have:k=0:=(by omega);subst this;have:=hacc2.out;simp only[aiC,aix]at this;rw[if_neg (by omega),this,e0];simp[Lib.join]
   replace hnew:=hid hnew;have hBn:(B2++ty++[61]++wv).length=B2.length+ty.length+1+wv.length:=(by simp only[ahq,ahj,ahX]);have hBn2:(B2++ty++[61]++wv).length<=i*50000000+1+(k+1)*40002:=(by rw[hBn];omega);replace hB2:=hid hB2;clear hwl ha ham hva htk2;have hkb:k<1000:=(by omega);have b0:((acc2.length+1:Nat):Int)<=9223372036854775807:=(by omega);have b1:((B2.length+ty.length:Nat):Int)<=9223372036854775807:=(by omega);have b2:((B2.length+ty.length+1:Nat):Int)<=9223372036854775807:=(by omega);have b3:((B2.length+ty.length+1+wv.length:Nat):Int)<=9223372036854775807:=(by omega);simp only[Int.natCast_add,Int.cast_ofNat_Int]at b0 b1 b2 b3
   iterate 12 first
    |refine br ?_
    | (first|refine bh (by kernel_rfl) ?_|refine aH (by kernel_rfl) ?_|refine aK ?_|refine cO ?_|refine bB (fun _=>?_)|refine aB ?_|refine bm ?_)
      simp(config:={maxSteps:=2000000}) only[Kon,push_cast,reduceIte,Nat.reduceEqDiff,Nat.reduceAdd,Nat.reduceMul,Nat.reduceSub,Nat.reduceLT,Nat.reduceLeDiff,Int.reduceLT,Int.reduceLE,Int.reduceAdd,Int.reduceSub,Int.reduceNeg,Int.reduceToNat,Int.reduceEq,reduceCtorEq, *]
    | (first|refine a8 (by kernel_rfl) ?_|refine bc ?_|refine aJ ?_|refine bj ?_|refine bG (aA ?_))
      simp only[push_cast,reduceIte,Nat.reduceEqDiff,Nat.reduceAdd,Nat.reduceMul,Nat.reduceSub,Nat.reduceLT,Nat.reduceLeDiff,Int.reduceLT,Int.reduceLE,Int.reduceAdd,Int.reduceSub,Int.reduceNeg,Int.reduceToNat,Int.reduceEq,reduceCtorEq, *]
    |exact bC
    |first|apply bD|apply be|apply bE|apply bf|apply bF|apply bg
    |refine aN ?_
    |refine aI ?_
    |first|refine aL rfl ?_|refine aM rfl ?_|refine aw rfl ?_ ?_|refine aQ rfl (λ_=>?_) (λ_=>?_)|refine aP rfl (λ_=>?_) (λ_=>?_)
    |((first|refine au (λ_=>?_) (λ_=>?_)|refine az (λ_=>?_) (λ_=>?_))<;>try simp(config:={maxSteps:=2000000}) only[Kon,push_cast,reduceIte,Nat.reduceEqDiff,Nat.reduceAdd,Nat.reduceMul,Nat.reduceSub,Nat.reduceLT,Nat.reduceLeDiff,Int.reduceLT,Int.reduceLE,Int.reduceAdd,Int.reduceSub,Int.reduceNeg,Int.reduceToNat,Int.reduceEq,reduceCtorEq, *])
    |refine And.intro trivial ?_
    |refine And.intro (by omega) ?_
    |refine aU rfl (λ_=>?_) (λ_=>?_)
    |refine And.intro ?_ ?_
   refine QI (λT2 L2=>T2=[(3,.str B2),(7,.ptr (L.length+Z.length) 0),(21,.int .i64 (k:Int)),(20,.int .i64 r.length),(19,cq r),(10,.int .i64 (i:Int)),(9,.int .i64 d.length),(8,.sl (d.map cq) d.length cap)]/\L2=L++(Z++[.cells [.str ty,.str va]])) ?_ ?_;by_cases h0:0<k;have k0:(0:Int)<(k:Int):=(by omega);have hB':=hB2.out;rw[if_pos h0]at hB';subst hB';clear h0;refine wk ?_;exact rS _ _ (CutL (b:=by simp)) ⟨rfl,rfl⟩;have k0:¬(0:Int)<(k:Int):=(by omega);have hB':=hB2.out;rw[if_neg h0]at hB';subst hB';clear h0;refine wk ?_;exact rS _ _ (CutL (b:=by simp)) ⟨rfl,rfl⟩;rintro _ _ ⟨rfl,rfl⟩ -;have kk1:=@hid _ (λL K=>mE hva' (L:=L) (K:=K));refine wk ?_;exact ah _ _ _ (by omega) (CutL (b:=by have:=hXZ.out;simp;omega)) ⟨k+1,B2++ty++[61]++wv,_,rfl,hkl,hBn2,by have:=hXZ.out;simp;omega,hnew,rfl,rfl⟩
  have hke:k=r.length:=(by omega);subst hke;have g3:¬(r.length:Int)<(r.length:Int):=(by omega);have hfl:acc2.length<=(i+1)*50000000:=by rw[aje];clear hal hBl hab;generalize i*50000000=M at hal2⊢;omega
  have e:=hacc2.out;rw[ahr,show Lib.join (r.map (avT false)) [43]=dp false r by simp[dp],hfin.out]at e;replace e:=hid e;refine wk ?_;exact ah _ _ _ (by omega) (CutL (b:=by simp)) ⟨i+1,acc2,_,rfl,hlt,hfl,e,rfl,rfl⟩
 have hke:i=d.length:=by omega
 subst hke;have g1:¬(d.length:Int)<(d.length:Int):=by omega
 have e:=hacc.out;rw[ahr]at e;have h':=h.out;simp only[dY]at h';rw[<- e]at h';replace h':=hid h';clear hacc e;refine wk ?_;exact ae rfl h'.out
def Mt(r:Rdn):Nat:=(r.map λa=>min a.2.length 5000).sum
def P8(d:List Rdn):Nat:=(d.map Mt).sum
theorem aaE(n:Nat):∀(s:List UInt8) (i:Nat),s.length<=(wrL n i s).length
 |[],_=>by simp
 | c::s,i=>by
   have h1:=aaE n s (i+1);have h2:1<=(wrB i n c).length:=by
    unfold wrB;split
    .simp
    .split<;>simp
   simp only[wrL,ahq,ahj];omega
theorem UG(sep:List UInt8):∀xs:List (List UInt8),(xs.map List.length).sum<=(Lib.join xs sep).length
 |[]=>by simp[Lib.join]
 |[x]=>by simp[Lib.join,List.intercalate]
 |x::y::l=>by have h1:=UG sep (y::l);have e:Lib.join (x::y::l) sep=x++(sep++Lib.join (y::l) sep):=(by simp[Lib.join,List.intercalate]);rw[e];simp only[ahl,aiy,ahq]at h1⊢;omega
theorem adQ(r:Rdn):Mt r<=(dp false r).length:=by
 have h1:Mt r<=((r.map (avT false)).map List.length).sum:=by
  induction r with
  |nil=>simp[Mt]
  | cons a r ih =>
    have h2:=aaE a.2.length a.2 0;have h3:min a.2.length 5000<=(avT false a).length:=by simp only[avT,ahp,if_false,ahq,eu];omega
    simp only[Mt,ahl,aiy]at ih⊢;omega
 have h2:=UG [43] (r.map (avT false));simp only[dp,ahp,if_false];omega
theorem X7(d:List Rdn):P8 d<=(dY false d).length:=by
 have h1:P8 d<=((d.map (dp false)).map List.length).sum:=by
  induction d with
  |nil=>simp[P8]
  | cons a r ih =>
    have h2:=adQ a;simp only[P8,ahl,aiy]at ih⊢;omega
 have h2:=UG [44] (d.map (dp false));simp only[dY];omega
theorem UB:∀{l:List Nat}{x:Nat},x∈l->x<=l.sum
 |[],_,h=>by cases h
 | y::l,x,h=>by
   rw[aiy];rcases ahc.1 h with rfl|h
   .omega
   .have:=UB h;omega
theorem Vm(h:P8 d<=4096):∀r∈d,∀a∈r,a.2.length<=4096:=λr hr a ha=>by
 have h1:Mt r<=P8 d:=by unfold P8;exact UB (List.mem_map_of_mem hr)
 have h2:min a.2.length 5000<=Mt r:=by unfold Mt;exact UB (List.mem_map_of_mem (f:=λa:Ava=>min a.2.length 5000) ha)
 omega
theorem VJ(h:∀r∈d,∀a∈r,a.2.length<=4096):NT d=false:=by unfold NT HS;rw[aiU];intro r hr;simp only[aiI,aiU,decide_eq_true_eq];intro a ha;have:=h r hr a ha;omega
theorem adT(hr:r.length=n)(hn:n<=8)(h1:∀a∈r,a.1.length<=32)(h2:typ.length<=32)(h:K (.bool (lu r typ)) L):
  ag6 165 [.sl (aG r) n cap,.str typ] L K:=by
 subst hr;exact aa9 (by omega) (λa ha=>by have:=h1 a ha;omega) (by omega) h
theorem Zf(hn:d.length<=1100000)(hr:∀r∈d,r.length<=1100000/\∀a∈r,(a.1.length:Int)<=140737488351232)(h:K (rX (prS d)) L):ag6 167 [.sl (d.map cq) d.length cap] L K:=by
 obtain⟨R,hR⟩:=ag2 (prS d);rw[hR]at h;replace h:=hid h;have hat:=hid (λk=>@LG d k);replace hr:=hid hr;have hbad:lv 0 d≠0->R=([],lv 0 d):=λe=>by rw[<- hR,prS,if_pos e]
 replace hbad:=hid hbad;replace hR:=hid hR;refine ag5 O3 ?_;refine ak (λn T' L'=>∃(i:Nat) (c:Int) (X:List Blk),n=d.length-i/\i<=d.length/\i<=32/\Hid (c=(P8 (d.take i):Nat)/\c<=40000*i)/\Hid (lv i (d.drop i)=lv 0 d)/\T'=[(11,.int .i64 (i:Int)),(10,.int .i64 d.length),(9,.sl (d.map cq) d.length cap),(4,.int .i64 c),(0,.sl (d.map cq) d.length cap)]/\L'=L++X) (CutS (b:=by simp)) ⟨0,0,[],rfl,ahf _,by omega,hid ⟨rfl,by omega⟩,hid rfl,rfl,by simp⟩ ?_;rintro _ _ _ ⟨i,c,X,rfl,hi,hi32,hc,he,rfl,rfl⟩;by_cases hlt:i<d.length
 .have g1:(i:Int)<(d.length:Int):=(by omega);have g2:=ag4 i (by omega);have e2:=hat.out i hlt;have hrm:d.getD i []∈d:=(by rw[ahz,ahn hlt];exact ah9 _);obtain⟨hrl,hrt⟩:=hr.out (d.getD i []) hrm;obtain⟨r,hri⟩:=ag2 (d.getD i []);have hdr:d.drop i=r::d.drop (i+1):=(by rw[ahV hlt,<- hri];simp[hlt]);have hdt:d.take (i+1)=d.take i++[r]:=(by rw[ahw hlt,<- hri];simp[hlt]);rw[hri]at e2 hrl hrt;have he2:=he.out;rw[hdr,lv]at he2;clear hdr hri hrm;replace hrt:=hid hrt;replace hdt:=hid hdt;by_cases h32:i=32;rw[if_pos h32]at he2;have h':=h.out;rw[hbad.out (by rw[<- he2];decide),<- he2]at h';replace h':=hid h';have k1:(i:Int)=32:=(by omega);have g1':(32:Int)<(d.length:Int):=(by omega);clear h32 he2;refine wk ?_;exact ae rfl h'.out;rw[if_neg h32]at he2;have k1:¬(i:Int)=32:=(by omega);by_cases hr0:r=[];rw[if_pos hr0]at he2;subst hr0;have h':=h.out;rw[hbad.out (by rw[<- he2];decide),<- he2]at h';replace h':=hid h';clear h32 he2;refine wk ?_;exact ae rfl h'.out;rw[if_neg hr0]at he2;have k2:¬(r.length:Int)=0:=(by have:=ain.2 hr0;omega);have herr:∀e:Int,dJ [] r=e->e≠0->K (.tup [.str [],.int .i64 e]) L:=λe a1 a2=>by rw[if_pos (by rw[a1];exact a2),a1]at he2;have h':=h.out;rwa[hbad.out (by rw[<- he2];exact a2),<- he2]at h'
  replace herr:=hid herr;replace he2:=hid he2;clear h32;refine wk ?_;refine ak (λn T' L'=>∃(k:Nat) (c':Int) (Y:List Blk),n=r.length-k/\k<=r.length/\k<=8/\Hid (c'=c+(Mt (r.take k):Nat)/\0<=c'/\c'<=40000*i+5000*k)/\Hid (dJ (r.take k) (r.drop k)=dJ [] r/\∀a∈r.take k,a.1.length<=32)/\T'=[(23,.int .i64 (k:Int)),(22,.int .i64 r.length),(21,cq r),(6,cq r),(11,.int .i64 (i:Int)),(10,.int .i64 d.length),(9,.sl (d.map cq) d.length cap),(4,.int .i64 c'),(0,.sl (d.map cq) d.length cap)]/\L'=L++(X++Y)) (CutS (b:=by simp)) ⟨0,c,[],rfl,ahf _,by omega,hid ⟨by simp[Mt],by have:=hc.out;omega,by have:=hc.out;omega⟩,hid ⟨rfl,by simp⟩,rfl,by simp⟩ ?_;rintro _ _ _ ⟨k,c',Y,rfl,hk,hk8,hc',hrow,rfl,rfl⟩;by_cases hkl:k<r.length
  .have g3:(k:Int)<(r.length:Int):=(by omega);have g4:=ag4 k (by omega);have e3:=fQ hkl;have e4:k*2+2<=(aG r).length:=(by rw[dF];omega);obtain⟨⟨ty,va⟩,ha⟩:∃a,r.getD k ([],[])=a:=⟨_,rfl⟩;have ham:(ty,va)∈r:=(by rw[<- ha];simp[hkl]);have hdk:r.drop k=(ty,va)::r.drop (k+1):=(by rw[ahV hkl,<- ha];simp[hkl]);have htk:r.take (k+1)=r.take k++[(ty,va)]:=(by rw[ahw hkl,<- ha];simp[hkl]);rw[ha]at e3;simp only[qC]at e3;have hty1:=hrt.out _ ham;simp only at hty1;obtain⟨hr1,hr2⟩:=hrow.out;rw[hdk,dJ]at hr1;have hlk:(r.take k).length=k:=(by simp;omega);rw[hlk]at hr1;clear hdk ha hrow ham;have e5:(aG r).take (k*2)=aG (r.take k):=Ph;have g5:(k:Int)<=(r.length:Int):=(by omega);replace hr1:=hid hr1;replace hr2:=hid hr2;replace htk:=hid htk;have e6:=hid hlk;clear hlk
   repeat' first
    |refine br ?_
    | (first|refine bh (by kernel_rfl) ?_|refine aH (by kernel_rfl) ?_|refine aK ?_|refine cO ?_|refine bB (fun _=>?_)|refine aB ?_|refine bm ?_)
      refine sm ?_
    | (first|refine a8 (by kernel_rfl) ?_|refine bc ?_|refine aJ ?_|refine bj ?_|refine bG (aA ?_))
      refine sl ?_
    |exact bC
    |first|apply bD|apply be|apply bE|apply bf|apply bF|apply bg
    |refine aN ?_
    |refine aI ?_
    |first|refine aL rfl ?_|refine aM rfl ?_|refine aw rfl ?_ ?_|refine aQ rfl (λ_=>?_) (λ_=>?_)|refine aP rfl (λ_=>?_) (λ_=>?_)
    |((first|refine au (λ_=>?_) (λ_=>?_)|refine az (λ_=>?_) (λ_=>?_))<;>try refine sm ?_)
    |refine And.intro trivial ?_
    |refine And.intro (by omega) ?_
    |refine aU rfl (λ_=>?_) (λ_=>?_)
    |refine And.intro ?_ ?_
   rename_i h8;have h':=hid (herr.out 9 (by rw[<- hr1.out,if_pos (by omega)]) (by decide));exact ae rfl h'.out;rename_i h8;have hr3:=hr1.out;rw[if_neg (by omega)]at hr3;replace hr3:=hid hr3;refine Vn hty1 ?_;cases hty:eT ty with
   | false =>
     have h':=hid (herr.out 20 (by rw[<- hr3.out,if_pos hty]) (by decide));clear hr3;refine sk ?_;refine wk ?_;exact ae rfl h'.out
   | true =>
     have hr4:=hr3.out;rw[if_neg (by rw[hty];simp)]at hr4;replace hr4:=hid hr4;have htl:=rW hty;clear hr3;refine sk ?_;refine wk ?_;refine aC (adT e6.out (by omega) hr2.out htl ⟨rfl,rfl⟩) ?_;cases hha:lu (r.take k) ty with
     | true =>
       have h':=hid (herr.out 21 (by rw[<- hr4.out,if_pos hha]) (by decide));refine sk ?_;refine wk ?_;exact ae rfl h'.out
     | false =>
       have hr5:=hr4.out;rw[if_neg (by rw[hha];simp),<- htk.out]at hr5;replace hr5:=hid hr5;clear hr4;obtain⟨z,hz⟩:∃z:Int,(if(5000:Int)<(va.length:Int)then 5000 else(va.length:Int))=z:=⟨_,rfl⟩;have hz2:z=((min va.length 5000:Nat):Int):=(by rw[<- hz];split<;>omega);have hzw:IntKind.i64.wrap (c'+z)=c'+z:=by have:=hc'.out;exact ac (by omega) (by omega)
       replace hz2:=hid hz2;refine sk ?_;refine wk ?_;refine ah _ _ _ (by omega) (CutL (b:=by simp)) ⟨k+1,c'+z,Y++[.cells [.str ty,.str va]],rfl,hkl,by omega,hid ?_,hid ⟨hr5.out,λa ha=>?_⟩,rfl,by simp⟩
       .have:=hc'.out;have e:Mt (r.take (k+1))=Mt (r.take k)+min va.length 5000:=(by rw[htk.out];simp[Mt]);have:=hz2.out;omega
       rw[htk.out]at ha;rcases ahb.1 ha with h|h
       .exact hr2.out a h
       .rw[ahs.1 h];exact htl
  have hke:k=r.length:=(by omega);subst hke;have g3:¬(r.length:Int)<(r.length:Int):=(by omega);have hz:=hrow.out.1;rw[ahU,dJ]at hz;have he3:=he2.out;rw[<- hz]at he3;simp only[ne_eq,not_true_eq_false,if_false]at he3;replace he3:=hid he3;have hcn:=hc'.out;rw[ahr]at hcn;replace hcn:=hid hcn;clear hz;refine wk ?_;refine ah _ _ _ (by omega) (CutS (b:=by simp)) ⟨i+1,c',X++Y,rfl,hlt,by omega,hid ?_,hid he3.out,rfl,rfl⟩;have e:P8 (d.take (i+1))=P8 (d.take i)+Mt r:=(by rw[hdt.out];simp[P8]);have:=hcn.out;have:=hc.out;omega
 have hke:i=d.length:=by omega
 subst hke;have g1:¬(d.length:Int)<(d.length:Int):=by omega
 have hch:=he.out;rw[ahU,lv]at hch;have hcc:=hc.out.1;rw[ahr]at hcc;have hR':=hR.out;rw[prS,if_neg (by rw[<- hch];simp)]at hR';have hge:=X7 d;by_cases hbig:4096<P8 d;have k1:(4096:Int)<c:=by omega
 have h':=h.out;rw[<- hR']at h';have e:(if NT d=true then(([]:List UInt8),(5:Int))else if 4096<(dY false d).length then([],5)else(dY false d,0))=([],5):=by split;rfl;rw[if_pos (by omega)]
 rw[e]at h';replace h':=hid h';clear hbig hge hcc e hR' hch;refine wk ?_;exact ae rfl h'.out;have k1:¬(4096:Int)<c:=by omega
 have hlo:=Vm (d:=d) (by omega);obtain⟨hd32,hd8⟩:=QD d 0 hch.symm (by omega);rw[VJ hlo,if_neg (by simp)]at hR';replace hlo:=hid hlo;replace hd8:=hid hd8;have hbn:=hid (show ∀r∈d,r.length<=1000/\∀a∈r,a.1.length<=10000/\a.2.length<=10000 from λr hr=>⟨by have:=(hd8.out r hr).1;omega,λa ha=>⟨by have:=(hd8.out r hr).2 a ha;omega,by have:=hlo.out r hr a ha;omega⟩⟩);by_cases hlg:4096<(dY false d).length;have k2:(4096:Int)<((dY false d).length:Int):=by omega
 have h':=h.out;rw[<- hR',if_pos hlg]at h';replace h':=hid h';clear hbig hge hcc hR' hch hlg;have kk1:=@hid _ (λL K=>Uo (cap:=cap) (by omega) hbn.out (L:=L) (K:=K));refine wk ?_;exact ae rfl h'.out;have k2:¬(4096:Int)<((dY false d).length:Int):=by omega
 have h':=h.out;rw[<- hR',if_neg hlg]at h';replace h':=hid h';clear hbig hge hcc hR' hch hlg;have kk1:=@hid _ (λL K=>Uo (cap:=cap) (by omega) hbn.out (L:=L) (K:=K));refine wk ?_;exact ae rfl h'.out
def ry(a:Ava):Ava:=(af a.1,bz a.2)
abbrev vj(a:Ava):List UInt8:=avT false a
def vG(l:Rdn)(x:Ava):Nat->Nat
 |0=>0
 |n+1=>if vj x<vj (l.getD n ([],[]))then vG l x n else n+1
def HV(l:Rdn)(x:Ava):Rdn:=l.take (vG l x l.length)++[x]++l.drop (vG l x l.length)
def fy(r:Rdn):Rdn:=r.foldl (λl a=>HV l (ry a)) []
def kL(d:List Rdn):List Rdn:=d.map fy
theorem Ut(l:Rdn)(x:Ava):∀n,vG l x n<=n
 |0=>ag9 _
 |n+1=>by have:=Ut l x n;unfold vG;split<;>omega
theorem VW(l:Rdn)(x:Ava):(HV l x).length=l.length+1:=by have:=Ut l x l.length;simp[HV];omega
theorem Vv(h:k<r.length):fy (r.take (k+1))=HV (fy (r.take k)) (ry (r.getD k ([],[]))):=by unfold fy;rw[ahw h,ai7];simp[h]
theorem RE(r:Rdn):∀l:Rdn,(r.foldl (λl a=>HV l (ry a)) l).length=l.length+r.length:=by
 induction r with
 |nil=>simp
 |cons a r ih=>intro l;rw[ahZ,ih,VW];simp;omega
theorem vH(r:Rdn):(fy r).length=r.length:=by simp[fy,RE]
theorem aaj  :(aG r).drop (k*2)=aG (r.drop k):=by
 induction r generalizing k with
 |nil=>simp[aG]
 | cons a r ih =>
   cases k with
   |zero=>simp[aG]
   | succ k =>
     have:=@ih k;simp only[aG]at this;rw[show(k+1)*2=k*2+1+1 by omega];simp[aG,qC,this]
theorem Ud(r q:Rdn):aG (r++q)=aG r++aG q:=by simp[aG]
theorem Yf(l:Rdn)(x:Ava):∀(n j:Nat),vG l x n<=j->j<n->vj x<vj (l.getD j ([],[]))
 |0,_,_,h=>by omega
 | n+1,j,h1,h2=>by
   unfold vG at h1;split at h1
   .rename_i hk;rcases aht j n with e|e
    .exact Yf l x n j h1 e
    .have:j=n:=(by omega);subst this;exact hk
   .omega
theorem Yg(l:Rdn)(x:Ava):∀n,vG l x n=0\/¬vj x<vj (l.getD (vG l x n-1) ([],[]))
 |0=>.inl rfl
 | n+1=>by
   unfold vG;split
   .exact Yg l x n
   .rename_i hk;exact .inr (by simpa using hk)
def Uh(l:Rdn):Prop:=l.Pairwise λa b=>vj a<=vj b
theorem Xm{l:Rdn}{x:Ava}(hs:Uh l):Uh (HV l x):=by
 have hge:=Yf l x l.length;have hat:=Yg l x l.length;have hle:=Ut l x l.length;unfold HV;obtain⟨p,hp⟩:=ag2 (vG l x l.length);rw[hp]at hge hat hle⊢;have hs2:Uh (l.take p++l.drop p):=by rw[aiQ];exact hs
 obtain⟨h1,h2,h3⟩:=List.pairwise_append.1 hs2;have ha:∀a∈l.take p,vj a<=vj x:=λa ha=>by
  rcases hat with e|e;subst e;simp at ha;have hp1:p-1<l.length:=by rcases ait p with z|z;subst z;simp at ha;omega
  refine List.le_trans ?_ (aiw.1 e);obtain⟨i,hi,rfl⟩:=aiq.1 ha;simp only[ajb]at hi;rw[List.getElem_take];have hg:l.getD (p-1) ([],[])=l[p-1]:=(by simp[hp1]);rw[hg];rcases aht i (p-1)with q|q;exact(aj0.1 hs) i (p-1) (by omega) hp1 q;have:i=p-1:=(by omega);subst this;exact aiw.1 (aio _)
 have hb:∀b∈l.drop p,vj x<=vj b:=λb hb=>by obtain⟨i,hi,rfl⟩:=aiq.1 hb;simp only[aja]at hi;rw[List.getElem_drop];have:=hge (p+i) (by omega) (by omega);have hg:l.getD (p+i) ([],[])=l[p+i]:=(by simp[show p+i<l.length by omega]);rw[hg]at this;exact List.le_of_lt this
 unfold Uh;rw[aho,List.pairwise_append];refine⟨h1,?_,?_⟩;simp only[ajP,ahR];exact⟨hb,h2⟩;intro a haa b hbb;simp only[ajP,ahc]at hbb;rcases hbb with rfl|hbb;exact ha a haa;exact h3 a haa b hbb
theorem VV(l:Rdn)(x:Ava):(HV l x).Perm (x::l):=by unfold HV;rw[aho];refine(List.perm_middle (l₁:=l.take _) (l₂:=l.drop _)).trans ?_;rw[aiQ]
theorem N4:∀(r l:Rdn),Uh l->Uh (r.foldl (λl a=>HV l (ry a)) l)/\(r.foldl (λl a=>HV l (ry a)) l).Perm (l++r.map ry)
 |[],l,h=>by simpa using h
 |a::r,l,h=>by obtain⟨h1,h2⟩:=N4 r (HV l (ry a)) (Xm h);refine⟨h1,h2.trans ?_⟩;refine((VV l (ry a)).append_right _).trans ?_;simp only[ahl];exact(List.perm_middle (l₁:=l)).symm
theorem YD(a:Ava):avT true a=vj (ry a):=by simp[avT,ry]
theorem WX(r:Rdn):(fy r).map vj=dH (r.map (avT true)):=by
 obtain⟨h1,h2⟩:=N4 r [] List.Pairwise.nil;refine aj3 (le:=λx y=>x<=y) (λa b _ _=>ajY) ?_ ?_ ?_;rw[ajF];exact h1;have:=akd (le:=λx y:List UInt8=>decide (x<=y)) (λa b c h1 h2=>by
  simp only[decide_eq_true_eq]at *;exact List.le_trans h1 h2) (λa b=>by
  simp only[ahO,decide_eq_true_eq];exact List.le_total a b) (r.map (avT true))
 exact this.imp λh=>by simpa using h
 refine(h2.map vj).trans ?_;unfold dH;refine List.Perm.trans ?_ (ajm _ _).symm;rw[ahJ,ahK];rw[show(vj∘ry)=avT true from funext λa=>(YD a).symm]
theorem Zq(r:Rdn):dp false (fy r)=dp true r:=by have:=WX r;simp only[dp,ahp,if_false,if_true];rw[<- this]
theorem Rb(d:List Rdn):dY false (kL d)=dY true d:=by unfold dY kL;rw[ahK];rw[show(dp false∘fy)=dp true from funext Zq]
theorem aee{p:Ava->Prop}{l:Rdn}{x:Ava}(h:∀a∈l,p a)(hx:p x):∀a∈HV l x,p a:=λa ha=>by rcases ahc.1 ((VV l x).mem_iff.1 ha)with rfl|h1;exact hx;exact h a h1
theorem Sh:∀r:Rdn,(aG r).all AV.one=true
 |[]=>rfl
 |a::r=>by have:=Sh r;simp only[aG]at this;simp[aG,qC,AV.one,this]
theorem YX{xs:List AV}{a b:AV}(h:(xs.drop i).take 2=[a,b]):xs.getD i .undef=a/\xs.getD (i+1) .undef=b:=by have h0:=congrArg (·[0]?) h;have h1:=congrArg (·[1]?) h;simp[List.getElem?_take,ah3]at h0 h1;simp[ahz,h0,h1]
theorem aa2(hn:d.length<=1000)(hr:∀r∈d,r.length<=1000/\∀a∈r,a.1.length<=10000/\a.2.length<=10000)(h:K (.sl ((kL d).map cq) d.length none) L):
  ag6 169 [.sl (d.map cq) d.length cap] L K:=by
 replace h:=hid h;have hat:=hid (λk=>@LG d k);replace hr:=hid hr;refine ag5 O2 ?_;refine bX (l:=[]) (n:=0) 3 1 rfl (ahD 1).symm ?_;refine ak (λn T' L'=>∃(i:Nat) (out:List Rdn) (Z:List Blk),n=d.length-i/\i<=d.length/\Hid (out=(d.take i).map fy)/\L'[L.length]?=some (.spare i 1)/\T'=[(14,.int .i64 (i:Int)),(13,.int .i64 d.length),(12,.sl (d.map cq) d.length cap),(3,.gsl (out.map cq) i L.length 1)]/\L'=L++Z) (CutS (b:=by simp)) ⟨0,[],[.spare 0 1],rfl,ahf _,hid rfl,by simp,rfl,rfl⟩ ?_;rintro _ _ _ ⟨i,out,X,rfl,hi,hout,ho,rfl,rfl⟩;by_cases hlt:i<d.length
 .have g1:(i:Int)<(d.length:Int):=(by omega);have g2:=ag4 i (by omega);have e2:=hat.out i hlt;have hrm:d.getD i []∈d:=(by rw[ahz,ahn hlt];exact ah9 _);have hrl:=hr.out _ hrm;obtain⟨r,hri⟩:=ag2 (d.getD i []);have htk:d.take (i+1)=d.take i++[r]:=(by rw[ahw hlt,<- hri];simp[hlt]);rw[hri]at e2 hrl;clear hri hrm;obtain⟨hrl1,hrl2⟩:=hrl;replace hrl2:=hid hrl2;replace htk:=hid htk;refine wk ?_;refine ak (λn T' L'=>∃(k:Nat) (l:Rdn) (v:AV) (Z:List Blk),n=r.length-k/\k<=r.length/\Hid (l=fy (r.take k)/\af4 L.length l v L'/\∀a∈l,a.1.length<=10000/\a.2.length<=10000)/\L'[L.length]?=some (.spare i 1)/\X.length<=Z.length/\T'=[(20,.int .i64 (k:Int)),(19,.int .i64 r.length),(18,cq r),(6,v),(14,.int .i64 (i:Int)),(13,.int .i64 d.length),(12,.sl (d.map cq) d.length cap),(3,.gsl (out.map cq) i L.length 1)]/\L'=L++Z) (CutS (b:=by have:=(ag8.1 ho).1;simp at this⊢)) ⟨0,[],_,X,rfl,ahf _,hid ⟨rfl,.inl ⟨rfl,rfl,rfl⟩,by simp⟩,ho,ag9 _,rfl,rfl⟩ ?_;clear ho;rintro _ _ _ ⟨k,l,v,X1,rfl,hk,hI,ho,hXZ,rfl,rfl⟩;obtain⟨hl,hv,hlen⟩:=hI.out;clear hI;have hB:L.length<(L++X1).length:=(ag8.1 ho).1;refine Va 6 2 L.length rfl hB hv λp Y hBi hpi=>?_
  rw[aho]at hpi⊢;have ho2:(L++(X1++Y))[L.length]?=some (.spare i 1):=(by rw[<- aho,ahi hB];exact ho);have hXZ2:X.length<=(X1++Y).length:=(by simp;omega);generalize X1++Y=Z at hpi ho2 hXZ2⊢;clear ho hB hv hXZ X1 Y;replace hXZ2:=hid hXZ2;have hll:l.length=k:=(by rw[hl,vH];simp;omega);rw[hll]at hpi⊢;have hpl:=(ag8.1 hpi).1;have hol:=(ag8.1 ho2).1;rw[ahq]at hpl hol;replace hlen:=hid hlen;replace hl:=hid hl;replace hpl:=hid hpl;replace hol:=hid hol;by_cases hkl:k<r.length
  .have g3:(k:Int)<(r.length:Int):=(by omega);have g4:=ag4 k (by omega);have e3:=fQ hkl;have e4:k*2+2<=(aG r).length:=(by rw[dF];omega);obtain⟨⟨ty,va⟩,ha⟩:∃a,r.getD k ([],[])=a:=⟨_,rfl⟩;have ham:(ty,va)∈r:=(by rw[<- ha];simp[hkl]);have hnew:=Vv hkl;rw[ha]at e3 hnew;simp only[qC]at e3;have hva:=hrl2.out _ ham;simp only at hva;have hva2:(va.length:Int)<=100000:=(by omega);have hty2:(ty.length:Int)<=100000:=(by omega);obtain⟨fx,hfx⟩:=ag2 (af ty);obtain⟨px,hpx⟩:=ag2 (bz va);have hfl:fx.length<=10000:=(by rw[<- hfx];simp[af];omega);have hpxl:px.length<=10000:=(by rw[<- hpx];have:=u9 va;omega);have hpav:ry (ty,va)=(fx,px):=(by simp[ry,hfx,hpx]);rw[hpav,<- hl.out]at hnew;replace hnew:=hid hnew;clear ha ham hpav
   iterate 24 first
    |refine br ?_
    | (first|refine bh (by kernel_rfl) ?_|refine aH (by kernel_rfl) ?_|refine aK ?_|refine cO ?_|refine bB (fun _=>?_)|refine aB ?_|refine bm ?_|refine mP hty2 ?_|refine vB hva2 ?_|refine bb (mP hty2 ⟨rfl,rfl⟩) (mP hty2 ⟨rfl,rfl⟩) ?_|refine bb (vB hva2 ⟨rfl,rfl⟩) (vB hva2 ⟨rfl,rfl⟩) ?_|refine aC (mP hty2 ⟨rfl,rfl⟩) ?_|refine aC (vB hva2 ⟨rfl,rfl⟩) ?_)
      simp(config:={maxSteps:=2000000}) only[Kon,push_cast,reduceIte,Nat.reduceEqDiff,Nat.reduceAdd,Nat.reduceMul,Nat.reduceSub,Nat.reduceLT,Nat.reduceLeDiff,Int.reduceLT,Int.reduceLE,Int.reduceAdd,Int.reduceSub,Int.reduceNeg,Int.reduceToNat,Int.reduceEq,reduceCtorEq, *]
    | (first|refine a8 (by kernel_rfl) ?_|refine bc ?_|refine aJ ?_|refine bj ?_|refine bG (aA ?_))
      simp only[push_cast,reduceIte,Nat.reduceEqDiff,Nat.reduceAdd,Nat.reduceMul,Nat.reduceSub,Nat.reduceLT,Nat.reduceLeDiff,Int.reduceLT,Int.reduceLE,Int.reduceAdd,Int.reduceSub,Int.reduceNeg,Int.reduceToNat,Int.reduceEq,reduceCtorEq, *]
    |exact bC
    |first|apply bD|apply be|apply bE|apply bf|apply bF|apply bg
    |refine aN ?_
    |refine aI ?_
    |first|refine aL rfl ?_|refine aM rfl ?_|refine aw rfl ?_ ?_|refine aQ rfl (λ_=>?_) (λ_=>?_)|refine aP rfl (λ_=>?_) (λ_=>?_)
    |((first|refine au (λ_=>?_) (λ_=>?_)|refine az (λ_=>?_) (λ_=>?_))<;>try simp(config:={maxSteps:=2000000}) only[Kon,push_cast,reduceIte,Nat.reduceEqDiff,Nat.reduceAdd,Nat.reduceMul,Nat.reduceSub,Nat.reduceLT,Nat.reduceLeDiff,Int.reduceLT,Int.reduceLE,Int.reduceAdd,Int.reduceSub,Int.reduceNeg,Int.reduceToNat,Int.reduceEq,reduceCtorEq, *])
    |refine And.intro trivial ?_
    |refine And.intro (by omega) ?_
    |refine aU rfl (λ_=>?_) (λ_=>?_)
    |refine And.intro ?_ ?_
   have hnp:l.getD k ([],[])=([],[]):=(by simp[hll]);obtain⟨wx,hwx⟩:=ag2 (eu px);have hkx:vj (fx,px)=fx++61::wx:=(by simp[avT,hwx]);have hwxl:wx.length<=30000:=(by rw[<- hwx];have:=Ir px;omega);have hpx2:px.length<=100000:=(by omega);replace hkx:=hid hkx;clear hnp;refine QI (λT2 L2=>∃z:Nat,z<=k/\Hid (z=vG l (fx,px) k)/\T2=[(10,.int .i64 (z:Int)),(9,.ptr (L.length+(Z.length+1)) 0),(6,.gsl (aG l) k p 2),(20,.int .i64 (k:Int)),(19,.int .i64 r.length),(18,cq r),(14,.int .i64 (i:Int)),(13,.int .i64 d.length),(12,.sl (d.map cq) d.length cap),(3,.gsl (out.map cq) i L.length 1)]/\L2=L++(Z++[.cells [.str ty,.str va],.cells [.str fx,.str px]])) ?_ ?_;refine wk ?_;refine ak (λn T' L'=>∃q:Nat,q=n/\q<=k/\Hid (vG l (fx,px) q=vG l (fx,px) k)/\T'=[(10,.int .i64 (q:Int)),(9,.ptr (L.length+(Z.length+1)) 0),(6,.gsl (aG l) k p 2),(20,.int .i64 (k:Int)),(19,.int .i64 r.length),(18,cq r),(14,.int .i64 (i:Int)),(13,.int .i64 d.length),(12,.sl (d.map cq) d.length cap),(3,.gsl (out.map cq) i L.length 1)]/\L'=L++(Z++[.cells [.str ty,.str va],.cells [.str fx,.str px]])) (CutS (b:=by simp)) ⟨k,rfl,ag9 _,hid rfl,rfl,rfl⟩ ?_;rintro _ _ _ ⟨q,rfl,hqk,hq,rfl,rfl⟩;rcases q with _|q;have h0:=hid hq.out.symm;have k0:¬(0:Int)<((0:Nat):Int):=(by omega);have kk1:=@hid _ (λL K=>mE hpx2 (L:=L) (K:=K));refine wk ?_;exact rS _ _ (CutL (b:=by simp)) ⟨0,by omega,hid h0.out.symm,rfl,rfl⟩;have k0:(0:Int)<((q+1:Nat):Int):=(by omega);have k1:IntKind.i64.wrap (((q+1:Nat):Int)-1)=(q:Int):=by rw[ac (by omega) (by omega)];omega
   have k4:(q:Int)<(k:Int):=(by omega);have e5:=fQ (r:=l) (k:=q) (by omega);have e6:q*2+2<=(aG l).length:=(by rw[dF];omega);obtain⟨⟨t1,v1⟩,hav⟩:∃a,l.getD q ([],[])=a:=⟨_,rfl⟩;rw[hav]at e5;simp only[qC]at e5;obtain⟨e7,e8⟩:=YX e5;obtain⟨w1,hw1⟩:=ag2 (eu v1);have hv1:=hlen.out (t1,v1) (by rw[<- hav];simp[show q<l.length by omega]);simp only at hv1;have hv1':v1.length<=100000:=(by omega);have hw1l:w1.length<=30000:=(by rw[<- hw1];have:=Ir v1;omega);have hk1:vj (l.getD q ([],[]))=t1++61::w1:=(by rw[hav];simp[avT,hw1]);have c1:((t1.length+1:Nat):Int)<=9223372036854775807:=(by omega);have c2:((t1.length+1+w1.length:Nat):Int)<=9223372036854775807:=(by omega);have c3:((fx.length+1:Nat):Int)<=9223372036854775807:=(by omega);have c4:((fx.length+1+wx.length:Nat):Int)<=9223372036854775807:=(by omega);simp only[Int.natCast_add,Int.cast_ofNat_Int]at c1 c2 c3 c4;replace hk1:=hid hk1;simp only[Int.natCast_add,Int.cast_ofNat_Int]at k0 k1;have hq':=hid hq.out;clear hq hav;by_cases hc:vj (fx,px)<vj (l.getD q ([],[]));have hb:(Op.bytesLess (t1++61::w1) (fx++61::wx) ||decide (t1++61::w1=fx++61::wx))=false:=by rw[hkx.out,hk1.out]at hc;rw[bytesLess_eq];simp only[ajC,decide_eq_false_iff_not];exact⟨λe=>aio _ (ai8 e hc),λe=>by rw[e]at hc;exact aio _ hc⟩
   have hq2:vG l (fx,px) q=vG l (fx,px) k:=(by rw[<- hq'.out,vG,if_pos hc]);replace hq2:=hid hq2;clear hc;have kk1:=@hid _ (λL K=>mE hpx2 (L:=L) (K:=K));have kk2:=@hid _ (λL K=>mE hv1' (L:=L) (K:=K));refine wk ?_;exact ah _ _ _ (by omega) (CutL (b:=by simp)) ⟨q,rfl,by omega,hq2,rfl,rfl⟩;have hb:(Op.bytesLess (t1++61::w1) (fx++61::wx) ||decide (t1++61::w1=fx++61::wx))=true:=by rw[hkx.out,hk1.out]at hc;rw[bytesLess_eq];simp only[ahO,decide_eq_true_eq];have:=aiw.1 hc;rcases ajn.1 this with e|e;exact .inl e;exact .inr e
   have hq2:q+1=vG l (fx,px) k:=(by rw[<- hq'.out,vG,if_neg hc]);replace hq2:=hid hq2;clear hc;have kk1:=@hid _ (λL K=>mE hpx2 (L:=L) (K:=K));have kk2:=@hid _ (λL K=>mE hv1' (L:=L) (K:=K));refine wk ?_;exact rS _ _ (CutL (b:=by simp)) ⟨q+1,by omega,hq2,rfl,rfl⟩;rintro _ _ ⟨z,hzk,hz,rfl,rfl⟩ -;have z0:(0:Int)<=(z:Int):=(by omega);have z1:(z:Int)<=(k:Int):=(by omega);have s1:(aG l).take (z*2)=aG (l.take z):=Ph;have s2:((aG l).drop (z*2)).take ((k-z)*2)=aG (l.drop z):=by rw[aaj,aib];rw[dF,aja,hll];omega
   have s3:AV.frzL (aG (l.take z))=aG (l.take z):=iS _;have s4:AV.frzL (aG (l.drop z))=aG (l.drop z):=iS _;have s5:(aG (l.take z)).length=z*2:=(by rw[dF,ajb];omega);have s6:(aG (l.drop z)).length=(k-z)*2:=(by rw[dF,aja,hll]);have s7:z+1+(k-z)=k+1:=(by omega);have s8:=Sh (l.take z);have s9:=Sh (l.drop z);have q1:z*32<=140737488355328:=(by omega);have q2:z<=140737488355328:=(by omega);have q3:(z+1)*32<=140737488355328:=(by omega);have q4:z+1<=140737488355328:=(by omega);have q5:(k+1)*32<=140737488355328:=(by omega);have q6:k+1<=140737488355328:=by omega
   iterate 3 first
    |refine br ?_
    | (first|refine bh (by kernel_rfl) ?_|refine aH (by kernel_rfl) ?_|refine aK ?_|refine cO ?_|refine bB (fun _=>?_)|refine aB ?_|refine bm ?_)
      simp(config:={maxSteps:=2000000}) only[Kon,push_cast,reduceIte,Nat.reduceEqDiff,Nat.reduceAdd,Nat.reduceMul,Nat.reduceSub,Nat.reduceLT,Nat.reduceLeDiff,Int.reduceLT,Int.reduceLE,Int.reduceAdd,Int.reduceSub,Int.reduceNeg,Int.reduceToNat,Int.reduceEq,reduceCtorEq, *]
    | (first|refine a8 (by kernel_rfl) ?_|refine bc ?_|refine aJ ?_|refine bj ?_|refine bG (aA ?_))
      simp only[push_cast,reduceIte,Nat.reduceEqDiff,Nat.reduceAdd,Nat.reduceMul,Nat.reduceSub,Nat.reduceLT,Nat.reduceLeDiff,Int.reduceLT,Int.reduceLE,Int.reduceAdd,Int.reduceSub,Int.reduceNeg,Int.reduceToNat,Int.reduceEq,reduceCtorEq, *]
    |exact bC
    |first|apply bD|apply be|apply bE|apply bf|apply bF|apply bg
    |refine aN ?_
    |refine aI ?_
    |first|refine aL rfl ?_|refine aM rfl ?_|refine aw rfl ?_ ?_|refine aQ rfl (λ_=>?_) (λ_=>?_)|refine aP rfl (λ_=>?_) (λ_=>?_)
    |((first|refine au (λ_=>?_) (λ_=>?_)|refine az (λ_=>?_) (λ_=>?_))<;>try simp(config:={maxSteps:=2000000}) only[Kon,push_cast,reduceIte,Nat.reduceEqDiff,Nat.reduceAdd,Nat.reduceMul,Nat.reduceSub,Nat.reduceLT,Nat.reduceLeDiff,Int.reduceLT,Int.reduceLE,Int.reduceAdd,Int.reduceSub,Int.reduceNeg,Int.reduceToNat,Int.reduceEq,reduceCtorEq, *])
    |refine And.intro trivial ?_
    |refine And.intro (by omega) ?_
    |refine aU rfl (λ_=>?_) (λ_=>?_)
    |refine And.intro ?_ ?_
   refine bX (l:=[]) (n:=0) 11 2 rfl (ahD 2).symm ?_;refine wk ?_;have hcell:aG (l.take z)++AV.str fx::AV.str px::aG (l.drop z)=aG (HV l (fx,px)):=by rw[HV,hll,<- hz.out,Ud,Ud];simp[aG,qC]
   have hlen2:(HV l (fx,px)).length=k+1:=(by rw[VW,hll]);rw[hcell];refine ah _ _ _ (by omega) (CutL (b:=?_)) ⟨k+1,HV l (fx,px),_,_,rfl,hkl,hid ⟨hnew.out.symm,.inr ⟨L.length+(Z.length+2),by omega,by rw[hlen2],?_⟩,aee hlen.out ⟨hfl,hpxl⟩⟩,?_,?_,rfl,rfl⟩;have:=hXZ2.out;simp;omega;rw[mR,mR,hlen2];rfl;rw[<- aho,ahi (ag8.1 ho2).1];exact ho2;have:=hXZ2.out;simp;omega
  have hke:k=r.length:=(by omega);subst hke;have g3:¬(r.length:Int)<(r.length:Int):=(by omega);have q3:(i+1)*24<=140737488355328:=(by omega);have q4:i+1<=140737488355328:=(by omega);have e5:AV.frzL (aG l)=aG l:=iS _;have e6:out.map cq++[AV.sl (aG l) r.length none]=(out++[l]).map cq:=by rw[ahE];simp[hll]
  have e7:out++[l]=(d.take (i+1)).map fy:=by rw[htk.out,ahE,<- hout.out,hl.out,ahr];rfl
  have s4:∀(W:List Blk) A,(L++W).set L.length A=L++W.set 0 A:=λW A=>by rw[ahT _ _ (ag9 _),aiv]
  have f1:(L++Z.set 0 (.spare (i+1) 1))[L.length]?=some (.spare (i+1) 1):=by rw[<- s4,ahv,if_pos rfl,if_pos (ag8.1 ho2).1]
  replace e7:=hid e7;replace f1:=hid f1;replace e6:=hid e6;refine wk ?_;rw[e6.out];refine ah _ _ _ (by omega) (CutL (b:=?_)) ⟨i+1,out++[l],_,rfl,hlt,e7,f1.out,rfl,rfl⟩;have:=hol.out;simp;omega
 have hke:i=d.length:=by omega
 subst hke;have g1:¬(d.length:Int)<(d.length:Int):=by omega
 have e:=hout.out;rw[ahr]at e;have h':=h.out;rw[show(kL d)=out from e.symm]at h';replace h':=hid h';clear hout e;refine wk ?_;refine ba (ae ?_ ?_);simp only[AV.frz,AV.frzL,sc,AV.refs,AV.refsL,Iz,ah7];simp only[AV.frz,AV.frzL,sc];exact h'.out
theorem WZ(d:List Rdn):(kL d).length=d.length:=by simp[kL]
theorem WY(h:∀a∈r,a.1.length<=10000/\a.2.length<=10000):∀a∈fy r,a.1.length<=10000/\a.2.length<=10000:=λa ha=>by have hp:=(N4 r [] List.Pairwise.nil).2;have hm:=hp.mem_iff.1 ha;rw[ahJ]at hm;obtain⟨b,hb,rfl⟩:=ahd.1 hm;obtain⟨h1,h2⟩:=h b hb;have h3:=u9 b.2;simp only[ry,af,ahP];omega
theorem aa5(hn:d.length<=1100000)(hr:∀r∈d,r.length<=1100000/\∀a∈r,(a.1.length:Int)<=140737488351232)(h:K (rX (Rl d)) L):
  ag6 132 [.sl (d.map cq) d.length cap] L K:=by
 unfold Rl rX at h;refine ag5 Qk ?_;refine Zf hn hr ?_;unfold rX;obtain⟨⟨ps,pe⟩,hp⟩:∃p,prS d=p:=⟨_,rfl⟩;rw[hp]at h⊢;simp only at h⊢;by_cases h0:pe=0;subst h0;obtain⟨q1,q2⟩:=abm (by rw[hp]);rw[if_neg (by simp)]at h;have hb:∀r∈d,r.length<=1000/\∀a∈r,a.1.length<=10000/\a.2.length<=10000:=λr hr=>⟨by have:=(q2 r hr).1;omega,λa ha=>⟨by have:=((q2 r hr).2 a ha).1;omega,by have:=((q2 r hr).2 a ha).2;omega⟩⟩
 have hb2:∀r∈kL d,r.length<=1000/\∀a∈r,a.1.length<=10000/\a.2.length<=10000:=λr hr=>by obtain⟨r0,hr0,rfl⟩:=ahd.1 hr;exact⟨by rw[vH];exact(hb r0 hr0).1,WY (hb r0 hr0).2⟩
 have hpl:=hid (WZ d);rw[<- Rb]at h;replace h:=hid h;replace hb:=hid hb;replace hb2:=hid hb2;clear hp hr q2;refine sk ?_;have kk1:=@hid _ (λL K=>aa2 (cap:=cap) (by omega) hb.out (L:=L) (K:=K));refine wk ?_;rw[<- hpl.out];refine Uo (by rw[hpl.out];omega) hb2.out ?_;refine sk ?_;refine wk ?_;exact aa h.out;rw[if_pos h0]at h;replace h:=hid h;clear hp hr;refine sk ?_;refine wk ?_;exact aa h.out
theorem adR(hn:d.length<=1000000)(hr:∀r∈d,r.length<=1000000/\∀a∈r,(a.1.length:Int)<=100000)(h:K (rX (Rl d)) L):
 ag6 132 [.sl (d.map cq) d.length cap] L K:=aa5 (by omega) (λr hm=>⟨by have:=(hr r hm).1;omega,λa ha=>by have:=(hr r hm).2 a ha;omega⟩) h
theorem Ri:∀(f:Nat) (out:List Rdn) (now:Rdn) (s:List UInt8),(∀a∈now,a.1.length<=32)->(∀r∈out,∀a∈r,a.1.length<=32)->∀r∈(qB f out now s).1,∀a∈r,a.1.length<=32
 |0,_,_,_,_,_=>by simp[qB]
 | f+1,out,now,s,h1,h2=>by
   rw[qB];split
   .simp
   split
   .simp
   split
   .simp
   rename_i hty;have hty':=rW (by simpa using hty);have hrow:∀v,∀a∈now++[(_,v)],a.1.length<=32:=λv a ha=>by
    rcases ahb.1 ha with h|h
    .exact h1 a h
    .rw[ahs.1 h];exact hty'
   have hout:∀v,∀r∈out++[now++[(_,v)]],∀a∈r,a.1.length<=32:=λv r hr=>by
    rcases ahb.1 hr with h|h
    .exact h2 r h
    .rw[ahs.1 h];exact hrow v
   split
   .simp
   split
   .simp
   split
   .simp
   split
   .exact hout _
   split
   .exact Ri f _ _ _ (by simp) (hout _)
   .exact Ri f _ _ _ (hrow _) h2
theorem abu(s:List UInt8):∀r∈(vb s).1,∀a∈r,a.1.length<=32:=by unfold vb;split;simp;split;simp;exact Ri _ _ _ _ (by simp) (by simp)
theorem aa7(h:K (rX (HU s)) L):ag6 92 [.str s] L K:=by unfold HU at h;refine ag5 R7 ?_;refine aa3 ?_;obtain⟨q1,q2⟩:=Yi s;have q3:=abu s;obtain⟨⟨pd,pe⟩,hp⟩:∃p,vb s=p:=⟨_,rfl⟩;rw[hp]at h q1 q2 q3⊢;simp only[W2]at h q1 q2 q3⊢;clear hp;by_cases h0:pe=0;subst h0;rw[if_neg (by simp)]at h;replace h:=hid h;replace q2:=hid q2;replace q3:=hid q3;refine sk ?_;refine wk ?_;refine adR (by omega) (λr hr=>⟨by have:=q2.out r hr;omega,λa ha=>by have:=q3.out r hr a ha;omega⟩) ?_;have h':=h.out;unfold rX at h'⊢;replace h':=hid h';refine sk ?_;refine wk ?_;exact aa h'.out;rw[if_pos h0]at h;unfold rX at h;replace h:=hid h;clear q1 q2 q3;refine sk ?_;refine wk ?_;exact aa h.out
end Go.Proofs.YtcmfcpjnhephaaaGreatDoor.Av
