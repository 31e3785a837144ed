/- Joined texts of the walk, made small by a program. -/
import Derived.Test.YtcmfcpjnhephaaaGreatDoorUk4
import Derived.Test.YtcmfcpjnhephaaaGreatDoorRows
import Derived.KernelRfl
import Derived.Test.YtcmfcpjnhephaaaGreatDoorUk5
import Derived.Test.YtcmfcpjnhephaaaGreatDoorUk9
import Derived.Test.YtcmfcpjnhephaaaGreatDoorUk7
import Derived.Test.YtcmfcpjnhephaaaGreatDoorUk12
import Derived.Test.YtcmfcpjnhephaaaGreatDoorUk10
import Derived.Test.YtcmfcpjnhephaaaGreatDoorUk11
import Derived.Shelf.Spec.SlicesGrow
set_option linter.unusedSimpArgs false
set_option linter.unusedVariables false
set_option maxRecDepth 100000
namespace Go.Proofs.YtcmfcpjnhephaaaGreatDoor.Av
open Go
def qS:LSO:=[Ae 4]
def qR:LSO:=[Aa 5 0,Ax 6 5,Ad 7 1 6,Ac 8 1 7,Aa 9 0,Ax 10 9,Ad 11 0 10,Ac 12 1 11,Aw 13 12,Ak 14 8 13,Aa 15 14,.grp none 15 true
 [Af 16 15 0,AY 17 15 16,AA 18 15 0 17,A6 19 15 1 18,Af 20 15 0,AY 21 15 20,AA 22 15 1 21,A6 23 15 1 22,AX 24 15 19 23,Af 25 15 1,Ch 26 15 24 25]
 27 (tm 26)]
def qQ:LSO:=[Aa 28 0,Ax 29 28,Ad 30 1 29,Ac 31 1 30,Ag 32 31 1,Ax 33 28,Ad 34 1 33,Aj 1 34 32]
def qP:LSO:=[Az 4]
def qO:LSO:=[Ae 4]
def eC:aQ:=⟨35,(aoC qS [] (.seq (.seq (.sdreg qR [.pure,(.read 0 0),.pure,(.read 0 0),.pure,(.read 0 0),.pure,(.read 0 0),(.read 0 0),.pure,.pure,.pure,(.read 0 0),.pure,(.read 0 0),.pure,(.read 0 0),.pure,(.read 0 0),(.read 0 0),.pure] CG) (aoD 27 (aoC qQ CA (aoC qP [] .ret)) .skip)) (aoC qO [] .ret))),[(.tmp 4)]⟩
attribute [push_cast] qS qR qQ qP qO
theorem qh:aoH 150=aoI eC:=aoL
def nh:LSO:=[Ba 2]
def ng:LSO:=[Aa 14 0,Ax 15 14,Ad 16 1 15,Ac 17 1 16,Aa 3 17]
def nf:LSO:=[Aa 18 0,Ax 19 18,Ad 20 1 19,Ac 21 1 20,Aa 22 0,Ax 23 22,Ad 24 0 23,Ac 25 1 24,Aw 26 25,Ak 27 21 26,Aa 28 27,.grp none 28 true
 [Af 29 28 0,AY 30 28 29,AA 31 28 0 30,A6 32 28 1 31,Af 33 28 3,Af 34 28 0,AY 35 28 34,AA 36 28 1 35,A6 37 28 1 36,Ck 38 28 37 1,
 og 39 28 true (.slS (tm 32) (some (tm 33)) (some (tm 38))),AL 40 28 134 39]
 41 (tm 40)]
def mZ:LSO:=[Aa 42 0,Ax 43 42,Ad 44 1 43,Ac 45 1 44,Ag 46 45 1,Ax 47 42,Ad 48 1 47,Aj 1 48 46]
def mY:List (aj×Kd):=
 [A7 49 0,AK 50 49 0 1,A5 51 0 50,A0 52 1 51 0 1,A7 53 3,A7 54 0,AK 55 54 0 1,A5 56 1 55,A0 57 1 56 0 1,od 58 (.slS (tm 52) (some (tm 53)) (some (tm 57))) (.read 0 1),
 od 59 (.build [(.int .i64 0),(.str []),(.str []),(.sl [] 0 (some 0)),(.sl [] 0 (some 0))] [(1,(1,(tm 58)))]) .pure,
 od 4 (.alloc [(.int .i64 0),(.str []),(.str []),(.sl [] 0 (some 0)),(.sl [] 0 (some 0))]) .eff]
def kg:List aj :=
 [⟨none,(.store 5 (tm 4) (tm 59)),none⟩]
def mX:LSO:=[Ad 60 1 4,Ac 61 1 60,B8 62 61]
def mW:LSO:=[Aa 63 0,AN 64 151 63 4,Aj 5 2 64]
def mV:LSO:=[Ad 65 0 4,Bd 1 65 3]
def mU:LSO:=[Aa 66 0,o1 67 (.call 150 [(tm 66),(.av (.int .u8 62))])]
def mT:LSO:=[Ad 68 0 4,Bd 1 68 5]
def lu:LSO:=[Aa 69 0,o1 70 (.call 150 [(tm 69),(.av (.int .u8 60))])]
def lr:LSO:=[Ad 71 0 4,Bd 1 71 6]
def lq:LSO:=[Aa 72 0,o1 73 (.call 150 [(tm 72),(.av (.int .u8 126))])]
def lp:LSO:=[Ad 74 0 4,Bd 1 74 8]
def ln:LSO:=[Aa 75 0,o1 76 (.call 150 [(tm 75),(.av (.int .u8 61))]),Ay 77 76]
def lm:LSO:=[Aa 78 0,AN 79 151 78 4,Aj 5 2 79]
def ll:LSO:=[Ab 5 0]
def lk:LSO:=[Al 6]
def lh:LSO:=[Al 7]
def k9:LSO:=[Aa 80 0,o1 81 (.call 150 [(tm 80),(.av (.int .u8 41))]),Ay 82 81]
def kZ:LSO:=[Aa 83 0,Ax 84 83,Ad 85 1 84,Ac 86 1 85,Aa 87 0,Ax 88 87,Ad 89 0 88,Ac 90 1 89,Aw 91 90,AH 92 86 91]
def kY:LSO:=[Aa 93 0,AN 94 151 93 4,Aj 5 2 94]
def kX:LSO:=[Aa 95 0,Ax 96 95,Ad 97 0 96,Ac 98 1 97,Aa 99 0,Ax 100 99,Ad 101 1 100,Ac 102 1 101,AB 103 98 102,Aa 8 103]
def kW:LSO:=[Aa 104 0,Ax 105 104,Ad 106 1 105,Ac 107 1 106,Ag 108 107 1,Ax 109 104,Ad 110 1 109,Aj 1 110 108]
def kV:LSO:=[Aa 111 8,o1 112 (.bin .eql (tm 111) (.av (.int .u8 42)))]
def kU:LSO:=[Aa 113 5,Ag 114 113 1,Aa 5 114]
def kS:LSO:=[Aa 115 6,Aa 116 7,AT 117 116,Bq 118 117,Bj 119 115 118,Aa 6 119]
def kQ:LSO:=[Al 7]
def kP:LSO:=[Aa 120 8,o1 121 (.bin .eql (tm 120) (.av (.int .u8 92)))]
def kO:LSO:=[Aa 122 0,Ax 123 122,Ad 124 1 123,Ac 125 1 124,Ag 126 125 2,Aa 127 0,Ax 128 127,Ad 129 0 128,Ac 130 1 129,Aw 131 130,
 o1 132 (.bin .gtr (tm 126) (tm 131))]
def kL:LSO:=[Aa 133 0,AN 134 151 133 4,Aj 5 2 134]
def kK:LSO:=[Aa 136 0,Ax 137 136,Ad 138 0 137,Ac 139 1 138,Aa 140 0,Ax 141 140,Ad 142 1 141,Ac 143 1 142,Aa 144 0,Ax 145 144,Ad 146 1 145,Ac 147 1 146,
 Ag 148 147 2,BA 149 139 143 148,Ai 150 189 149,Aa 135 150,Aq 151 135,Au 152 135,Aa 9 151,Aa 10 152]
def kJ:LSO:=[Aa 153 10,Ay 154 153]
def kI:LSO:=[Aa 155 0,AN 156 151 155 4,Aj 5 2 156]
def kE:LSO:=[Aa 157 7,Aa 158 9,B6 159 158 0,AM 160 159,AI 161 157 160,Aa 7 161]
def kC:LSO:=[Aa 162 0,Ax 163 162,Ad 164 1 163,Ac 165 1 164,Ag 166 165 2,Ax 167 162,Ad 168 1 167,Aj 1 168 166]
def kz:LSO:=[Aa 169 8,B9 170 169,Aa 171 170,.grp none 171 false
 [Ah 172 171 8,og 173 171 false (.bin .eql (tm 172) (.av (.int .u8 40)))]
 174 (tm 173)]
def ky:LSO:=[Aa 175 0,AN 176 151 175 4,Aj 5 2 176]
def kx:LSO:=[Aa 177 7,Aa 178 8,AM 179 178,AI 180 177 179,Aa 7 180]
def kw:LSO:=[Aa 181 6,Aa 182 7,AT 183 182,Bq 184 183,Bj 185 181 184,Aa 6 185]
def ku:LSO:=[Aa 186 5,An 187 186 0]
def kr:LSO:=[Aa 188 6,o1 189 (.iaddr 1 (tm 188) (iv 0)),Ac 190 1 189,Ad 191 2 4,Aj 1 191 190]
def kq:LSO:=[Ap 192 5 4,Aj 5 2 192]
def kp:LSO:=[Ad 193 0 4,Ac 194 1 193,AC 195 194 3]
def ko:LSO:=[Aa 196 0,AN 197 151 196 4,Aj 5 2 197]
def kn:LSO:=[Aa 198 5,An 199 198 1,Aa 200 199,.grp none 200 true
 [Af 201 200 6,og 202 200 true (.iaddr 1 (tm 201) (iv 0)),A6 203 200 1 202,Cv 204 200 203]
 205 (tm 204),Aa 206 205,.grp none 206 true
 [Af 207 206 6,og 208 206 true (.iaddr 1 (tm 207) (iv 1)),A6 209 206 1 208,Cv 210 206 209]
 211 (tm 210)]
def kl:LSO:=[Ad 212 0 4,Bd 1 212 7]
def kk:LSO:=[Ap 213 5 4,Aj 5 2 213]
def kj:LSO:=[Ad 214 0 4,Bd 1 214 4]
def ki:LSO:=[Aa 215 6,Am 216 215,Ab 217 0]
def kf:LSO:=[Ak 218 217 216]
def ke:LSO:=[Aa 219 217,Ao 220 1 215 217,Ac 221 1 220,Aa 11 219,Aa 12 221]
def kc:LSO:=[Aa 222 11,A3 223 222 0,Aa 224 223,.grp none 224 true
 [Af 225 224 11,Af 226 224 5,Bx 227 224 225 226]
 228 (tm 227),Aa 229 228,.grp none 229 true
 [Af 230 229 12,Cv 231 229 230]
 232 (tm 231)]
def kb:LSO:=[Aa 233 0,AN 234 151 233 4,Aj 5 2 234]
def j9:LSO:=[Aa 235 12,Cj 236 235]
def j8:LSO:=[Ab 13 1]
def j7:LSO:=[Aa 237 11,An 238 237 0]
def j6:LSO:=[Ab 13 0]
def j5:LSO:=[Aa 239 11,Aa 240 5,AH 241 239 240]
def jZ:LSO:=[Ab 13 2]
def jY:LSO:=[Ad 242 3 4,Ac 243 1 242,Aa 244 13,Aa 245 12,o1 246 (.build [(.int .i64 0),(.str [])] [(0,(1,(tm 244))),(1,(1,(tm 245)))]),
 o1 247 (.bslice false 2 1 [(.int .i64 0),(.str [])] [(0,(2,(tm 246)))]),o1 248 (.app 1 2 24 [(.int .i64 0),(.str [])] (tm 243) (tm 247)),Ad 249 3 4,Aj 1 249 248]
def jX:LSO:=[Ag 250 217 1,Aa 217 250]
def jW:LSO:=[Ap 251 5 4,Aj 5 2 251]
def gX:aQ:=⟨252,(aoC nh [] (aoC ng Cz (.seq (aoF 0 (.seq (.seq (.sdreg nf [.pure,(.read 0 0),.pure,(.read 0 0),.pure,(.read 0 0),.pure,(.read 0 0),(.read 0 0),.pure,.pure,.pure,(.read 0 0),.pure,(.read 0 0),.pure,.pure,(.read 0 0),.pure,(.read 0 0),.pure] CG) (aoG 41 0)) (.block 1 (.sreg mZ CA)))) (.seq (.dregM mY kg CG) (.seq (aoC mX Cx (aoE 62 (.sreg mW C7))) (aoC mV CD (.seq (aoC mU Cw (aoD 67 (.sreg mT CD) (aoC lu Cw (aoD 70 (.sreg lr CD) (aoC lq Cw (aoD 73 (.sreg lp CD) .skip)))))) (.seq (aoC ln Cx (aoE 77 (.sreg lm C7))) (aoC ll [] (aoC lk [] (aoC lh [] (.seq (aoF 2 (.seq (aoC k9 Cx (aoG 82 2)) (.block 3 (.seq (.seq (.sdreg kZ [.pure,(.read 0 0),.pure,(.read 0 0),.pure,(.read 0 0),.pure,(.read 0 0),(.read 0 0)] CK) (aoE 92 (.sreg kY C7))) (.seq (.sdreg kX [.pure,(.read 0 0),.pure,(.read 0 0),.pure,(.read 0 0),.pure,(.read 0 0)] CK) (aoC kW CA (aoC kV Cw (aoD 112 (aoC kU Cx (aoC kS C0 (.sreg kQ []))) (aoC kP Cw (aoD 121 (.seq (.seq (.sdreg kO [.pure,(.read 0 0),.pure,(.read 0 0),.pure,.pure,(.read 0 0),.pure,(.read 0 0),(.read 0 0)] CN) (aoE 132 (.sreg kL C7))) (.seq (.sdreg kK [.pure,(.read 0 0),.pure,(.read 0 0),.pure,(.read 0 0),.pure,(.read 0 0),.pure,(.read 0 0),.pure,(.read 0 0),.pure,(.read 0 0),(.read 0 0),.pure,.pure,.pure,.pure] [true,true,false,false,false,false,false,false,false,false,false,false,false,false,false,false,false,false,false,false]) (.seq (aoC kJ Cw (aoE 154 (.sreg kI C7))) (aoC kE C0 (.sreg kC CA))))) (aoC kz Cy (aoD 174 (aoC ky C7 .ret) (.sreg kx Cz))))))))))))) (aoC kw C0 (.seq (aoC ku Cw (aoD 187 (aoC kr CP (aoC kq CD .ret)) .skip)) (.seq (aoC kp Cx (aoE 195 (.sreg ko C7))) (.seq (aoC kn C0 (aoD 211 (aoC kl CD (aoC kk CD .ret)) .skip)) (aoC kj CD (.seq (aoC ki [] (aoF 4 (aoC kf [] (.seq (aoG 218 4) (.seq (.block 5 (aoC ke C6 (.seq (aoC kc C0 (aoE 232 (.sreg kb C7))) (aoC j9 Cw (aoD 236 (aoC j8 [] (.seq (aoC j7 Cw (aoD 238 (.sreg j6 []) (aoC j5 Cx (aoD 241 (.sreg jZ []) .skip)))) (.sreg jY CM))) .skip))))) (.sreg jX Cw)))))) (aoC jW CD .ret))))))))))))))))))),[(.cell true 5 2)]⟩
attribute [push_cast] nh ng nf mZ mY kg mX mW mV mU mT lu lr lq lp ln lm ll lk lh k9 kZ kY kX kW kV kU kS kQ kP kO kL kK kJ kI kE kC kz ky kx kw ku kr kq kp ko kn kl kk kj ki kf ke kc kb j9 j8 j7 j6 j5 jZ jY jX jW
theorem ym:aoH 152=aoI gX:=aoL
def Dq:LSO:=[Ba 2,Ab 3 0]
def Dp:LSO:=[Aa 6 0,Aw 7 6,A3 8 7 4096]
def Do:LSO:=[o1 9 (.build [(.int .i64 0),(.str []),(.str []),(.sl [] 0 (some 0)),(.sl [] 0 (some 0))] []),Aj 5 2 9,Ab 3 5]
def Dn:LSO:=[Aa 10 0,o1 11 (.build [(.str []),(.int .i64 0),(.int .i64 0),(.int .i64 0)] [(0,(1,(tm 10)))]),A4 12 11,Aa 4 12]
def Dm:LSO:=[Aa 13 4,AN 14 107 13 1,Ba 5,Aj 5 5 14]
def Dl:LSO:=[Aa 15 4,Ax 16 15,Ad 17 3 16,Ac 18 1 17,An 19 18 0,Aa 20 19,.grp none 20 true
 [Af 21 20 4,AY 22 20 21,AA 23 20 1 22,A6 24 20 1 23,Af 25 20 0,BQ 26 20 25,Bx 27 20 24 26]
 28 (tm 27)]
def Dk:LSO:=[Aa 29 4,Ax 30 29,Ad 31 3 30,Bd 1 31 4]
def Dj:LSO:=[Aa 32 4,Ax 33 32,Ad 34 3 33,Ac 35 1 34,AC 36 35 0]
def Di:List (aj×Kd):=
 [od 37 (.build [(.int .i64 0),(.str []),(.str []),(.sl [] 0 (some 0)),(.sl [] 0 (some 0))] []) .pure,A7 38 4,AK 39 38 0 1,A5 40 3 39,A0 41 1 40 0 1,
 (⟨none,(.store 5 (tm 2) (tm 37)),none⟩,.eff)]
def vB:List aj :=
 [⟨(some 3),(.mv (tm 41)),none⟩]
def Dh:LSO:=[Ap 42 5 5,Aj 5 2 42,Ab 3 0]
def tR:aQ:=⟨43,(aoC Dq [] (.seq (aoC Dp Cx (aoE 8 (.sreg Do Cw))) (aoC Dn Cy (aoC Dm Cx (.seq (aoC Dl C2 (aoD 28 (.sreg Dk CU) .skip)) (.seq (aoC Dj Cz (aoE 36 (.dregM Di vB C0))) (aoC Dh Cw .ret))))))),[(.cell true 5 2),(.tmp 3)]⟩
attribute [push_cast] Dq Dp Do Dn Dm Dl Dk Dj Di vB Dh
theorem S7:aoH 58=aoI tR:=aoL
attribute [push_cast] eC gX tR
end Go.Proofs.YtcmfcpjnhephaaaGreatDoor.Av
set_option maxRecDepth 100000
namespace Go.Proofs.YtcmfcpjnhephaaaGreatDoor.Av
open Go
variable {L:List Blk}{p i:Nat}{s a v:List UInt8}{n k:Int}{K:alp}{b:UInt8}{cp:Option Nat}{ts:List Typ}{ps:List Pc}
def jh:LSO:=[Ba 4]
def jg:LSO:=[Aa 7 0,o1 8 (.call 150 [(tm 7),(.av (.int .u8 40))]),Ay 9 8]
def jf:LSO:=[Aa 10 0,AN 11 151 10 4,Aj 5 4 11]
def je:LSO:=[Aa 12 0,Ax 13 12,Ad 14 2 13,Ac 15 1 14,Ag 16 15 1,Ax 17 12,Ad 18 2 17,Aj 1 18 16]
def jd:LSO:=[Aa 19 1,A3 20 19 64]
def jc:LSO:=[Aa 21 0,AN 22 151 21 6,Aj 5 4 22]
def ja:LSO:=[Aa 23 0,Ax 24 23,Ad 25 2 24,Ac 26 1 25,A3 27 26 1000]
def i8:LSO:=[Aa 28 0,AN 29 151 28 9,Aj 5 4 29]
def i7:LSO:=[Ab 5 0]
def i6:LSO:=[Aa 30 5,AF 31 30 3]
def iB:LSO:=[Aa 34 0,Aa 35 5,o1 36 (.idxS (.av (.str [38,124,33])) (tm 35)),Ar 37 150 34 36,Ay 38 37]
def iA:LSO:=[Aa 39 5,o1 40 (.build [(.int .i64 0),(.str []),(.str []),(.sl [] 0 (some 0)),(.sl [] 0 (some 0))] [(0,(1,(tm 39)))]),Ba 6,Aj 5 6 40]
def iz:LSO:=[Aa 41 5,An 42 41 2]
def iy:List (aj×Kd):=
 [A5 43 4 6,A0 44 1 43 0 1,A7 45 0,A7 46 1,od 47 (.bin .add (tm 46) (iv 1)) .pure,od 48 (.call 107 [(tm 45),(tm 47)]) .eff,
 od 49 (.bslice false 5 1 [(.int .i64 0),(.str []),(.str []),(.sl [] 0 (some 0)),(.sl [] 0 (some 0))] [(0,(5,(tm 48)))]) (.read 0 0)]
def gR:List aj :=
 [⟨(some 50),(.app 0 5 88 [(.int .i64 0),(.str []),(.str []),(.sl [] 0 (some 0)),(.sl [] 0 (some 0))] (tm 44) (tm 49)),none⟩,⟨(some 51),(.faddr 4 (tm 6)),none⟩,
 ⟨none,(.store 1 (tm 51) (tm 50)),none⟩]
def iw:LSO:=[Aa 52 5,AF 53 52 2,Aa 54 53,.grp none 54 true
 [Af 55 54 0,AY 56 54 55,AA 57 54 3 56,A6 58 54 1 57,AZ 59 54 58 0]
 60 (tm 59),Aa 61 60,.grp none 61 true
 [Af 62 61 0,AY 63 61 62,AA 64 61 1 63,A6 65 61 1 64,Af 66 61 0,AY 67 61 66,AA 68 61 0 67,A6 69 61 1 68,BQ 70 61 69,Bx 71 61 65 70]
 72 (tm 71),Aa 73 72,.grp none 73 true
 [Af 74 73 0,AY 75 73 74,AA 76 73 0 75,A6 77 73 1 76,Af 78 73 0,AY 79 73 78,AA 80 73 1 79,A6 81 73 1 80,AX 82 73 77 81,og 83 73 true (.bin .eql (tm 82) (.av (.int .u8 40)))]
 84 (tm 83)]
def iu:List (aj×Kd):=
 [A5 85 4 6,A0 86 1 85 0 1,A7 87 0,A7 88 1,od 89 (.bin .add (tm 88) (iv 1)) .pure,od 90 (.call 107 [(tm 87),(tm 89)]) .eff,
 od 91 (.bslice false 5 1 [(.int .i64 0),(.str []),(.str []),(.sl [] 0 (some 0)),(.sl [] 0 (some 0))] [(0,(5,(tm 90)))]) (.read 0 0)]
def gQ:List aj :=
 [⟨(some 92),(.app 1 5 88 [(.int .i64 0),(.str []),(.str []),(.sl [] 0 (some 0)),(.sl [] 0 (some 0))] (tm 86) (tm 91)),none⟩,⟨(some 93),(.faddr 4 (tm 6)),none⟩,
 ⟨none,(.store 1 (tm 93) (tm 92)),none⟩]
def ir:LSO:=[Aa 94 0,Ax 95 94,Ad 96 3 95,Ac 97 1 96,An 98 97 0,Aa 99 98,Af 100 99 0,og 101 99 true (.call 150 [(tm 100),(.av (.int .u8 41))]),Bp 102 99 101,
 o1 103 (.pick (tm 99) (tm 102) (.av (.bool false)))]
def iq:LSO:=[Aa 104 0,AN 105 151 104 4,Aj 5 4 105]
def io:LSO:=[Ap 106 5 6,Aj 5 4 106]
def il:LSO:=[Aa 32 5,Ag 33 32 1,Aa 5 33]
def ik:LSO:=[Aa 107 0,Ai 108 152 107,Aj 5 4 108]
def bN:aQ:=⟨109,(aoC jh [] (.seq (aoC jg Cx (aoE 9 (.sreg jf C7))) (aoC je CA (.seq (aoC jd Cw (aoE 20 (.sreg jc C7))) (.seq (aoC ja Cz (aoE 27 (.sreg i8 C7))) (.seq (aoC i7 [] (aoF 0 (.seq (aoC i6 Cw (aoG 31 0)) (.seq (.block 1 (.seq (aoC iB Cz (aoD 38 (.exit 1) .skip)) (aoC iA Cx (.seq (aoC iz Cw (aoD 42 (.dregM iy gR Dd) .skip)) (.seq (aoF 2 (.seq (.seq (.sdreg iw [.pure,.pure,.pure,.pure,(.read 0 0),.pure,(.read 0 0),.pure,.pure,.pure,.pure,(.read 0 0),.pure,(.read 0 0),.pure,(.read 0 0),.pure,(.read 0 0),(.read 0 0),.pure,.pure,.pure,.pure,(.read 0 0),.pure,(.read 0 0),.pure,(.read 0 0),.pure,(.read 0 0)] C4) (aoG 84 2)) (.block 3 (.dregM iu gQ Dd)))) (.seq (aoC ir CK (aoE 103 (.sreg iq C7))) (aoC io CD .ret))))))) (.sreg il Cx))))) (aoC ik C7 .ret))))))),[(.cell true 5 4)]⟩
attribute [push_cast] jh jg jf je jd jc ja i8 i7 i6 iB iA iz iy gR iw iu gQ ir iq io il ik
theorem eH:aZ Tryz.prog (λr i=>if r=14/\i=5 then 3 else if r=14/\i=7 then 0 else if r=16/\i=5 then 3 else 1) 107=some bN.raw:=aoL
attribute [push_cast] bN
set_option maxHeartbeats 8000000
set_option maxRecDepth 100000
abbrev rdR(s:List UInt8)(at_ n:Int):Blk:=.cells [.str s,.int .i64 at_,.int .i64 n,.int .i64 0]
theorem ac2{P:Program}{N:Nat}{own:Nat->Nat->Nat}{Q:Exit->Tm->List Blk->Prop}{T:Tm}{lc:b9}{L':List Blk}(e:L=L')(h:AW P N own lc Q T L'):AW P N own lc Q T L:=e▸h
theorem Zb{P:Program}{f:FuncId}{xs:List Opd}{T:Tm}{args:List AV}{k:AV->List Blk->Prop}(v:AV)(L2:List Blk)(h:ae P f args L λav L'=>av=v/\L'=L2)(hx:gC T xs=some args)(hk:k v L2):
 ∃v L2,EQv P ⟨none,.call f xs,none⟩ T L v L2/\k v L2:=⟨v,L2,by simp only[EQv,hx];exact h,hk⟩
theorem alg{a:Int}{v:AV}{X:List Blk}(hr:v.refs (λi=>decide (i<L.length))=true)(h:K v (L.set p (rdR s a n))):Fin L v (L.set p (rdR s a n)++X) K :=
 mE aoK (λhh k hk'=>by rcases anM hk' with e|e;exact hh k e;subst e;rfl) hr h
theorem aiz{a:Int}{c:UInt8}(hL:L[p]?=some (rdR s a n))(ha:a=i)(hi:i<s.length)(g3:s.getD i 0=c)(hs:s.length<=100)(h:K (.bool true) (L.set p (rdR s (a+1) n))):
  alo 150 [.ptr p 0,.int .u8 c.toNat] L K:=by
 subst ha;have g1:(i:Int)<(s.length:Int):=aoJ;have g2:=alm i aoJ;have hp:p<L.length:=(alq.1 hL).1;replace h:=hid h;refine aln qh ?_;have:=alg (L:=L) (p:=p) (s:=s) (a:=(i:Int)+1) (n:=n) (v:=.bool true) (X:=[]) (K:=K) rfl h.o;rwa[alY]at this
theorem aiA{a:Int}{c:UInt8}(hL:L[p]?=some (rdR s a n))(ha:a=i)(hi:i<s.length)(hc:(s.getD i 0).toNat≠c.toNat)(h:K (.bool false) L):
  alo 150 [.ptr p 0,.int .u8 c.toNat] L K:=by
 subst ha;have g1:(i:Int)<(s.length:Int):=aoJ;have hp:p<L.length:=(alq.1 hL).1;have g3:¬((s.getD i 0).toNat:Int)=(c.toNat:Int):=aoJ;replace h:=hid h;refine aln qh ?_;exact aa h.o
theorem rdM{a0 n0:Int}(hL:L[p]?=some (rdR s a0 n0)):∃M:Int->Int->List Blk,L=M a0 n0/\(∀x n,L.set p (rdR s x n)=M x n)/\(∀x n,(M x n).length=L.length)/\(∀x n (X:List Blk) y m,(M x n++X).set p (rdR s y m)=M y m++X)/\(∀x n (X:List Blk),(M x n++X)[p]?=some (rdR s x n)) /\
  (∀x n (X:List Blk),(M x n++X)[L.length]?=X[0]?)/\(∀x n (X:List Blk) A,(M x n++X).set L.length A=M x n++X.set 0 A)/\(∀x n (X:List Blk) k,(M x n++X)[L.length+k]?=X[k]?)/\(∀x n (X:List Blk) k A,(M x n++X).set (L.length+k) A=M x n++X.set k A)/\Hid (∀x n' (f:Nat->Bool),(∀k∈M a0 n0,k.refs f=true)->∀k∈M x n',k.refs f=true):=by
 have hp:p<L.length:=(alq.1 hL).1;obtain⟨M,hM⟩:∃M:Int->Int->List Blk,∀x n,L.set p (rdR s x n)=M x n:=⟨_,λx n=>rfl⟩;have m0:M a0 n0=L:=by rw[<- hM];obtain⟨_,e⟩:=alq.1 hL;rw[<- e];simp
 have m1:∀x n,(M x n).length=L.length:=λx n=>by rw[<- hM];simp
 have m2:∀x n (X:List Blk) y m,(M x n++X).set p (rdR s y m)=M y m++X:=λx n X y m=>by rw[amh _ _ (by rw[m1];exact hp),<- hM,<- hM,amM]
 have m3:∀x n (X:List Blk),(M x n++X)[p]?=some (rdR s x n):=λx n X=>by rw[aly (by rw[m1];exact hp),<- hM,alO,if_pos rfl,if_pos hp]
 have m4:∀x n (X:List Blk),(M x n++X)[L.length]?=X[0]?:=λx n X=>by rw[alT (by rw[m1];exact alr _),m1,amK]
 have m5:∀x n (X:List Blk) A,(M x n++X).set L.length A=M x n++X.set 0 A:=λx n X A=>by rw[amd _ _ (by rw[m1];exact alr _),m1,amK]
 have m6:∀x n (X:List Blk) k,(M x n++X)[L.length+k]?=X[k]?:=λx n X k=>by rw[alT (by rw[m1];omega),m1,aos]
 have m7:∀x n (X:List Blk) k A,(M x n++X).set (L.length+k) A=M x n++X.set k A:=λx n X k A=>by rw[amd _ _ (by rw[m1];omega),m1,aos]
 have m8:∀x n' (f:Nat->Bool),(∀k∈M a0 n0,k.refs f=true)->∀k∈M x n',k.refs f=true:=λx n' f hh k hk=>by rw[m0]at hh;rw[<- hM]at hk;rcases anM hk with e|e;exact hh k e;subst e;rfl
 exact⟨M,m0.symm,hM,m1,m2,m3,m4,m5,m6,m7,hid m8⟩
structure WE(s:List UInt8)(i:Nat)(a b v:UInt8):Prop where
 h0:s.getD i 0=a
 h1:s.getD (i+1) 0=b
 h2:s.getD (i+2) 0=61
 h3:s.getD (i+3) 0=v
 h4:s.getD (i+4) 0=41
 hi:i+5<=s.length
 hs:s.length<=100
 d1:(s.drop i).take 1=[a]
 d2:(s.drop i).take 2=[a,b]
 d3:(s.drop i).take 3=[a,b,61]
 t1:gh [a]=true
 t2:gh [a,b]=true
 t3:gh [a,b,61]=false
 v1:v.toNat≠41/\v.toNat≠42/\v.toNat≠92/\v.toNat≠0/\v.toNat≠40
abbrev RU(a b v:UInt8):List AV:=[.int .i64 3,.str [a,b],.str [v],.sl [] 0 (some 0),.sl [] 0 (some 0)]
theorem agi{a v:UInt8}(q:WE s i a b v)(hL:L[p]?=some (rdR s i n))(h:K (.agg (RU a b v)) (L.set p (rdR s ((i:Int)+5) n))):
  alo 152 [.ptr p 0] L K:=by
 obtain⟨h0,h1,h2,h3,h4,hi,hs,d1,d2,d3,t1,t2,t3,v1,v2,v3,v4,v5⟩:=q;obtain⟨N,m0,hM,n1,n2,n3,n4,n5,n6,n7,n8⟩:=rdM hL;rw[hM]at h;rw[m0];obtain⟨M,hN⟩:∃M:Int->List Blk,∀x,N x n=M x:=⟨λx=>N x n,λ_=>rfl⟩;have m1:=λx=>n1 x n
 have m2:=λx X y=>n2 x n X y n
 have m3:=λx X=>n3 x n X
 have m4:=λx X=>n4 x n X
 have m5:=λx X A=>n5 x n X A
 have m6:=λx X k=>n6 x n X k
 have m7:=λx X k A=>n7 x n X k A
 have m8:=λx f=>n8.o x n f
 simp only[hN]at h m1 m2 m3 m4 m5 m6 m7 m8⊢;replace m8:=hid m8;clear n1 n2 n3 n4 n5 n6 n7 n8 hN;clear hL hM m0;have w1:∀j:Nat,j<=10->IntKind.i64.wrap ((i:Int)+j+1)=(i:Int)+j+1:=λj hj=>ad aoJ aoJ
 replace w1:=hid w1;have no:∀(x:Int) (j:Nat) (c:UInt8),x=(j:Int)->j<s.length->(s.getD j 0).toNat≠c.toNat->∀{X:List Blk}{K:alp},K (.bool false) (M x++X)->alo 150 [.ptr p 0,.int .u8 c.toNat] (M x++X) K:=λx j c e hj hc X K q=>aiA (m3 x X) e hj hc q
 have yes:∀(x:Int) (j:Nat) (c:UInt8),x=(j:Int)->j<s.length->s.getD j 0=c->∀{X:List Blk}{K:alp},K (.bool true) (M (x+1)++X)->alo 150 [.ptr p 0,.int .u8 c.toNat] (M x++X) K:=λx j c e hj hc X K q=>aiz (m3 x X) e hj hc hs (by rw[m2];exact q)
 replace no:=hid no;replace yes:=hid yes;replace h:=hid h;have hsi:=hid (And.intro hi hs);refine aln ym ?_;refine ah (λm T' L'=>∃(j:Nat) (x:Int),m=2-j/\(j=0/\x=(i:Int)\/j=1/\x=(i:Int)+1\/j=2/\x=(i:Int)+1+1)/\T'=[(3,.int .i64 (i:Int)),(2,.ptr L.length 0),(0,.ptr p 0)]/\L'=M x++[.cells [.int .i64 0,.str [],.str [],.sl [] 0 (some 0),.sl [] 0 (some 0)]]) (CutS (b:=by simp[m1])) ⟨0,_,rfl,.inl ⟨rfl,rfl⟩,rfl,rfl⟩ ?_;rintro _ _ _ ⟨j,x,rfl,hj,rfl,rfl⟩;rcases hj with⟨rfl,rfl⟩|⟨rfl,rfl⟩|⟨rfl,rfl⟩;have g1:(i:Int)<(s.length:Int):=aoJ;have g2:=alm i aoJ;have g3:List.take (((i:Int)+1).toNat-i) (List.drop i s)=[a]:=by rw[show((i:Int)+1).toNat-i=1 by omega];exact d1
 have g4:((i:Int)+1).toNat<=s.length:=aoJ;have g5:i<=((i:Int)+1).toNat:=aoJ;have kk1:Hid (Ctr Tryz.prog 134 [.str [a]] (.bool true)):=hid λq=>P4 aoK (by rw[t1];exact q)
 clear d1 d2 d3 t1 t2 t3;refine wk ?_;exact aoO aoJ (CutL (b:=by simp[m1])) ⟨1,_,rfl,.inr (.inl ⟨rfl,rfl⟩),rfl,rfl⟩;have g0:(i:Int)+1<(s.length:Int):=aoJ;have g2:IntKind.i64.wrap ((i:Int)+1+1)=(i:Int)+1+1:=ad aoJ aoJ;have g3:List.take (((i:Int)+1+1).toNat-i) (List.drop i s)=[a,b]:=by rw[show((i:Int)+1+1).toNat-i=2 by omega];exact d2
 have kk1:Hid (Ctr Tryz.prog 134 [.str [a,b]] (.bool true)):=hid λq=>P4 aoK (by rw[t2];exact q)
 clear d1 d2 d3 t1 t2 t3;refine wk ?_;exact aoO aoJ (CutL (b:=by simp[m1])) ⟨2,_,rfl,.inr (.inr ⟨rfl,rfl⟩),rfl,rfl⟩;have g0:(i:Int)+1+1<(s.length:Int):=aoJ;have g2:IntKind.i64.wrap ((i:Int)+1+1+1)=(i:Int)+1+1+1:=ad aoJ aoJ;have g3:List.take (((i:Int)+1+1+1).toNat-i) (List.drop i s)=[a,b,61]:=by rw[show((i:Int)+1+1+1).toNat-i=3 by omega];exact d3
 have g4:List.take (((i:Int)+1+1).toNat-i) (List.drop i s)=[a,b]:=by rw[show((i:Int)+1+1).toNat-i=2 by omega];exact d2
 have kk1:Hid (Ctr Tryz.prog 134 [.str [a,b,61]] (.bool false)):=hid λq=>P4 aoK (by rw[t3];exact q)
 clear d1 d2 d3 t1 t2 t3;refine wk ?_;have b0:((i:Int)+1+1)=((i+2:Nat):Int):=aoJ;have kk1:Hid (∀{X:List Blk}{K:alp},K (.bool false) (M ((i:Int)+1+1)++X)->alo 150 [.ptr p 0,.int .u8 62] (M ((i:Int)+1+1)++X) K):=hid (no.o _ (i+2) 62 b0 aoJ (by rw[h2];decide));have kk2:Hid (∀{X:List Blk}{K:alp},K (.bool false) (M ((i:Int)+1+1)++X)->alo 150 [.ptr p 0,.int .u8 60] (M ((i:Int)+1+1)++X) K):=hid (no.o _ (i+2) 60 b0 aoJ (by rw[h2];decide));have kk3:Hid (∀{X:List Blk}{K:alp},K (.bool false) (M ((i:Int)+1+1)++X)->alo 150 [.ptr p 0,.int .u8 126] (M ((i:Int)+1+1)++X) K):=hid (no.o _ (i+2) 126 b0 aoJ (by rw[h2];decide));have kk4:Hid (∀{X:List Blk}{K:alp},K (.bool true) (M ((i:Int)+1+1+1)++X)->alo 150 [.ptr p 0,.int .u8 61] (M ((i:Int)+1+1)++X) K):=hid (yes.o _ (i+2) 61 b0 aoJ h2);clear b0 g2 g3 g4;refine wk ?_;clear kk1 kk2 kk3 kk4;refine bF (l:=[]) (n:=0) 7 1 rfl (alU 1).symm ?_;refine bF (l:=[]) (n:=0) 6 1 rfl (alU 1).symm ?_;have q3:∀z,((v.toNat:Int)=z->False)->¬(v.toNat:Int)=z:=λz e=>e
 have e42:¬(v.toNat:Int)=42:=aoJ;have e92:¬(v.toNat:Int)=92:=aoJ;have e00:¬(v.toNat:Int)=0:=aoJ;have e40:¬(v.toNat:Int)=40:=aoJ;clear q3;obtain⟨B1,hB1⟩:=alj (Blk.cells [AV.int IntKind.i64 0,AV.str [],AV.str [],AV.sl [] 0 (some 0),AV.sl [] 0 (some 0)]);obtain⟨B2,hB2⟩:=alj (Blk.cells [AV.int IntKind.i64 3,AV.str [a,b],AV.str [],AV.sl [] 0 (some 0),AV.sl [] 0 (some 0)]);rw[hB1,hB2];refine ac2 (L':=M ((i:Int)+1+1+1)++[B1,B2,.spare 0 1,.spare 0 1]) aoK ?_;have l1:(M ((i:Int)+1+1+1)++[B1,B2]).length=L.length+2:=by simp[m1]
 have l2:(M ((i:Int)+1+1+1)++[B1,B2]++[Blk.spare 0 1]).length=L.length+3:=by simp[m1]
 rw[l1,l2];clear l1 l2;refine ah (λm T' L'=>∃(j:Nat) (x:Int) (C:List AV),m=1-j/\(j=0/\x=(i:Int)+1+1+1/\C=[]\/j=1/\x=(i:Int)+1+1+1+1/\C=[.int .u8 v.toNat])/\T'=[(7,.gsl C j (L.length+2) 1),(6,.gsl [] 0 (L.length+3) 1),(5,.int .i64 0),(4,.ptr (L.length+1) 0),(2,.ptr L.length 0),(0,.ptr p 0)]/\L'=M x++[B1,B2,.spare j 1,.spare 0 1]) (CutS (b:=by simp[m1])) ⟨0,_,_,rfl,.inl ⟨rfl,rfl,rfl⟩,rfl,rfl⟩ ?_;rintro _ _ _ ⟨j,x,C,rfl,hj,rfl,rfl⟩;rcases hj with⟨rfl,rfl,rfl⟩|⟨rfl,rfl,rfl⟩;have g1:¬(i:Int)+1+1+1=(s.length:Int):=aoJ;have g5:(i:Int)+1+1+1<(s.length:Int):=aoJ;have g2:IntKind.i64.wrap ((i:Int)+1+1+1+1)=(i:Int)+1+1+1+1:=ad aoJ aoJ;have g3:s.getD ((i:Int)+1+1+1).toNat 0=v:=by rw[show((i:Int)+1+1+1).toNat=i+3 by omega];exact h3
 have g4:(0:Int)<=(i:Int)+1+1+1:=aoJ;have kk1:Hid (∀{X:List Blk}{K:alp},K (.bool false) (M ((i:Int)+1+1+1)++X)->alo 150 [.ptr p 0,.int .u8 41] (M ((i:Int)+1+1+1)++X) K):=hid (no.o _ (i+3) 41 aoJ aoJ (by rw[h3];exact v1));refine wk ?_;exact aoO aoJ (CutS (b:=by simp[m1])) ⟨1,_,_,rfl,.inr ⟨rfl,rfl,rfl⟩,rfl,rfl⟩;have kk1:Hid (∀{X:List Blk}{K:alp},K (.bool true) (M ((i:Int)+1+1+1+1+1)++X)->alo 150 [.ptr p 0,.int .u8 41] (M ((i:Int)+1+1+1+1)++X) K):=hid (yes.o _ (i+4) 41 aoJ aoJ h4);subst hB1 hB2;have u1:Z3 (AV.int IntKind.u8 v.toNat)=true:=rfl;have u2:List.map UZ [AV.int IntKind.u8 v.toNat]=[v]:=by simp[UZ]
 refine wk ?_;rw[show(i:Int)+1+1+1+1+1=(i:Int)+5 by omega];exact mE (by simp[m1]) (λhh=>m8.o _ _ hh) rfl h.o
theorem UP{a v:UInt8}(q:WE s (i+1) a b v)(h0:s.getD i 0=40)(ha:a.toNat≠38/\a.toNat≠124/\a.toNat≠33){d:Int}(hn:0<=n)(hn2:n<1000)(hd:d<=64)(hL:L[p]?=some (rdR s i n))(h:K (.agg (RU a b v)) (L.set p (rdR s ((i:Int)+6) (n+1)))):
  alo 107 [.ptr p 0,.int .i64 d] L K:=by
 obtain⟨M,m0,hM,m1,m2,m3,m4,m5,_,_,m8⟩:=rdM hL;rw[hM]at h;rw[m0];clear hL hM m0;have e1:((i+1:Nat):Int)=(i:Int)+1:=rfl;obtain⟨f0,f1⟩:s.getD (i+1) 0=a/\i+1+5<=s.length/\s.length<=100:=⟨q.h0,q.hi,q.hs⟩;have kk1:Hid (∀{X:List Blk}{K:alp},K (.bool true) (M ((i:Int)+1) n++X)->alo 150 [.ptr p 0,.int .u8 40] (M i n++X) K):=hid λq=>aiz (c:=40) (m3 _ _ _) rfl aoJ h0 f1.2 (by rw[m2];exact q)
 have no:∀(c:UInt8),a.toNat≠c.toNat->∀{X:List Blk}{K:alp},K (.bool false) (M ((i:Int)+1) (n+1)++X)->alo 150 [.ptr p 0,.int .u8 c.toNat] (M ((i:Int)+1) (n+1)++X) K:=λc hc X K q=>aiA (i:=i+1) (m3 _ _ X) aoJ aoJ (by rw[f0];exact hc) q
 have kk2:Hid (∀{X:List Blk}{K:alp},K (.bool false) (M ((i:Int)+1) (n+1)++X)->alo 150 [.ptr p 0,.int .u8 38] (M ((i:Int)+1) (n+1)++X) K):=hid (no 38 ha.1);have kk3:Hid (∀{X:List Blk}{K:alp},K (.bool false) (M ((i:Int)+1) (n+1)++X)->alo 150 [.ptr p 0,.int .u8 124] (M ((i:Int)+1) (n+1)++X) K):=hid (no 124 ha.2.1);have kk4:Hid (∀{X:List Blk}{K:alp},K (.bool false) (M ((i:Int)+1) (n+1)++X)->alo 150 [.ptr p 0,.int .u8 33] (M ((i:Int)+1) (n+1)++X) K):=hid (no 33 ha.2.2);have kk5:Hid (∀{X:List Blk}{K:alp},K (.agg (RU a b v)) (M ((i:Int)+1+5) (n+1)++X)->alo 152 [.ptr p 0] (M ((i:Int)+1) (n+1)++X) K):=hid λr=>agi q (by rw[e1];exact m3 _ _ _) (by rw[e1,m2];exact r)
 have g0:IntKind.i64.wrap (n+1)=n+1:=ad aoJ aoJ;have g1:¬1000<n+1:=aoJ;have g2:¬64<d:=aoJ;replace h:=hid h;clear no ha f0 f1 h0;refine aln eH ?_;refine ah (λm T' L'=>∃k:Nat,m=3-k/\k<=3/\T'=[(5,.int .i64 (k:Int)),(4,.ptr L.length 0),(0,.ptr p 0),(1,.int .i64 d)]/\L'=M ((i:Int)+1) (n+1)++[.cells [.int .i64 0,.str [],.str [],.sl [] 0 (some 0),.sl [] 0 (some 0)]]) (CutS (b:=by simp[m1])) ⟨0,rfl,aoJ,rfl,rfl⟩ ?_;rintro _ _ _ ⟨k,rfl,hk,rfl,rfl⟩;have hk:k=0\/k=1\/k=2\/k=3:=aoJ;rcases hk with rfl|rfl|rfl|rfl;refine wk ?_;exact aoO aoJ (CutS (b:=by simp[m1])) ⟨1,rfl,aoJ,rfl,rfl⟩;refine wk ?_;exact aoO aoJ (CutS (b:=by simp[m1])) ⟨2,rfl,aoJ,rfl,rfl⟩;refine wk ?_;exact aoO aoJ (CutS (b:=by simp[m1])) ⟨3,rfl,aoJ,rfl,rfl⟩
 .refine wk ?_;rw[show(i:Int)+1+5=(i:Int)+6 by omega]
  trace_state
  exact mE (by simp[m1]) (λhh=>m8.o _ _ _ hh) rfl h.o
theorem SG{ks:List AV}{nk:Nat}{ck:Option Nat}(hs:s.length<=100)(h1:∀q,AV.refsL q ks=true)(hf:∀{p:Nat}{L:List Blk}{K:alp},L[p]?=some (rdR s 0 0)->K (.agg [.int .i64 k,.str a,.str v,.sl [] 0 cp,.sl ks nk ck]) (L.set p (rdR s s.length n))->alo 107 [.ptr p 0,.int .i64 1] L K)(h:K (.tup [.agg [.int .i64 k,.str a,.str v,.sl [] 0 cp,.sl ks nk ck],.int .i64 0]) L):
  alo 58 [.str s] L K:=by
 replace hf:=@hid _ @hf;replace h:=hid h;have g1:¬(4096:Int)<(s.length:Int):=aoJ;have g2:¬(s.length:Int)<(s.length:Int):=aoJ;refine aln S7 ?_;refine hf.o aoK ?_;simp only[amd _ _ (aoq _ _),aos,anW,aof];refine aoR ?_;exact ab (by simp only[AV.refs,AV.refsL,h1,amr]) h.o
abbrev ae7:List UInt8:=[40,33,40,122,122,61,120,41,41]
theorem akI:WE ae7 3 122 122 120:=⟨rfl,rfl,rfl,rfl,rfl,by decide,by decide,rfl,rfl,rfl,by decide,by decide,by decide,by decide⟩
theorem aej(hL:L[p]?=some (rdR ae7 0 0))(h:K (.agg [.int .i64 2,.str [],.str [],.sl [] 0 (some 0),.sl [.int .i64 3,.str [122,122],.str [120],.sl [] 0 none,.sl [] 0 none] 1 none]) (L.set p (rdR ae7 9 2))):
  alo 107 [.ptr p 0,.int .i64 1] L K:=by
 have hp:p<L.length:=(alq.1 hL).1;obtain⟨M,m0,hM,m1,m2,m3,m4,m5,m6,m7,m8⟩:=rdM hL;rw[hM]at h;rw[m0];clear hL hM m0;have no:∀(i:Nat) (c:UInt8),i<9->∀n,((ae7).getD i 0).toNat≠c.toNat->∀{X:List Blk}{K:alp},K (.bool false) (M i n++X)->alo 150 [.ptr p 0,.int .u8 c.toNat] (M i n++X) K:=λi c hi n hc {X K} q=>aiA (i:=i) (m3 _ _ X) rfl hi hc q
 have yes:∀(i:Nat) (c:UInt8),i<9->∀n,(ae7).getD i 0=c->∀{X:List Blk}{K:alp},K (.bool true) (M ((i+1:Nat):Int) n++X)->alo 150 [.ptr p 0,.int .u8 c.toNat] (M i n++X) K:=λi c hi n hc {X K} q=>aiz (i:=i) (m3 _ _ X) rfl hi hc aoK (by rw[m2];exact q)
 have kk1:Hid (∀{X:List Blk}{K:alp},K (.bool true) (M 1 0++X)->alo 150 [.ptr p 0,.int .u8 40] (M 0 0++X) K):=hid (yes 0 40 aoJ 0 rfl);have kk2:Hid (∀{X:List Blk}{K:alp},K (.bool false) (M 1 1++X)->alo 150 [.ptr p 0,.int .u8 38] (M 1 1++X) K):=hid (no 1 38 aoJ 1 (by decide));have kk3:Hid (∀{X:List Blk}{K:alp},K (.bool false) (M 1 1++X)->alo 150 [.ptr p 0,.int .u8 124] (M 1 1++X) K):=hid (no 1 124 aoJ 1 (by decide));have kk4:Hid (∀{X:List Blk}{K:alp},K (.bool true) (M 2 1++X)->alo 150 [.ptr p 0,.int .u8 33] (M 1 1++X) K):=hid (yes 1 33 aoJ 1 rfl);have kk5:Hid (∀{X:List Blk}{K:alp},K (.bool true) (M 9 2++X)->alo 150 [.ptr p 0,.int .u8 41] (M 8 2++X) K):=hid (yes 8 41 aoJ 2 rfl);have kk6:Hid (∀{X:List Blk}{K:alp},K (.agg (RU 122 122 120)) (M 8 2++X)->alo 107 [.ptr p 0,.int .i64 2] (M 2 1++X) K):=hid λr=>UP (i:=2) akI rfl (by decide) aoJ aoJ aoJ (m3 _ _ _) (by rw[m2];exact r)
 have g0:IntKind.i64.wrap (0+1)=1:=rfl;replace h:=hid h;clear no yes;refine aln eH ?_;refine ah (λm T' L'=>∃k:Nat,m=2-k/\k<=2/\T'=[(5,.int .i64 (k:Int)),(4,.ptr L.length 0),(0,.ptr p 0),(1,.int .i64 1)]/\L'=M 1 1++[.cells [.int .i64 0,.str [],.str [],.sl [] 0 (some 0),.sl [] 0 (some 0)]]) (CutS (b:=by simp[m1])) ⟨0,rfl,aoJ,rfl,rfl⟩ ?_;rintro _ _ _ ⟨k,rfl,hk,rfl,rfl⟩;have hk:k=0\/k=1\/k=2:=aoJ;rcases hk with rfl|rfl|rfl;refine wk ?_;exact aoO aoJ (CutS (b:=by simp[m1])) ⟨1,rfl,aoJ,rfl,rfl⟩;refine wk ?_;exact aoO aoJ (CutS (b:=by simp[m1])) ⟨2,rfl,aoJ,rfl,rfl⟩;refine wk ?_;refine Zb (.agg (RU 122 122 120)) (M 8 2++[.cells [.int .i64 0,.str [],.str [],.sl [] 0 (some 0),.sl [] 0 (some 0)],.cells [.int .i64 2,.str [],.str [],.sl [] 0 (some 0),.sl [] 0 (some 0)]]) (kk6.o ⟨rfl,rfl⟩) rfl ?_;refine aoR ?_;obtain⟨BB,hBB⟩:=alj (Blk.cells [.int .i64 2,.str [],.str [],.sl [] 0 (some 0),.sl [.int .i64 3,.str [122,122],.str [120],.sl [] 0 none,.sl [] 0 none] 1 none]);rw[hBB];refine ah (λm T' L'=>m=0/\T'=[(6,.ptr (L.length+1) 0),(5,.int .i64 2),(4,.ptr L.length 0),(0,.ptr p 0),(1,.int .i64 1)]/\L'=M 8 2++[.cells [.int .i64 0,.str [],.str [],.sl [] 0 (some 0),.sl [] 0 (some 0)],BB]) (CutS (b:=by simp[m1])) ⟨rfl,rfl,rfl⟩ ?_;rintro _ _ _ ⟨rfl,rfl,rfl⟩;subst hBB;refine wk ?_;exact mE (by simp[m1]) (λhh=>m8.o _ _ _ hh) rfl h.o
abbrev adg(a1 b1 v1 a2 b2 v2:UInt8):List UInt8:=[40,124,40,a1,b1,61,v1,41,40,a2,b2,61,v2,41,41]
theorem aei{a1 b1 v1 a2 b2 v2:UInt8}(z1:WE (adg a1 b1 v1 a2 b2 v2) 3 a1 b1 v1)(z2:WE (adg a1 b1 v1 a2 b2 v2) 9 a2 b2 v2)(y1:a1.toNat≠38/\a1.toNat≠124/\a1.toNat≠33)(y2:a2.toNat≠38/\a2.toNat≠124/\a2.toNat≠33)(hL:L[p]?=some (rdR (adg a1 b1 v1 a2 b2 v2) 0 0))(h:K (.agg [.int .i64 1,.str [],.str [],.sl [] 0 none,.sl [.int .i64 3,.str [a1,b1],.str [v1],.sl [] 0 none,.sl [] 0 none,.int .i64 3,.str [a2,b2],.str [v2],.sl [] 0 none,.sl [] 0 none] 2 none]) (L.set p (rdR (adg a1 b1 v1 a2 b2 v2) 15 3))):
  alo 107 [.ptr p 0,.int .i64 1] L K:=by
 have hp:p<L.length:=(alq.1 hL).1;obtain⟨M,m0,hM,m1,m2,m3,m4,m5,m6,m7,m8⟩:=rdM hL;rw[hM]at h;rw[m0];clear hL hM m0;have no:∀(i:Nat) (c:UInt8),i<15->∀n,((adg a1 b1 v1 a2 b2 v2).getD i 0).toNat≠c.toNat->∀{X:List Blk}{K:alp},K (.bool false) (M i n++X)->alo 150 [.ptr p 0,.int .u8 c.toNat] (M i n++X) K:=λi c hi n hc {X K} q=>aiA (i:=i) (m3 _ _ X) rfl hi hc q
 have yes:∀(i:Nat) (c:UInt8),i<15->∀n,(adg a1 b1 v1 a2 b2 v2).getD i 0=c->∀{X:List Blk}{K:alp},K (.bool true) (M ((i+1:Nat):Int) n++X)->alo 150 [.ptr p 0,.int .u8 c.toNat] (M i n++X) K:=λi c hi n hc {X K} q=>aiz (i:=i) (m3 _ _ X) rfl hi hc aoK (by rw[m2];exact q)
 have kk1:Hid (∀{X:List Blk}{K:alp},K (.bool true) (M 1 0++X)->alo 150 [.ptr p 0,.int .u8 40] (M 0 0++X) K):=hid (yes 0 40 aoJ 0 rfl);have kk2:Hid (∀{X:List Blk}{K:alp},K (.bool false) (M 1 1++X)->alo 150 [.ptr p 0,.int .u8 38] (M 1 1++X) K):=hid (no 1 38 aoJ 1 (show UInt8.toNat 124≠UInt8.toNat 38 by decide));have kk3:Hid (∀{X:List Blk}{K:alp},K (.bool true) (M 2 1++X)->alo 150 [.ptr p 0,.int .u8 124] (M 1 1++X) K):=hid (yes 1 124 aoJ 1 rfl);have kk4:Hid (∀{X:List Blk}{K:alp},K (.bool true) (M 15 3++X)->alo 150 [.ptr p 0,.int .u8 41] (M 14 3++X) K):=hid (yes 14 41 aoJ 3 rfl);have q1:Hid (∀{X:List Blk}{K:alp},K (.agg (RU a1 b1 v1)) (M 8 2++X)->alo 107 [.ptr p 0,.int .i64 2] (M 2 1++X) K):=hid λr=>UP (i:=2) z1 rfl y1 aoJ aoJ aoJ (m3 _ _ _) (by rw[m2];exact r)
 have q2:Hid (∀{X:List Blk}{K:alp},K (.agg (RU a2 b2 v2)) (M 14 3++X)->alo 107 [.ptr p 0,.int .i64 2] (M 8 2++X) K):=hid λr=>UP (i:=8) z2 rfl y2 aoJ aoJ aoJ (m3 _ _ _) (by rw[m2];exact r)
 have g0:IntKind.i64.wrap (0+1)=1:=rfl;replace h:=hid h;clear no yes z1 z2 y1 y2;refine aln eH ?_;refine ah (λm T' L'=>∃k:Nat,m=2-k/\k<=1/\T'=[(5,.int .i64 (k:Int)),(4,.ptr L.length 0),(0,.ptr p 0),(1,.int .i64 1)]/\L'=M 1 1++[.cells [.int .i64 0,.str [],.str [],.sl [] 0 (some 0),.sl [] 0 (some 0)]]) (CutS (b:=by simp[m1])) ⟨0,rfl,aoJ,rfl,rfl⟩ ?_;rintro _ _ _ ⟨k,rfl,hk,rfl,rfl⟩;have hk:k=0\/k=1:=aoJ;rcases hk with rfl|rfl;refine wk ?_;exact aoO aoJ (CutS (b:=by simp[m1])) ⟨1,rfl,aoJ,rfl,rfl⟩;refine wk ?_;have e2:(M 2 1++[Blk.cells [.int .i64 0,.str [],.str [],.sl [] 0 (some 0),.sl [] 0 (some 0)],.cells [.int .i64 1,.str [],.str [],.sl [] 0 (some 0),.sl [] 0 (some 0)]]).length=L.length+2:=by simp[m1]
 refine Sr (L.length+1) 4 5 (c:=[.int .i64 1,.str [],.str [],.sl [] 0 (some 0),.sl [] 0 (some 0)]) (l:=[]) (n:=0) (by simp[m6]) rfl (alU 5).symm ?_;rw[e2];clear e2;obtain⟨B0,hB0⟩:=alj (Blk.cells [.int .i64 0,.str [],.str [],.sl [] 0 (some 0),.sl [] 0 (some 0)]);refine ac2 (L':=M 2 1++[B0,.cells [.int .i64 1,.str [],.str [],.sl [] 0 (some 0),.gsl [] 0 (L.length+2) 5],.spare 0 5]) (by rw[<- hB0];simp[m7]) ?_;refine ah (λm T' L'=>∃(j:Nat) (x n:Int) (C:List AV),m=2-j/\(j=0/\x=2/\n=1/\C=[]\/j=1/\x=8/\n=2/\C=[.int .i64 3,.str [a1,b1],.str [v1],.sl [] 0 none,.sl [] 0 none]\/j=2/\x=14/\n=3/\C=[.int .i64 3,.str [a1,b1],.str [v1],.sl [] 0 none,.sl [] 0 none,.int .i64 3,.str [a2,b2],.str [v2],.sl [] 0 none,.sl [] 0 none])/\T'=[(6,.ptr (L.length+1) 0),(5,.int .i64 1),(4,.ptr L.length 0),(0,.ptr p 0),(1,.int .i64 1)]/\L'=M x n++[B0,.cells [.int .i64 1,.str [],.str [],.sl [] 0 (some 0),.gsl C j (L.length+2) 5],.spare j 5]) (CutS (b:=by simp[m1])) ⟨0,_,_,_,rfl,.inl ⟨rfl,rfl,rfl,rfl⟩,rfl,rfl⟩ ?_;clear kk1 kk2 kk3;rintro _ _ _ ⟨j,x,n,C,rfl,hj,rfl,rfl⟩;rcases hj with⟨rfl,rfl,rfl,rfl⟩|⟨rfl,rfl,rfl,rfl⟩|⟨rfl,rfl,rfl,rfl⟩;refine wk ?_;refine Zb (.agg (RU a1 b1 v1)) (M 8 2++[B0,.cells [.int .i64 1,.str [],.str [],.sl [] 0 (some 0),.gsl [] 0 (L.length+2) 5],.spare 0 5]) (q1.o ⟨rfl,rfl⟩) rfl ?_;refine aoR ?_;exact aoO aoJ (CutS (b:=by simp[m1])) ⟨1,_,_,_,rfl,.inr (.inl ⟨rfl,rfl,rfl,rfl⟩),rfl,rfl⟩;refine wk ?_;refine Zb (.agg (RU a2 b2 v2)) (M 14 3++[B0,.cells [.int .i64 1,.str [],.str [],.sl [] 0 (some 0),.gsl [.int .i64 3,.str [a1,b1],.str [v1],.sl [] 0 none,.sl [] 0 none] 1 (L.length+2) 5],.spare 1 5]) (q2.o ⟨rfl,rfl⟩) rfl ?_;refine aoR ?_;exact aoO aoJ (CutS (b:=by simp[m1])) ⟨2,_,_,_,rfl,.inr (.inr ⟨rfl,rfl,rfl,rfl⟩),rfl,rfl⟩;subst hB0;refine wk ?_;refine bu ?_;simp only[AV.frz,AV.frzL];exact mE (by simp[m1]) (λhh=>m8.o _ _ _ hh) rfl h.o
abbrev tOr:List UInt8:=[40,124,40,122,122,61,120,41,40,99,110,61,97,41,41]
theorem akH:WE tOr 3 122 122 120:=⟨rfl,rfl,rfl,rfl,rfl,by decide,by decide,rfl,rfl,rfl,by decide,by decide,by decide,by decide⟩
theorem akG:WE tOr 9 99 110 97:=⟨rfl,rfl,rfl,rfl,rfl,by decide,by decide,rfl,rfl,rfl,by decide,by decide,by decide,by decide⟩
theorem agQ(hL:L[p]?=some (rdR tOr 0 0))(h:K (.agg [.int .i64 1,.str [],.str [],.sl [] 0 none,.sl [.int .i64 3,.str [122,122],.str [120],.sl [] 0 none,.sl [] 0 none,.int .i64 3,.str [99,110],.str [97],.sl [] 0 none,.sl [] 0 none] 2 none]) (L.set p (rdR tOr 15 3))):
 alo 107 [.ptr p 0,.int .i64 1] L K:=aei akH akG (by decide) (by decide) hL h
theorem Tq:∀(l:List Int) (o:Int),KK o l=1↔o=1/\∀x∈l,x=1
 |[],o=>by simp[KK]
 | x::r,o=>by
   rw[KK];by_cases h0:x=0
   .subst h0;simp
   .rw[if_neg h0];by_cases h1:x=1
    .subst h1;rw[if_pos rfl,Tq r o];simp
    .rw[if_neg h1,Tq r 2];simp[h1]
theorem PQ:∀(l:List Int) (o:Int),o≠0->(KK o l=0↔∃x∈l,x=0)
 |[],o,h=>by simp[KK,h]
 | x::r,o,h=>by
   rw[KK];by_cases h0:x=0
   .subst h0;simp
   .rw[if_neg h0];by_cases h1:x=1
    .subst h1;rw[if_pos rfl,PQ r o h];simp
    .rw[if_neg h1,PQ r 2 (by decide)];simp[show ¬(0:Int)=x from λe=>h0 e.symm]
theorem Xt(v:Int):sB v=0↔v=1:=by unfold sB;by_cases h:v=0;subst h;simp;rw[if_neg h];by_cases h1:v=1;simp[h1];simp[h1]
theorem afS(v:Int):sB v=1↔v=0:=by unfold sB;by_cases h:v=0;subst h;simp;rw[if_neg h];by_cases h1:v=1;simp[h1];simp[h1,h]
theorem ail(l:List Int):orV l=1↔∃x∈l,x=1:=by unfold orV W2;rw[afS,PQ _ _ (by decide)];constructor;rintro⟨x,hx,e⟩;obtain⟨y,hy,rfl⟩:=alt.1 hx;exact⟨y,hy,(Xt y).1 e⟩;rintro⟨x,hx,e⟩;exact⟨sB x,alt.2 ⟨x,hx,rfl⟩,(Xt x).2 e⟩
theorem xK{b:Bool}:tf1 b=1↔b=true:=by cases b<;>simp[tf1]
theorem Wv{α:Type}{l r:List α}{p:α->Bool}(h:∀x∈l,x∈r)(ha:l.any p=true):r.any p=true:=by obtain⟨x,hx,e⟩:=anb.1 ha;exact anb.2 ⟨x,h x hx,e⟩
theorem adR{l r:List Atr}(hs:∀n x,x∈cc l n->x∈cc r n)(h:RT ts l k a v ps=1):RT ts r k a v ps=1:=by unfold RT at h⊢;rcases hty:ez ts a with _|ty;rw[hty]at h;cases h;rw[hty]at h;simp only at h⊢;split at h;cases h;rename_i h8;rw[if_neg h8];unfold acH at h⊢;split at h;rename_i hk;rw[if_pos hk];rw[xK]at h⊢;rcases hv:cc l a with _|⟨x,t⟩;rw[hv]at h;simp at h;have:=hs a x (by rw[hv];simp);rcases hw:cc r a with _|⟨y,u⟩;rw[hw]at this;cases this;rfl;rename_i hk;rw[if_neg hk];split at h;rename_i hk2;rw[if_pos hk2];split at h;cases h;rename_i hn;rw[if_neg hn];rw[xK]at h⊢;unfold abD at h⊢;rw[hty]at h⊢;simp only at h⊢;rcases hm:bw ty.2.1 v with _|m;rw[hm]at h;simp at h;rw[hm]at h;simp only[inM]at h⊢;exact Wv (hs a) h;rename_i hk2;rw[if_neg hk2];split at h;rename_i hk3;rw[if_pos hk3];split at h;cases h;rename_i hn;rw[if_neg hn];rw[xK]at h⊢;exact Wv (hs a) h;rename_i hk3;rw[if_neg hk3];split at h;cases h;rename_i hn;rw[if_neg hn];rw[xK]at h⊢;exact Wv (hs a) h
variable {L:List Blk}{K:alp}
theorem aiq{syn:Int}{l:List Pc}{cap:Option Nat}(hn:l.length<=1000)(ht:∀p∈l,(p.2.length:Int)<=140737488351232)(h:K (.tup [.bool ((rW syn v l).getD false),.bool (rW syn v l).isSome]) L):
  alo 79 [.int .i64 syn,.str v,.sl (iP l) l.length cap] L K:=by
 refine abu aoJ ht ?_;revert h;rcases rW syn v l with _|c<;>exact λh=>h
theorem ajz{b:Bool}(h:K (.int .i64 (tf1 b)) L):alo 74 [.bool b] L K:=by
 cases b with
 | false =>
   replace h:Hid (K (.int .i64 0) L):=hid h;refine aln Kn ?_;exact aa h.o
 | true =>
   replace h:Hid (K (.int .i64 1) L):=hid h;refine aln Kn ?_;exact aa h.o
theorem akF{ty:Typ}{x:List UInt8}{ks:AV}{pt pf:Nat}(hp:L[pt]?=some (.cells (tyC ty)))(hf:L[pf]?=some (.cells [.int .i64 k,.str a,.str v,.sl (iP ps) ps.length cp,ks]))(hn:ps.length<=1000)(ht:∀p∈ps,(p.2.length:Int)<=140737488351232)(h:K (.bool ((rW ty.2.1 x ps).getD false)) L):alo 78 [.str x,.ptr pt 0,.ptr pf 0] L K:=by
 obtain⟨r,hr⟩:=alj ((rW ty.2.1 x ps).getD false);obtain⟨b,hb⟩:=alj ((rW ty.2.1 x ps).isSome);have kk1:Hid (Ctr Tryz.prog 79 [.int .i64 ty.2.1,.str x,.sl (iP ps) ps.length cp] (.tup [.bool r,.bool b])):=hid λq=>aiq hn ht (by rw[hr,hb];exact q)
 rw[hr]at h;replace h:=hid h;simp only[tyC]at hp;clear hr hb ht;refine aln Ur ?_;exact aa h.o
theorem aji{ty:Typ}{x:List UInt8}{ps ks:AV}{pt pf:Nat}(hp:L[pt]?=some (.cells (tyC ty)))(hf:L[pf]?=some (.cells [.int .i64 k,.str a,.str v,ps,ks]))(h:K (.bool (decide ((rT ty.2.1 x v).getD 0=0) ||(decide (0<(rT ty.2.1 x v).getD 0) == decide (k=5)))) L):alo 81 [.str x,.ptr pt 0,.ptr pf 0] L K:=by
 obtain⟨r,hr⟩:=alj ((rT ty.2.1 x v).getD 0);obtain⟨b,hb⟩:=alj ((rT ty.2.1 x v).isSome);have kk1:Hid (Ctr Tryz.prog 80 [.int .i64 ty.2.1,.str x,.str v] (.tup [.int .i64 r,.bool b])):=hid λq=>ZG (by rw[hr,hb];exact q)
 rw[hr]at h;replace h:=hid h;simp only[tyC]at hp;clear hr hb;refine aln Uq ?_;refine aa (Kto h.o (congrArg AV.bool ?_));by_cases h1:r=0<;>by_cases h2:0<r<;>by_cases h3:k=5<;>simp[h1,h2,h3]
theorem akE{capT:Option Nat}{c2:List AV}{n2:Nat}{cap2:Option Nat}{l:List Atr}{cap:Option Nat}(hts:ahi ts)(hin:InA ts l)(hl:l.length<=1100000)(hz:∀a∈l,a.2.length<=1100000):∀(f:Flt),WI f->∀{L:List Blk}{K:alp},K (.int .i64 (ofM ts l f)) L ->
  alo 31 [.agg [.sl (cj ts) ts.length capT,.sl c2 n2 cap2],.agg (fA f),.sl (bc l) l.length cap] L K:=by
 refine R5 λk a v ps ks ih hrd L K h=>?_
 simp only[FlB]at hrd;obtain⟨r1,r2,r3,r4,r5,r6⟩:=hrd;have ih2:∀x∈ks,∀{L:List Blk}{K:alp},K (.int .i64 (ofM ts l x)) L->alo 31 [.agg [.sl (cj ts) ts.length capT,.sl c2 n2 cap2],.agg (fA x),.sl (bc l) l.length cap] L K:=λx hx {L K} q=>ih x hx (So r6 x hx) q
 replace ih2:=@hid _ @ih2;clear ih r6;rw[ofM,ZI]at h;rw[Kk];obtain⟨PS,hPS⟩:∃P,P=iP ps:=⟨_,rfl⟩;obtain⟨KS,hKS⟩:∃P,P=fsA ks:=⟨_,rfl⟩;rw[<- hPS,<- hKS];replace hPS:=hid hPS;replace hKS:=hid hKS;by_cases hk:k=0\/k=1\/k=2;rw[if_pos hk]at h;obtain⟨V,hV⟩:∃V,V=ks.map (ofM ts l):=⟨_,rfl⟩;rw[<- hV]at h;replace hV:=hid hV;replace h:=hid h;have hnl:V.length=ks.length:=by rw[hV.o];simp
 have e2:∀A B:Blk,(L++[A,B]).length=L.length+2:=λA B=>aoK
 have stp:∀i:Nat,i<ks.length->∃q:Flt,Hid ((KS.drop (i*5)).take 5=fA q/\i*5+5<=KS.length/\(∀{L:List Blk}{K:alp},K (.int .i64 (ofM ts l q)) L->alo 31 [.agg [.sl (cj ts) ts.length capT,.sl c2 n2 cap2],.agg (fA q),.sl (bc l) l.length cap] L K)/\(i:Int)<(ks.length:Int)/\IntKind.i64.wrap ((i:Int)+1)=(i:Int)+1/\(V.take (i+1)).map (AV.int .i64)=(V.take i).map (AV.int .i64)++[.int .i64 (ofM ts l q)]):=λi hlt=>by
  refine⟨ks.getD i ZN,hid ⟨?_,?_,?_,aoJ,ad aoJ aoJ,?_⟩⟩;rw[hKS.o];exact YO hlt;rw[hKS.o,UO];omega;exact λq=>ih2.o _ (by simp[hlt]) q
  rw[alN aoJ,alW];congr 1;simp[hV.o,hlt]
 refine ac Pb (by simp[se]) ?_;simp only[se,am];rcases hk with rfl|rfl|rfl;refine wk ?_;refine bF (l:=[]) (n:=0) 7 1 rfl (alU 1).symm ?_;rw[e2];refine ah (λm T' L'=>∃(i:Nat) (C:List AV) (Y:List Blk),m=ks.length-i/\i<=ks.length/\Hid (C=(V.take i).map (AV.int .i64))/\T'=[(26,.int .i64 (i:Int)),(25,.int .i64 ks.length),(24,.sl KS ks.length none),(7,.gsl C i (L.length+2) 1),(4,.ptr (L.length+1) 0),(3,.ptr L.length 0),(2,.sl (bc l) l.length cap)]/\L'=L++(.cells [.sl (cj ts) ts.length capT,.sl c2 n2 cap2] :: .cells [.int .i64 0,.str a,.str v,.sl PS ps.length none,.sl KS ks.length none] :: .spare i 1::Y)) aoN ⟨0,[],[],rfl,alw _,hid rfl,rfl,aoK⟩ ?_;rintro _ _ _ ⟨i,C,Y,rfl,hi,hC,rfl,rfl⟩;by_cases hlt:i<ks.length;obtain⟨q,hq⟩:=stp i hlt;obtain⟨e3,e4,e5,g1,g2,e6⟩:=hq.o;have kk1:=@hid _ @e5;clear e5 hq;have hC2:=hid (show C++[.int .i64 (ofM ts l q)]=(V.take (i+1)).map (AV.int .i64)by rw[hC.o,e6]);clear e6;simp only[O9]at e3 kk1;refine wk ?_;exact aoO aoJ aoN ⟨i+1,_,_,rfl,hlt,hC2,rfl,rfl⟩;have hke:i=ks.length:=aoJ;subst hke;have g1:¬(ks.length:Int)<(ks.length:Int):=aoJ;have hC2:=hC.o;rw[<- hnl,alF]at hC2;subst hC2;clear hC stp;replace hnl:=hid hnl;have kk1:Hid (∀{i:Nat}{L:List Blk}{K:alp},K (.int .i64 (W2 V)) L->alo 71 [.gsl (V.map (AV.int .i64)) ks.length i 1] L K):=hid λq=>by rw[<- hnl.o];exact Ww (by have:=hnl.o;omega) q
 have h':=hid (show K (.int .i64 (W2 V)) L by have:=h.o;simpa[XK]using this);refine wk ?_;exact ab rfl h'.o;refine wk ?_;refine bF (l:=[]) (n:=0) 7 1 rfl (alU 1).symm ?_;rw[e2];refine ah (λm T' L'=>∃(i:Nat) (C:List AV) (Y:List Blk),m=ks.length-i/\i<=ks.length/\Hid (C=(V.take i).map (AV.int .i64))/\T'=[(26,.int .i64 (i:Int)),(25,.int .i64 ks.length),(24,.sl KS ks.length none),(7,.gsl C i (L.length+2) 1),(4,.ptr (L.length+1) 0),(3,.ptr L.length 0),(2,.sl (bc l) l.length cap)]/\L'=L++(.cells [.sl (cj ts) ts.length capT,.sl c2 n2 cap2] :: .cells [.int .i64 1,.str a,.str v,.sl PS ps.length none,.sl KS ks.length none] :: .spare i 1::Y)) aoN ⟨0,[],[],rfl,alw _,hid rfl,rfl,aoK⟩ ?_;rintro _ _ _ ⟨i,C,Y,rfl,hi,hC,rfl,rfl⟩;by_cases hlt:i<ks.length;obtain⟨q,hq⟩:=stp i hlt;obtain⟨e3,e4,e5,g1,g2,e6⟩:=hq.o;have kk1:=@hid _ @e5;clear e5 hq;have hC2:=hid (show C++[.int .i64 (ofM ts l q)]=(V.take (i+1)).map (AV.int .i64)by rw[hC.o,e6]);clear e6;simp only[O9]at e3 kk1;refine wk ?_;exact aoO aoJ aoN ⟨i+1,_,_,rfl,hlt,hC2,rfl,rfl⟩;have hke:i=ks.length:=aoJ;subst hke;have g1:¬(ks.length:Int)<(ks.length:Int):=aoJ;have hC2:=hC.o;rw[<- hnl,alF]at hC2;subst hC2;clear hC stp;replace hnl:=hid hnl;have kk1:Hid (∀{i:Nat}{L:List Blk}{K:alp},K (.int .i64 (orV V)) L->alo 72 [.gsl (V.map (AV.int .i64)) ks.length i 1] L K):=hid λq=>by rw[<- hnl.o];exact eY (by simpa only[AV.frzL,AV.frz,xw]using ala (cap:=none) (by have:=hnl.o;omega) q)
 have h':=hid (show K (.int .i64 (orV V)) L by have:=h.o;simpa[XK]using this);refine wk ?_;exact ab rfl h'.o;refine wk ?_;refine bF (l:=[]) (n:=0) 7 1 rfl (alU 1).symm ?_;rw[e2];refine ah (λm T' L'=>∃(i:Nat) (C:List AV) (Y:List Blk),m=ks.length-i/\i<=ks.length/\Hid (C=(V.take i).map (AV.int .i64))/\T'=[(26,.int .i64 (i:Int)),(25,.int .i64 ks.length),(24,.sl KS ks.length none),(7,.gsl C i (L.length+2) 1),(4,.ptr (L.length+1) 0),(3,.ptr L.length 0),(2,.sl (bc l) l.length cap)]/\L'=L++(.cells [.sl (cj ts) ts.length capT,.sl c2 n2 cap2] :: .cells [.int .i64 2,.str a,.str v,.sl PS ps.length none,.sl KS ks.length none] :: .spare i 1::Y)) aoN ⟨0,[],[],rfl,alw _,hid rfl,rfl,aoK⟩ ?_;rintro _ _ _ ⟨i,C,Y,rfl,hi,hC,rfl,rfl⟩;by_cases hlt:i<ks.length;obtain⟨q,hq⟩:=stp i hlt;obtain⟨e3,e4,e5,g1,g2,e6⟩:=hq.o;have kk1:=@hid _ @e5;clear e5 hq;have hC2:=hid (show C++[.int .i64 (ofM ts l q)]=(V.take (i+1)).map (AV.int .i64)by rw[hC.o,e6]);clear e6;simp only[O9]at e3 kk1;refine wk ?_;exact aoO aoJ aoN ⟨i+1,_,_,rfl,hlt,hC2,rfl,rfl⟩;have hke:i=ks.length:=aoJ;subst hke;have g1:¬(ks.length:Int)<(ks.length:Int):=aoJ;have hC2:=hC.o;rw[<- hnl,alF]at hC2;subst hC2;clear hC stp;replace hnl:=hid hnl;by_cases h1:ks.length=1;obtain⟨x,rfl⟩:∃x,V=[x]:=List.length_eq_one_iff.1 (hnl.o.trans h1);have h':=hid (show K (.int .i64 (sB x)) L by have:=h.o;simpa[XK]using this);rw[h1];refine wk ?_;refine RO ?_;refine aoR ?_;exact ab rfl h'.o;have g3:¬(ks.length:Int)=1:=aoJ;have h':=hid (show K (.int .i64 2) L by have:=h.o;simpa[XK,show V.length≠1 by rw[hnl.o];exact h1]using this)
 refine wk ?_;exact ab rfl h'.o;rw[if_neg hk]at h;unfold RT at h;have k0:¬k=0:=λe=>hk (.inl e)
 have k1:¬k=1:=λe=>hk (.inr (.inl e))
 have k2:¬k=2:=λe=>hk (.inr (.inr e))
 have hn:bv a:=by unfold bv;omega
 refine aln Pb ?_;refine abU hts.1 hts.2.1 hn ?_;unfold Ki;rcases hty:ez ts a with _|ty;rw[hty]at h;replace h:=hid h;simp only[anB,amO,tyC];clear hty;refine aoR ?_;exact ab rfl h.o;rw[hty]at h;simp only at h;simp only[amj,amQ,tyC];by_cases m1:k<0;rw[if_pos (.inl m1)]at h;replace h:=hid h;clear hty;refine aoR ?_;exact ab rfl h.o;by_cases m2:8<k;rw[if_pos (.inr m2)]at h;replace h:=hid h;clear hty;refine aoR ?_;exact ab rfl h.o;rw[if_neg (λe=>e.elim m1 m2)]at h;have hW:(cc l a).length<=1100000:=aaV hz;have kk1:Hid (Ctr Tryz.prog 52 [.sl (bc l) l.length cap,.str a] (F9 (cc l a))):=hid λq=>abV hl hin.1 (λx hx=>⟨(XO hts hin hx).1,hz x hx⟩) hn q
 have kk3:Hid (Ctr Tryz.prog 75 [.agg [.sl (cj ts) ts.length capT,.sl c2 n2 cap2],.sl (bc l) l.length cap,.str a,.str v] (.bool (abD ts l a v))):=hid λq=>aj7 hts hin hl hz hn q
 obtain⟨nn,hnn⟩:=alj ((bw ty.2.1 v).getD []);obtain⟨nb,hnb⟩:=alj ((bw ty.2.1 v).isSome);have kk2:Hid (Ctr Tryz.prog 48 [.int .i64 ty.2.1,.str v] (.tup [.str nn,.bool nb])):=hid λq=>aim (by rw[hnn,hnb];exact q)
 obtain⟨on,hon⟩:=alj ((rT ty.2.1 v v).getD 0);obtain⟨ob,hob⟩:=alj ((rT ty.2.1 v v).isSome);have kk4:Hid (Ctr Tryz.prog 80 [.int .i64 ty.2.1,.str v,.str v] (.tup [.int .i64 on,.bool ob])):=hid λq=>ZG (by rw[hon,hob];exact q)
 have kk5:Hid (∀{b:Bool}{L:List Blk}{K:alp},K (.int .i64 (tf1 b)) L->alo 74 [.bool b] L K):=hid λq=>ajz q
 have kk6:Hid (Ctr Tryz.prog 76 [.agg [.int .i64 4,.str [97],.str [],.sl PS ps.length none,.sl [] 0 (some 0)]] (.int .i64 (if tz ps=true then 0 else 4))):=hid λq=>by rw[hPS.o];exact ql aoJ q
 unfold acH at h;have hnone:(bw ty.2.1 v).isNone = !nb:=by rw[<- hnb];cases bw ty.2.1 v<;>rfl
 have onone:(rT ty.2.1 v v).isNone = !ob:=by rw[<- hob];cases rT ty.2.1 v v<;>rfl
 rw[hnone,onone]at h;obtain⟨W,hWe⟩:=alj (cc l a);obtain⟨H,hHe⟩:=alj (abD ts l a v);rw[hWe,hHe]at h;rw[hWe]at hW kk1;rw[hHe]at kk3;simp only[F9]at kk1;have hc:k=3\/k=4\/k=5\/k=6\/k=7\/k=8:=aoJ;clear hWe hHe hnone onone hob hon hnb hnn hty hn ih2 k0 k1 k2 m1 m2 hk;rcases hc with rfl|rfl|rfl|rfl|rfl|rfl;cases nb with
 | false =>
   replace h:=hid (show K (.int .i64 2) L by simpa using h);refine aoR ?_;exact ab rfl h.o
 | true =>
   replace h:=hid (show K (.int .i64 (tf1 H)) L by simpa using h);refine aoR ?_;exact ab rfl h.o
 obtain⟨R,hR⟩:=alj (W.any (λx=>(rW ty.2.1 x ps).getD false));rw[hR]at h;replace hR:=hid hR;by_cases s3:3<ty.2.1;replace h:=hid (show K (.int .i64 2) L by simpa[s3]using h);refine aoR ?_;exact ab rfl h.o;cases hok:tz ps with
 | false =>
   replace h:=hid (show K (.int .i64 2) L by simpa[hok]using h);rw[hok]at kk6;simp only[alG,if_false]at kk6;clear hok;refine aoR ?_;exact ab rfl h.o
 | true =>
   replace h:=hid (show K (.int .i64 (tf1 R)) L by simpa[hok,s3]using h);rw[hok]at kk6;simp only[if_true]at kk6;clear hok;refine aoR ?_;refine ahc (q:=λx=>(rW ty.2.1 x ps).getD false) hW (λx K _ q=>akF (ty:=ty) (k:=4) (a:=a) (v:=v) (cp:=none) (ks:=.sl KS ks.length none) (by simp[tyC]) (by rw[<- hPS.o];simp) aoJ (λp hp=>by have:=r4 p hp;omega) q) ?_;rw[hR.o];refine aoR ?_;exact ab rfl h.o
 obtain⟨R,hR⟩:=alj (W.any (λx=>decide ((rT ty.2.1 x v).getD 0=0) ||(decide (0<(rT ty.2.1 x v).getD 0) == decide ((5:Int)=5))));cases ob with
 | false =>
   replace h:=hid (show K (.int .i64 2) L by simpa using h);clear hR;refine aoR ?_;exact ab rfl h.o
 | true =>
   replace h:=hid (show K (.int .i64 (tf1 R)) L by rw[if_neg (by decide),if_neg (by decide),if_neg (by decide),if_neg (by decide)]at h;rw[<- hR];exact h)
   replace hR:=hid hR;refine aoR ?_;refine ahc (q:=λx=>decide ((rT ty.2.1 x v).getD 0=0) ||(decide (0<(rT ty.2.1 x v).getD 0) == decide ((5:Int)=5))) hW (λx K _ q=>aji (ty:=ty) (k:=5) (a:=a) (v:=v) (ps:=.sl PS ps.length none) (ks:=.sl KS ks.length none) (by simp[tyC]) aoK q) ?_;rw[hR.o];refine aoR ?_;exact ab rfl h.o
 obtain⟨R,hR⟩:=alj (W.any (λx=>decide ((rT ty.2.1 x v).getD 0=0) ||(decide (0<(rT ty.2.1 x v).getD 0) == decide ((6:Int)=5))));cases ob with
 | false =>
   replace h:=hid (show K (.int .i64 2) L by simpa using h);clear hR;refine aoR ?_;exact ab rfl h.o
 | true =>
   replace h:=hid (show K (.int .i64 (tf1 R)) L by rw[if_neg (by decide),if_neg (by decide),if_neg (by decide),if_neg (by decide)]at h;rw[<- hR];exact h)
   replace hR:=hid hR;refine aoR ?_;refine ahc (q:=λx=>decide ((rT ty.2.1 x v).getD 0=0) ||(decide (0<(rT ty.2.1 x v).getD 0) == decide ((6:Int)=5))) hW (λx K _ q=>aji (ty:=ty) (k:=6) (a:=a) (v:=v) (ps:=.sl PS ps.length none) (ks:=.sl KS ks.length none) (by simp[tyC]) aoK q) ?_;rw[hR.o];refine aoR ?_;exact ab rfl h.o
 replace h:=hid (show K (.int .i64 (tf1 (decide ((0:Int)<(W.length:Int))))) L by have:(!W.isEmpty)=decide ((0:Int)<(W.length:Int)):=(by cases W<;>simp<;>omega);rw[<- this];simpa using h)
 refine aoR ?_;exact ab rfl h.o;cases nb with
 | false =>
   replace h:=hid (show K (.int .i64 2) L by simpa using h);refine aoR ?_;exact ab rfl h.o
 | true =>
   replace h:=hid (show K (.int .i64 (tf1 H)) L by simpa using h);refine aoR ?_;exact ab rfl h.o
set_option maxRecDepth 1000000
abbrev exA:List Atr:=[([99,110],[[97]])]
theorem aj5:InA aK exA:=by have h:xl aK [] exA=(exA,0):=aoL;have:=Yz (ts:=aK) (l:=exA) (out:=[]) (afW _) (by rw[h]);rwa[h]at this
theorem af9{ks:List AV}{nk:Nat}{ck:Option Nat}(f:Flt){r:Int}(hf:AV.frzL [.int .i64 k,.str a,.str v,.sl [] 0 cp,.sl ks nk ck]=fA f)(hb:WI f)(hr:ofM aK exA f=r)(hp:∀{L:List Blk}{K:alp},K (.tup [.agg [.int .i64 k,.str a,.str v,.sl [] 0 cp,.sl ks nk ck],.int .i64 0]) L->alo 58 [.str s] L K)(h:K (.int .i64 r) L):alo 70 [.str s] L K:=by
 obtain⟨x,hx⟩:=alj (cj aK);obtain⟨m,hm⟩:=alj (aK.length);obtain⟨y,hy⟩:=alj (F0);have kk1:=@hid _ @hp;have kk2:Hid (Ctr Tryz.prog 20 [] (.agg [.sl x m none,.sl y 9 none])):=hid λq=>abW (by rw[hx,hm,hy];exact q)
 have f3:(∀{L:List Blk}{K:alp},K (.int .i64 r) L->alo 31 [.agg [.sl x m none,.sl y 9 none],.agg [.int .i64 k,.str a,.str v,.sl [] 0 cp,.sl ks nk ck],.sl [.str [99,110],.sl [.str [97]] 1 (some 1)] 1 (some 1)] L K):=λ{L K} q=>by rw[<- hx,<- hm,<- hy];refine eY ?_;have:=akE (capT:=none) (cap:=none) (c2:=F0) (n2:=9) (cap2:=none) tG aj5 aoK aoK f hb (L:=L) (K:=K) (by rw[hr];exact q);rw[<- hf]at this;simpa only[AV.frzL,AV.frz,rC,aes,eh,bc,amv,List.flatMap_nil,atA,alY,alA,amg,amG,alD,amS]using this
 have kk3:=@hid _ @f3;clear hx hy hm hp hf hb hr f3;replace h:=hid h;refine aln WW ?_;exact ab rfl h.o
theorem lf1:WE [40,99,110,61,65,41] 1 99 110 65:=⟨rfl,rfl,rfl,rfl,rfl,by decide,by decide,rfl,rfl,rfl,by decide,by decide,by decide,by decide⟩
theorem lf2:WE [40,115,110,61,120,41] 1 115 110 120:=⟨rfl,rfl,rfl,rfl,rfl,by decide,by decide,rfl,rfl,rfl,by decide,by decide,by decide,by decide⟩
theorem lf3:WE [40,122,122,61,120,41] 1 122 122 120:=⟨rfl,rfl,rfl,rfl,rfl,by decide,by decide,rfl,rfl,rfl,by decide,by decide,by decide,by decide⟩
theorem YD{a v:UInt8}(q:WE s 1 a b v)(h0:s.getD 0 0=40)(hl:s.length=6)(ha:a.toNat≠38/\a.toNat≠124/\a.toNat≠33){r:Int}(hr:ofM aK exA (.mk 3 [a,b] [v] [] [])=r)(h:K (.int .i64 r) L):alo 70 [.str s] L K :=
 af9 (k:=3) (a:=[a,b]) (v:=[v]) (ks:=[]) (nk:=0) (cp:=some 0) (ck:=some 0) (.mk 3 [a,b] [v] [] []) rfl (by simp[FlB,W6]) hr (λ{L K} q'=>SG (n:=1) aoJ (λ_=>rfl) (λ{p L K} hL q2=>UP (i:=0) q h0 ha aoJ aoJ aoJ hL (by rw[hl]at q2;exact q2)) q') h
theorem xH(h:K (.bool true) L):alo 30 [] L K:=by
 have kk1:Hid (Ctr Tryz.prog 70 [.str [40,99,110,61,65,41]] (.int .i64 1)):=hid λq=>YD lf1 rfl rfl (by decide) aoL q
 have kk2:Hid (Ctr Tryz.prog 70 [.str [40,115,110,61,120,41]] (.int .i64 0)):=hid λq=>YD lf2 rfl rfl (by decide) aoL q
 have kk3:Hid (Ctr Tryz.prog 70 [.str [40,122,122,61,120,41]] (.int .i64 2)):=hid λq=>YD lf3 rfl rfl (by decide) aoL q
 have kk4:Hid (Ctr Tryz.prog 70 [.str [40,33,40,122,122,61,120,41,41]] (.int .i64 2)):=hid λq=>af9 (.mk 2 [] [] [] [.mk 3 [122,122] [120] [] []]) rfl (by simp[FlB,W6]) aoL (λq'=>SG (by decide) (λ_=>rfl) (λhL q2=>aej hL q2) q') q
 have kk5:Hid (Ctr Tryz.prog 70 [.str [40,124,40,122,122,61,120,41,40,99,110,61,97,41,41]] (.int .i64 1)):=hid λq=>af9 (.mk 1 [] [] [] [.mk 3 [122,122] [120] [] [],.mk 3 [99,110] [97] [] []]) rfl (by simp[FlB,W6]) aoL (λq'=>SG (by decide) (λ_=>rfl) (λhL q2=>agQ hL q2) q') q
 replace h:=hid h;refine aln Th ?_;exact aa h.o
def XH(tys:List (List UInt8×Int))(ty:List UInt8->Option Int)(L:List bt)(k:Int)(a v:List UInt8)(ps:List Pc):Option (List Int):=match ty (af a)with
 |none=>none
 |some syn=>if k=3\/k=8 then some (agU tys L (af a) syn v)else if k=7 then some (mG L (af a))else if k=4/\syn<=3/\tz ps=true then some (RS tys L (af a) syn ps)else none
theorem agc{tys:List (List UInt8×Int)}(hd:(tys.map (·.1)).Nodup){ty:List UInt8->Option Int}(hty:∀f s,ty f=some s->(f,s)∈tys)(hff:∀t,af (af t)=af t)(hts:∀a s,ty (af a)=some s->∃t,ez ts a=some t/\t.2.1=s){L:List bt}{id:Int}{r s:List Atr}(he:(id,r)∈L)(hi:InA ts r)(hs:∀n x,x∈cc s n->x∈cc r n){l:List Int}(hl:XH tys ty L k a v ps=some l)(ht:RT ts s k a v ps=1):id∈l:=by
 have ht:=adR hs ht;unfold XH at hl;rcases hq:ty (af a)with _|syn;rw[hq]at hl;cases hl;rw[hq]at hl;simp only at hl;obtain⟨t,h1,h2⟩:=hts a syn hq;have hm:=hty _ _ hq;have hv:cc r (af a)=cc r a:=Zi (hff a) r;unfold RT at ht;rw[h1]at ht;simp only at ht;split at ht;cases ht;unfold acH at ht;rw[h2]at ht;split at hl;rename_i hk;cases hl;have hk7:k≠7:=aoJ;rw[if_neg hk7,if_pos hk]at ht;split at ht;cases ht;have hh:=xK.1 ht;unfold abD at hh;rw[h1]at hh;simp only[h2]at hh;rcases hn:bw syn v with _|m;rw[hn]at hh;cases hh;rw[hn]at hh;simp only[inM,anb,decide_eq_true_eq]at hh;obtain⟨w,hw,e⟩:=hh;have hvs:=(acj hi h1).2 w hw;rw[h2]at hvs;rcases hx:bw syn w with _|q;rw[hx]at hvs;cases hvs;unfold eF at e;rw[hx]at e;simp only[amj]at e;subst e;unfold agU;rw[hn];simp only;rw[mo];exact⟨r,he,(aat hd hm).2 ⟨w,by rw[hv];exact hw,q,hx,.inl ⟨rfl,rfl⟩⟩⟩;rename_i hk;split at hl;rename_i hk7;cases hl;rw[if_pos hk7]at ht;have hh:=xK.1 ht;rw[p9];refine⟨r,he,?_⟩;rw[hv];simpa using hh;rename_i hk7;split at hl;rename_i hk4;cases hl;rw[if_neg hk7,if_neg hk,if_pos hk4.1]at ht;split at ht;cases ht;have hh:=xK.1 ht;obtain⟨w,hw,e⟩:=anb.1 hh;have hlk:rW syn w ps=some true:=by
  cases h:rW syn w ps with
  |none=>rw[h]at e;cases e
  |some b=>rw[h]at e;simpa using e
 exact ag4 hd hm he (by rw[hv];exact hw) hlk;cases hl
mutual
theorem acn{mt jn:List (List Int)->List Int}(hp:acZ mt jn){leaf:Int->List UInt8->List UInt8->List Pc->Option (List Int)}{ts:List Typ}{s:List Atr}{id:Int}{w:Int}(hl:∀k a v ps l,leaf k a v ps=some l->RT ts s k a v ps=1->id∈l)(h2:∀a v ps,leaf 2 a v ps=none):
  ∀(f:Flt) (l:List Int),Y4 mt jn leaf w f=some l->ofM ts s f=1->id∈l
 | .mk k a v ps ks,l,h,ht=>by
   rw[Y4]at h;rw[ofM]at ht;cases hx:(if k=0\/k=1 then Wx mt jn k (F3 mt jn leaf w ks)else leaf k a v ps)with
   |none=>rw[hx]at h;cases h
   | some m =>
     have hml:m=l:=by
      rw[hx,Tu]at h;split at h
      .cases h
      .exact Option.some.inj h
     subst hml;have ih:=Zn hp (w:=w) hl h2 ks;by_cases hk:k=0\/k=1
     .rw[if_pos hk]at hx;rw[if_pos aoJ]at ht;unfold Wx at hx;unfold XK at ht;by_cases k0:k=0
      .rw[if_pos k0]at hx ht;split at hx
       .cases hx
       .rename_i hne;cases hx;rw[hp.mtM];refine⟨hne,?_⟩;exact ih.1 ((Tq _ _).1 ht).2
      .have k1:k=1:=aoJ;rw[if_neg k0]at hx;rw[if_neg k0,if_pos k1]at ht;split at hx
       .rename_i hall;cases hx;rw[hp.jnM];exact ih.2 hall ((ail _).1 ht)
       .cases hx
     .rw[if_neg hk]at hx;by_cases k2:k=2
      .subst k2;rw[h2]at hx;cases hx
      .rw[if_neg aoJ]at ht;exact hl _ _ _ _ _ hx ht
theorem Zn{mt jn:List (List Int)->List Int}(hp:acZ mt jn){leaf:Int->List UInt8->List UInt8->List Pc->Option (List Int)}{ts:List Typ}{s:List Atr}{id:Int}{w:Int}(hl:∀k a v ps l,leaf k a v ps=some l->RT ts s k a v ps=1->id∈l)(h2:∀a v ps,leaf 2 a v ps=none):
  ∀ks:List Flt,((∀x∈ZJ ts s ks,x=1)->∀l∈bx (F3 mt jn leaf w ks),id∈l)/\((F3 mt jn leaf w ks).all Option.isSome=true->(∃x∈ZJ ts s ks,x=1)->∃l∈bx (F3 mt jn leaf w ks),id∈l)
 |[]=>by rw[F3,ZJ];exact⟨λ_ l hl=>(by cases hl),λ_ ⟨x,hx,_⟩=>(by cases hx)⟩
 | f::r=>by
   have i1:=acn hp (w:=w) hl h2 f;have i2:=Zn hp (w:=w) hl h2 r;rw[F3,ZJ];constructor
   .intro hall l hm;have h1:=hall (ofM ts s f) aoK;have h3:=i2.1 λx hx=>hall x (by simp[hx])
    cases ha:Y4 mt jn leaf w f with
    |none=>rw[ha,bx]at hm;exact h3 l hm
    | some m =>
      rw[ha,bx,alu]at hm;rcases hm with rfl|hm
      .exact i1 _ ha h1
      .exact h3 l hm
   .rintro hall ⟨x,hx,e⟩;rw[am6,alx]at hall;cases ha:Y4 mt jn leaf w f with
    |none=>rw[ha]at hall;cases hall.1
    | some m =>
      rw[bx];rcases alu.1 hx with h|h
      .exact⟨m,aoK,i1 m ha (by rw[<- h];exact e)⟩
      .obtain⟨l,q1,q2⟩:=i2.2 hall.2 ⟨x,h,e⟩;exact⟨l,by simp[q1],q2⟩
end
end Go.Proofs.YtcmfcpjnhephaaaGreatDoor.Av
set_option maxRecDepth 100000
namespace Go.Proofs.YtcmfcpjnhephaaaGreatDoor.Av
open Go
def ij:List aj :=
 [⟨(some 2),(.mv (.av (.sl [] 0 (some 0)))),none⟩]
def ig:List aj :=
 [⟨(some 3),(.mv (tm 0)),none⟩,⟨(some 4),(.slnil false (tm 3)),none⟩]
def ic:List aj :=
 [⟨(some 2),(.mv (.av (.sl [] 0 (some 0)))),none⟩]
def ia:List aj :=
 [⟨(some 5),(.bslice false 1 0 [] []),none⟩,⟨(some 6),(.mv (tm 0)),none⟩,⟨(some 7),(.app 2 1 8 [(.int .i64 0)] (tm 5) (tm 6)),none⟩,⟨(some 2),(.mv (tm 7)),none⟩]
def de:aQ:=⟨8,(.seq (.region ij) (.seq (.seq (.region ig) (aoE 4 (.region ic))) (.seq (.region ia) .ret))),[(.tmp 2)]⟩
attribute [push_cast] ij ig ic ia
theorem gS:aZ Tryz.prog (λr i=>if r=3/\i=2 then 2 else 1) 114=some de.raw:=aoL
def fo:List aj :=
 [⟨(some 4),(.mv (.av (.sl [] 0 (some 0)))),none⟩]
def fm:List aj :=
 [⟨(some 8),(.mv (tm 0)),none⟩,⟨(some 9),(.mv (tm 1)),none⟩,⟨(some 10),(.call 116 [(tm 8),(tm 9)]),none⟩,⟨(some 5),(.mv (tm 10)),none⟩]
def fk:List aj :=
 [⟨(some 11),(.mv (tm 5)),none⟩,⟨(some 12),(.bin .eql (tm 11) (iv (-1))),none⟩]
def fj:List aj :=
 [⟨(some 13),(.mv (tm 0)),none⟩,⟨(some 4),(.mv (tm 13)),none⟩]
def fi:List aj :=
 [⟨(some 14),(.mv (tm 5)),none⟩,⟨(some 15),(.bin .add (tm 14) (iv 1)),none⟩,⟨(some 6),(.mv (tm 15)),none⟩]
def fh:List aj :=
 [⟨(some 16),(.mv (tm 6)),none⟩,⟨(some 17),(.mv (tm 0)),none⟩,⟨(some 18),(.len false (tm 17)),none⟩,⟨(some 19),(.bin .lss (tm 16) (tm 18)),none⟩]
def fg:List aj :=
 [⟨(some 22),(.mv (tm 0)),none⟩,⟨(some 23),(.mv (tm 6)),none⟩,⟨(some 24),(.iaddr 1 (tm 22) (tm 23)),none⟩,⟨(some 25),(.load false 1 (tm 24)),none⟩,⟨(some 7),(.mv (tm 25)),none⟩]
def ff:List aj :=
 [⟨(some 26),(.mv (tm 1)),none⟩,⟨(some 27),(.mv (tm 7)),none⟩,⟨(some 28),(.callv (tm 26) [(tm 27)]),none⟩,⟨(some 29),(.un .not (tm 28)),none⟩]
def fe:List aj :=
 [⟨(some 30),(.mv (tm 0)),none⟩,⟨(some 31),(.mv (tm 5)),none⟩,⟨(some 32),(.mv (tm 7)),none⟩,⟨(some 33),(.iaddr 1 (tm 30) (tm 31)),none⟩,⟨none,(.store 1 (tm 33) (tm 32)),none⟩]
def fc:List aj :=
 [⟨(some 34),(.mv (tm 5)),none⟩,⟨(some 35),(.bin .add (tm 34) (iv 1)),none⟩,⟨(some 5),(.mv (tm 35)),none⟩]
def eO:List aj :=
 [⟨(some 20),(.mv (tm 6)),none⟩,⟨(some 21),(.bin .add (tm 20) (iv 1)),none⟩,⟨(some 6),(.mv (tm 21)),none⟩]
def eN:List aj :=
 [⟨(some 36),(.mv (tm 0)),none⟩,⟨(some 37),(.mv (tm 5)),none⟩,⟨(some 38),(.slV 1 (tm 36) (some (tm 37)) none none),none⟩,⟨none,(.clear 1 [(.int .i64 0)] (tm 38)),none⟩]
def eM:List aj :=
 [⟨(some 39),(.mv (tm 0)),none⟩,⟨(some 40),(.mv (tm 5)),none⟩,⟨(some 41),(.slV 1 (tm 39) none (some (tm 40)) none),none⟩,⟨(some 4),(.mv (tm 41)),none⟩]
def bZ:aQ:=⟨42,(.seq (.region fo) (.seq (.region fm) (.seq (.seq (.region fk) (aoE 12 (.region fj))) (.seq (.seq (.region fi) (aoF 0 (.seq (.seq (.region fh) (aoG 19 0)) (.seq (.block 1 (.seq (.region fg) (.seq (.region ff) (aoD 29 (.seq (.region fe) (.region fc)) .skip)))) (.region eO))))) (.seq (.region eN) (.seq (.region eM) .ret)))))),[(.tmp 4)]⟩
attribute [push_cast] fo fm fk fj fi fh fg ff fe fc eO eN eM
theorem eV:aoH 67=aoI bZ:=aoL
def fM:List aj :=
 [⟨(some 4),(.mv (iv 0)),none⟩]
def fL:List aj :=
 [⟨(some 6),(.mv (tm 0)),none⟩,⟨(some 7),(.len false (tm 6)),none⟩,⟨(some 8),(.mv (iv 0)),none⟩]
def fK:List aj :=
 [⟨(some 9),(.bin .lss (tm 8) (tm 7)),none⟩]
def fJ:List aj :=
 [⟨(some 10),(.mv (tm 8)),none⟩,⟨(some 5),(.mv (tm 10)),none⟩]
def fI:List aj :=
 [⟨(some 11),(.mv (tm 1)),none⟩,⟨(some 12),(.mv (tm 0)),none⟩,⟨(some 13),(.mv (tm 5)),none⟩,⟨(some 14),(.iaddr 1 (tm 12) (tm 13)),none⟩,⟨(some 15),(.load false 1 (tm 14)),none⟩,
 ⟨(some 16),(.callv (tm 11) [(tm 15)]),none⟩]
def fH:List aj :=
 [⟨(some 17),(.mv (tm 5)),none⟩,⟨(some 4),(.mv (tm 17)),none⟩]
def fG:List aj :=
 [⟨(some 18),(.bin .add (tm 8) (iv 1)),none⟩,⟨(some 8),(.mv (tm 18)),none⟩]
def fF:List aj :=
 [⟨(some 4),(.mv (iv (-1))),none⟩]
def cn:aQ:=⟨19,(.seq (.region fM) (.seq (.seq (.region fL) (aoF 0 (.seq (.region fK) (.seq (aoG 9 0) (.seq (.block 1 (.seq (.region fJ) (.seq (.region fI) (aoE 16 (.region fH))))) (.region fG)))))) (.seq (.region fF) .ret))),[(.tmp 4)]⟩
attribute [push_cast] fM fL fK fJ fI fH fG fF
theorem fq:aoH 116=aoI cn:=aoL
end Go.Proofs.YtcmfcpjnhephaaaGreatDoor.Av
set_option maxRecDepth 100000
namespace Go.Proofs.YtcmfcpjnhephaaaGreatDoor.Av
open Go
def IE:LSO:=[Al 2]
def ID:LSO:=[Aa 4 0,Ai 5 114 4,Aa 3 5]
def IC:LSO:=[Aa 6 3,Ai 7 105 6]
def IB:LSO:=[Aa 8 3,Ai 9 115 8,Aa 2 9]
def fz:aQ:=⟨10,(aoC IE [] (aoC ID Cx (aoC IC C7 (aoC IB Cx .ret)))),[(.tmp 2)]⟩
attribute [push_cast] IE ID IC IB
theorem qx:aoH 66=aoI fz:=aoL
def NG:LSO:=[Al 2]
def NF:LSO:=[Aa 7 0,Am 8 7,An 9 8 0]
def NE:LSO:=[Al 2]
def ND:LSO:=[Aa 10 0,o1 11 (.iaddr 1 (tm 10) (iv 0)),Ac 12 1 11,Ai 13 66 12,Aa 3 13]
def NC:LSO:=[Aa 14 0,o1 15 (.slV 1 (tm 14) (some (iv 1)) none none),Am 16 15,Ab 17 0]
def NB:LSO:=[Ak 18 17 16]
def NA:LSO:=[Ao 19 1 15 17,Ac 20 1 19,Aa 5 20]
def Nz:LSO:=[Aa 21 5,Ai 22 66 21,o1 6 (.alloc [(.sl [] 0 (some 0))]),Aj 1 6 22]
def Ny:LSO:=[Aa 23 3,o1 24 (.mkfn 68 [(tm 6)]),Ar 25 67 23 24,Aa 3 25]
def Nw:LSO:=[Ag 26 17 1,Aa 17 26]
def IQ:LSO:=[Aa 27 3,Aa 2 27]
def KA:aQ:=⟨28,(aoC NG [] (.seq (aoC NF Cx (aoE 9 (.sreg NE []))) (aoC ND Cz (.seq (aoC NC CF (aoF 0 (aoC NB [] (.seq (aoG 18 0) (.seq (.block 1 (aoC NA Cx (aoC Nz Cx (.sreg Ny Cy)))) (.sreg Nw Cw)))))) (aoC IQ Cw .ret))))),[(.tmp 2)]⟩
attribute [push_cast] NG NF NE ND NC NB NA Nz Ny Nw IQ
theorem Wh:aoH 29=aoI KA:=aoL
def EO:LSO:=[Ae 3]
def EN:LSO:=[Ac 7 1 1,Aa 8 0,Ar 9 69 7 8,Aa 6 9,Aq 10 6,Au 11 6,Aa 4 10,Aa 5 11]
def EM:LSO:=[Aa 12 5,Ay 13 12,Aa 3 13]
def tY:aQ:=⟨14,(aoC EO [] (aoC EN C4 (aoC EM Cx .ret))),[(.tmp 3)]⟩
attribute [push_cast] EO EN EM
theorem Tf:aoH 68=aoI tY:=aoL
def NI:LSO:=[Al 2]
def NH:LSO:=[Aa 3 0,Ai 4 153 3,Ai 5 66 4,Aa 2 5]
def KB:aQ:=⟨6,(aoC NI [] (aoC NH Cy .ret)),[(.tmp 2)]⟩
attribute [push_cast] NI NH
theorem Wi:aoH 108=aoI KB:=aoL
def gP:LSO:=[Al 2]
def gO:LSO:=[Ab 3 0]
def gN:LSO:=[Aa 9 0,Am 10 9,Ab 11 0]
def gM:LSO:=[Ak 12 11 10]
def gL:LSO:=[Ao 13 1 9 11,Ac 14 1 13,Aa 5 14]
def gK:LSO:=[Aa 15 3,Aa 16 5,Am 17 16,AO 18 15 17,Aa 3 18]
def gJ:LSO:=[Aa 19 3,AF 20 19 0]
def gI:LSO:=[o1 21 (.mkif 9 (.av (.str [108,101,110,32,111,117,116,32,111,102,32,114,97,110,103,101]))),
 .op ⟨none,.bad,none⟩]
def gH:LSO:=[Ag 22 11 1,Aa 11 22]
def gG:LSO:=[Aa 23 3,o1 24 (.call 190 [(.av (.sl [] 0 (some 0))),(tm 23)]),Aa 6 24]
def gp:LSO:=[Aa 25 0,Am 26 25,Ab 27 0]
def gn:LSO:=[Ak 28 27 26]
def gm:LSO:=[Ao 29 1 25 27,Ac 30 1 29,Aa 8 30]
def gk:LSO:=[Aa 31 6,Aa 32 8,Cu 33 31 32,Aa 6 33]
def gj:LSO:=[Ag 34 27 1,Aa 27 34]
def gi:LSO:=[Aa 35 6,Aa 2 35]
def eW:aQ:=⟨36,(aoC gP [] (aoC gO [] (.seq (aoC gN [] (aoF 0 (aoC gM [] (.seq (aoG 12 0) (.seq (.block 1 (aoC gL Cx (aoC gK Cz (aoC gJ Cw (aoD 20 (.sreg gI CD) .skip))))) (.sreg gH Cw)))))) (aoC gG Cx (.seq (aoC gp [] (aoF 2 (aoC gn [] (.seq (aoG 28 2) (.seq (.block 3 (aoC gm Cx (.sreg gk Cy))) (.sreg gj Cw)))))) (aoC gi Cw .ret)))))),[(.tmp 2)]⟩
attribute [push_cast] gP gO gN gM gL gK gJ gI gH gG gp gn gm gk gj gi
theorem sh:aoH 153=aoI eW:=aoL
def JG:LSO:=[Ae 4]
def JF:LSO:=[Aa 6 0,Am 7 6,Aa 8 1,Am 9 8,BF 10 7 9]
def JE:LSO:=[Ae 4]
def JD:LSO:=[Aa 11 0,Am 12 11,Ab 13 0]
def JC:LSO:=[Ak 14 13 12]
def JB:LSO:=[Aa 15 13,Aa 5 15]
def JA:LSO:=[Aa 16 0,Aa 17 5,Ao 18 1 16 17,Ac 19 1 18,Aa 20 1,Aa 21 5,Ao 22 1 20 21,Ac 23 1 22,BF 24 19 23]
def Jz:LSO:=[Ae 4]
def Jy:LSO:=[Ag 25 13 1,Aa 13 25]
def Jx:LSO:=[Az 4]
def yx:aQ:=⟨26,(aoC JG [] (.seq (aoC JF Cz (aoE 10 (.sreg JE []))) (.seq (aoC JD C3 (aoF 0 (aoC JC [] (.seq (aoG 14 0) (.seq (.block 1 (aoC JB Cw (.seq (.sdreg JA [.pure,.pure,(.read 0 0),(.read 0 0),.pure,.pure,(.read 0 0),(.read 0 0)] CJ) (aoE 24 (.sreg Jz []))))) (.sreg Jy Cw)))))) (aoC Jx [] .ret)))),[(.tmp 4)]⟩
attribute [push_cast] JG JF JE JD JC JB JA Jz Jy Jx
theorem UG:aoH 22=aoI yx:=aoL
end Go.Proofs.YtcmfcpjnhephaaaGreatDoor.Av
set_option maxRecDepth 100000
namespace Go.Proofs.YtcmfcpjnhephaaaGreatDoor.Av
open Go
attribute [push_cast] de bZ cn fz tY KB eW
open Go Go.Sort
variable {L:List Blk}{K:alp}
theorem Sy{L:List Blk}{i:Nat}{k:Blk}(h:L[i]?=some k):L.set i k=L:=by apply amW;intro j;rw[alO];split;rename_i e;subst e;have hi:=(alq.1 h).1;rw[if_pos hi,h];rfl
theorem Rel.putInts{w0:World}{S0:SB}{E:Env}{L:List Blk}{w:World}(h:Rel w0 S0 E L w){i:Nat}{xs d:List Int}{rest:List AV}{c:Loc}(hi:L[i]?=some (.cells (cf xs++rest)))(hc:E.loc i=some c)(hd:d.length=xs.length)(q:Nat):
  Rel w0 S0 E (L.set i (.cells (cf d++rest))) (putRow (Value.int .i64) (Sort.ahead w q) c.blk c.off d.toArray):=by
 obtain⟨c',cs,ty,fr,h1,h2,h3,h4,h5,h6⟩:=h.blk i _ hi;rw[hc]at h1;cases h1;have hlt:c.blk<w.heap.size:=(amt.1 h2).1;have e1:(putRow (Value.int .i64) (Sort.ahead w q) c.blk c.off d.toArray).heap[c.blk]?=some (.cells (putCells (Value.int .i64) c.off d.toArray cs) ty fr):=by simp[putRow,mapBlock,Sort.ahead,ann,h2,onCells]
 have hlen:(cf xs++rest).length=xs.length+rest.length:=aoK;refine h.turn (k':=.cells (cf d++rest)) hi rfl hc aoK (λb hb=>?_) rfl rfl rfl ⟨c,_,ty,fr,hc,e1,by simp[putCells,h3],?_,λj a ha=>?_,h6⟩ (λ_ _ e=>by cases e);have:c.blk≠b:=λe=>hb e.symm
 simp[putRow,mapBlock,Sort.ahead,ann,this];rw[hlen]at h4;simp only[alJ,al5,hd];omega;rw[hlen]at h4;have hj:j<d.length+rest.length:=by have:=(alq.1 ha).1;simpa using this
 have hcs:c.off+j<cs.size:=aoJ;have ep:(putCells (Value.int .i64) c.off d.toArray cs)[c.off+j]?=some (if c.off<=c.off+j/\c.off+j<c.off+d.length then Value.int .i64 (d.toArray[c.off+j-c.off]!)else cs[c.off+j]):=by simp[putCells,hcs]
 by_cases hjd:j<d.length;have ea:a=.int .i64 d[j]:=by rw[aly (by simpa using hjd)]at ha;simpa[hjd]using ha.symm
 subst ea;refine⟨_,ep,?_⟩;rw[if_pos aoJ,show c.off+j-c.off=j by omega];simp[VR,hjd];have ha':(cf xs++rest)[j]?=some a:=by rw[alT (by simp;omega)]at ha⊢;simpa[hd]using ha
 obtain⟨v,g1,g2⟩:=h5 j a ha';refine⟨v,?_,g2⟩;rw[ep,if_neg aoJ,<- g1];simp[hcs]
theorem Xf{w0:World}{S0:SB}{E:Env}{L:List Blk}{w:World}(h:Rel w0 S0 E L w){i:Nat}{xs:List Int}{rest:List AV}{c:Loc}(hi:L[i]?=some (.cells (cf xs++rest)))(hc:E.loc i=some c):
  Holds (Value.int .i64) w c.blk c.off xs.toArray/\c.blk<w.heap.size:=by
 obtain⟨c',cs,ty,fr,h1,h2,h3,h4,h5,h6⟩:=h.blk i _ hi;rw[hc]at h1;cases h1;refine⟨λj hj=>?_,(amt.1 h2).1⟩;have hj':j<xs.length:=by simpa using hj
 obtain⟨v,g1,g2⟩:=h5 j (.int .i64 xs[j]) (by rw[aly (by simpa using hj')];simp[hj']);simp only[VR]at g2;subst g2;refine⟨by simp[World.cell?,h2,g1,hj'],?_⟩;have h7:=h6 (c.off+j) aoJ (by simp only[alJ,al5]at h4;omega);simp only[World.frozen?,h2];obtain⟨f1,f2⟩:=fr;simp only at h7;simp only[anJ,decide_eq_false_iff_not];omega
theorem sd{P:Program}{f:FuncId}{fn:Func}(hf:P.funcs[f]?=some fn)(hb:fn.body.isSome=true)(hn:(fn.name == "runtime.NumGoroutine")=false)(args:Array Value)(w:World):(callFunc f args).run P w=.ok (.enter f args) w:=by
 simp only[callFunc,alz,run_program,alB,hf,hn];cases h:fn.body with
 |none=>simp[h]at hb
 |some c=>simp
theorem ajA{xs:List Int}{i:Nat}{cp:Option Nat}{rest:List AV}(hx:xs≠[])(hn:xs.length<=1000000)(hL:L[i]?=some (.cells (cf xs++rest)))(h:K (.tup []) (L.set i (.cells (cf (eT xs)++rest)))):
  alo 105 [.lsl i 0 xs.length cp 1] L K:=λw0 S0 E w vs hR hv=>by
 simp only[VRL,VR]at hv;obtain⟨_,_,rfl,⟨c,rc,d,hc,rfl,hd,hle,_,_⟩,rfl⟩:=hv;have hpos:0<xs.length:=amH.2 hx;have hd':d=c.off:=by have:=hd aoJ;omega
 subst hd';obtain⟨hH,hlt⟩:=Xf hR hL hc;refine .inl ⟨sd Tryz.func105 rfl aoL _ _,(Tryz.slices_Sort_int c.blk c.off rc xs w hH hlt aoJ).mono ?_⟩;rintro e w' ⟨rfl,q,os,rfl⟩;have r1:=hR.putInts hL hc (d:=eT xs) ((df xs).length_eq) q;rw[XL];refine⟨E,_,_,_,rfl,.refl E,h,by simp[VR,VRL],r1.grown ?_⟩;exact⟨λb hb=>aoc hb,by simp[grow],rfl,rfl,rfl⟩
theorem ahX{cap:Option Nat}(h:K (.tup []) L):alo 105 [.sl [] 0 cap] L K :=
 cH Tryz.func105 rfl aoL (λw0 S0 E w vs hR hv=>by simp only[VRL,VR]at hv;obtain⟨_,_,rfl,⟨p,c,rfl,_⟩,rfl⟩:=hv;exact(Tryz.slices_Sort_int_none p c w).mono λe w' ⟨he,hw⟩=>⟨_,he,by simp[VR,VRL],by subst hw;exact sx.refl _⟩) h
def mw(xs:List Int):List Int:=Lib.compact xs
def dX(n:Nat):List AV:=cf (List.replicate n 0)
theorem ab0(xs:List Int):(mw xs).length<=xs.length:=by unfold mw Lib.compact Lib.compactUpTo;rw[al5];have:=anm (Lib.keeps xs.toArray) (List.range xs.length);simpa using this
theorem aet{xs:List Int}{i:Nat}{rest:List AV}(hx:xs≠[])(hn:xs.length<=1000000)(hL:L[i]?=some (.cells (cf xs++rest)))(h:∀z,K (.lsl i 0 (mw xs).length none 1) (L.set i (.cells (cf (mw xs)++(dX z++rest))))):
  alo 115 [.lsl i 0 xs.length none 1] L K:=λw0 S0 E w vs hR hv=>by
 simp only[VRL,VR]at hv;obtain⟨_,_,rfl,⟨c,rc,d,hc,rfl,hd,hle,_,hsz⟩,rfl⟩:=hv;have hpos:0<xs.length:=amH.2 hx;have hd':d=c.off:=by have:=hd aoJ;omega
 subst hd';obtain⟨hH,hlt⟩:=Xf hR hL hc;have hcl:=ab0 xs;refine .inl ⟨sd Tryz.func115 rfl aoL _ _,(Tryz.slices_Compact_int c.blk c.off rc xs w hH aoJ hle).mono ?_⟩;rintro e w' ⟨rfl,q,rfl⟩;have r1:=hR.putInts hL hc (d:=Lib.compact xs++List.replicate (xs.length-(Lib.compact xs).length) 0) (by simp only[mw]at hcl;simp;omega) q;refine⟨E,_,_,_,rfl,.refl E,h (xs.length-(Lib.compact xs).length),?_,?_⟩;simp only[VR];exact⟨c,rc,c.off,hc,rfl,λ_=>aoJ,by simp only[mw]at hcl⊢;omega,(λk hk=>by cases hk),hsz⟩;simpa[cf,dX,mw]using r1
theorem abY{cap:Option Nat}(h:K (.sl [] 0 cap) L):alo 115 [.sl [] 0 cap] L K :=
 cH Tryz.func115 rfl aoL (λw0 S0 E w vs hR hv=>by simp only[VRL]at hv;obtain⟨v,_,rfl,hv,rfl⟩:=hv;have hv':=hv;simp only[VR]at hv;obtain⟨p,c,rfl,_⟩:=hv;exact(Tryz.slices_Compact_int_empty p c w).mono λe w' ⟨he,hw⟩=>⟨_,he,hv',by subst hw;exact sx.refl _⟩) h
theorem ale{ys:List Int}{x:Int}{cap:Option Nat}(hn:ys.length<=1000000)(hs:ys.Pairwise (·<=·))(h:K (.tup [.int .i64 (ys.countP (·<x):Nat),.bool (ys.contains x)]) L):
  alo 69 [.sl (cf ys) ys.length cap,.int .i64 x] L K :=
 cH Tryz.func69 rfl aoL (λw0 S0 E w vs hR hv=>by
  simp only[VRL,VR]at hv;obtain⟨_,_,rfl,⟨p,c,rfl,hle,_,hp⟩,_,_,rfl,rfl,rfl⟩:=hv;by_cases hy:ys=[];subst hy;exact(Tryz.slices_BinarySearch_int_empty p c x w).mono λe w' ⟨he,hw⟩=>⟨_,he,by simp[VR,VRL],by subst hw;exact sx.refl _⟩
  rcases hp with⟨e0,_⟩|⟨b,o,rfl,hcells⟩;exact absurd (al1.1 e0) hy;refine(Tryz.slices_BinarySearch_int b o ys.length c ys x w (alr _) aoJ (λj hj=>?_) (by simpa using hs)).mono λe w' ⟨he,q,hw⟩=>⟨_,he,by simp[VR,VRL],by subst hw;exact⟨λ_ _=>rfl,alr _,rfl,rfl,rfl⟩⟩
  obtain⟨v,g1,g2⟩:=hcells.get (i:=j) (a:=.int .i64 ys[j]) (by simp[hj]);simp only[VR]at g2;subst g2;have:=hR.mem _ _ _ g1;rw[this];simp[hj]) h
open Go Go.Sort Go.Proofs
theorem ahJ(z:Array Value):∀k,(Builtin.zeroCells z k).size=k*z.size:=by intro k;simp[Builtin.zeroCells]
theorem agn:∃i0,Tryz.prog.info? 3=some i0/\i0.zero=some (.int .i64 0)/\i0.size=1/\i0.bytes=8:=by
 have h:(Tryz.prog.info? 3).map (λi=>(i.zero,i.size,i.bytes))=some (some (.int .i64 0),1,8):=aoL;cases hi:Tryz.prog.info? 3 with
 |none=>rw[hi]at h;cases h
 | some i0 =>
   rw[hi]at h;simp only[alL,als,alE]at h;exact⟨i0,rfl,h⟩
theorem aiH(h:K (.sl [] 0 (some 0)) L):alo 190 [.sl [] 0 (some 0),.int .i64 0] L K :=
 cH Tryz.func190 rfl aoL (λw0 S0 E w vs hR hv=>by simp only[VRL]at hv;obtain⟨v,_,rfl,hv,_,_,rfl,h2,rfl⟩:=hv;have hv':=hv;simp only[VR]at hv h2;obtain⟨p,c,rfl,_,h3,_⟩:=hv;have hc:c=0:=h3 0 rfl;subst hc;subst h2;exact(Any8.slices_Grow_room Tryz.growI p 0 0 0 w (alr _) aoJ aoJ aoJ).mono λe w' ⟨he,hw⟩=>⟨_,he,hv',by subst hw;exact sx.refl _⟩) h
theorem aj3{n:Nat}(h0:0<n)(hn:n<=4000000)(h:K (.lsl L.length 0 0 none 1) (L++[.cells []])):alo 190 [.sl [] 0 (some 0),.int .i64 (n:Int)] L K:=λw0 S0 E w vs hR hv=>by
 simp only[VRL,VR]at hv;obtain⟨_,_,rfl,⟨p,c,rfl,_,h3,_⟩,_,_,rfl,rfl,rfl⟩:=hv;have hc:c=0:=h3 0 rfl;subst hc;obtain⟨i0,i1,i2,i3,i4⟩:=agn;refine .inl ⟨sd Tryz.func190 rfl aoL _ _,(Any8.slices_Grow_grow Tryz.growI i0 (.int .i64 0) i1 i2 aoJ p 0 0 n [] w (alr _) aoJ (by rw[i4];omega) aoJ aoK (λ_=>rfl) (λa _ j v hj=>by simp at hj)).mono ?_⟩;rintro e w' ⟨rfl,rfl⟩;have r0:Rel w0 S0 E L w.drew:=hR.grown ⟨λ_ _=>rfl,alr _,rfl,rfl,rfl⟩
 let cs:Array Value:=([]:List Value).toArray++Builtin.zeroCells (Value.int .i64 0).cells (0+n-0)++Builtin.zeroCells (Value.int .i64 0).cells (grownCap w (0+n) 0 3-(0+n))
 have hcs:cs.size=n+(grownCap w (0+n) 0 3-n):=by simp only[cs,Array.size_append,ahJ];have:(Value.int .i64 0).cells.size=1:=rfl;rw[this];simp
 have r1:=r0.push (.cells cs 3) (.cells []) ⟨w.heap.size,0,cs.size⟩ rfl rfl ⟨⟨w.heap.size,0,cs.size⟩,cs,3,(0,0),aoK,(show(w.heap.push (Obj.cells cs 3))[w.heap.size]?=some (Obj.cells cs 3 (0,0))by simp),rfl,aoK,(λj a ha=>by simp at ha),λo _ _=>aoJ⟩;refine⟨_,_,_,_,rfl,r1.1,h,?_,r1.2⟩;simp only[VR];exact⟨⟨w.heap.size,0,cs.size⟩,grownCap w (0+n) 0 3,0,aoK,rfl,λ_=>rfl,alw _,(λk hk=>by cases hk),by simp only[hcs];omega⟩
set_option maxHeartbeats 8000000
set_option maxRecDepth 100000
theorem ab1{cap:Option Nat}(h:K (.sl [] 0 (some 0)) L):alo 114 [.sl [] 0 cap] L K:=by
 refine ac gS (by simp[de]) ?_;simp only[de,am]
 repeat' first
  |refine bd ?_
  | (first|refine aV aoL ?_|refine aB aoL ?_|refine aE ?_|refine bJ ?_|refine bg (fun _=>?_)|refine ax ?_|refine aY ?_)
    refine sm ?_
  | (first|refine aO aoL ?_|refine aP ?_|refine aD ?_|refine aW ?_|refine bq (aw ?_))
    refine sl ?_
  |exact bh
  |first|apply bj|apply aR|apply bm|apply aS|apply bo|apply aT
  |refine aH ?_
  |refine aC ?_
  |first|refine aF rfl ?_|refine aG rfl ?_|refine ao rfl ?_ ?_|refine aJ rfl (λ_=>?_) (λ_=>?_)|refine aI rfl (λ_=>?_) (λ_=>?_)
  |((first|refine an (λ_=>?_) (λ_=>?_)|refine au (λ_=>?_) (λ_=>?_))<;>try refine sm ?_)
  |refine And.intro trivial ?_
  |refine And.intro aoJ ?_
  |refine aL rfl (λ_=>?_) (λ_=>?_)
  |refine And.intro ?_ ?_
 all_goals (first|refine ab rfl (Kto h ?_)|refine aa (Kto h ?_)|refine ab (by simp only[AV.refs,AV.refsL, *];rfl) (Kto h ?_)|refine bu (ab rfl (Kto h ?_))|(trace_state;fail))
 all_goals (first|(simp[*];done)|(simp[*];omega)|(simp[*];intros;omega)|(simp_all[Hid,Hid];done)|(simp_all[Hid,Hid];omega))
theorem X7{xs:List Int}{cap:Option Nat}(h0:xs.length≠0)(hn:xs.length<=1000000)(h:K (.lsl L.length 0 xs.length none 1) (L++[.cells (cf xs)])):
  alo 114 [.sl (cf xs) xs.length cap] L K:=by
 refine aln gS ?_;refine UU L.length (.cells (cf xs)) rfl (alr _) aoK (by simp[AV.refs]) (iY xs) ?_;simpa[AV.ren]using h
def Y5(f:FuncId)(caps:List AV)(ok:List Blk->Prop)(q:Int->Bool):Prop:=∀(L:List Blk) (x:Int) (K:AV->List Blk->Prop),ok L->K (.bool (q x)) L->alo f ([.int .i64 x]++caps) L K
theorem aiD{f:FuncId}{caps:List AV}{ok:List Blk->Prop}{q:Int->Bool}{xs:List Int}{i:Nat}{cp:Option Nat}{rest:List AV}(hq:Y5 f caps ok q)(hok:ok L)(hn:xs.length<=1000000)(hL:L[i]?=some (.cells (cf xs++rest)))(h1:(∀j,j<xs.length->q (xs.getD j 0)=false)->K (.int .i64 (-1)) L)(h2:∀k:Nat,k<xs.length->(∀j,j<k->q (xs.getD j 0)=false)->q (xs.getD k 0)=true->K (.int .i64 k) L):alo 116 [.lsl i 0 xs.length cp 1,.func f caps] L K:=by
 refine ac fq (by simp[cn]) ?_;simp only[cn,am];replace hq:=hid hq;replace h1:=hid h1;replace h2:=hid h2;refine wk ?_;refine ah (λn T' L'=>∃k:Nat,n=xs.length-k/\k<=xs.length/\T'=[(8,.int .i64 (k:Int)),(7,.int .i64 xs.length),(0,.lsl i 0 xs.length cp 1),(1,.func f caps)]/\L'=L /\
  ∀j,j<k->q (xs.getD j 0)=false) (CutS (b:=alr _)) ⟨0,rfl,alw _,rfl,rfl,aoK⟩ ?_
 rintro _ _ _ ⟨k,rfl,hk,rfl,rfl,hr⟩;replace hr:=hid hr;by_cases hlt:k<xs.length;have g1:(k:Int)<(xs.length:Int):=aoJ;have g2:=alm k aoJ;have g7:(xs.map (AV.int .i64)++rest).getD k .undef=.int .i64 (xs.getD k 0):=by rw[alR,aly (by simp;omega)];simp[hlt]
 refine wk ?_;refine hq.o _ _ _ hok ?_;refine sk ?_;rcases hqk:q (xs.getD k 0)with _|_;refine wk ?_;refine aoO ?_ (CutL (b:=alr _)) ⟨k+1,rfl,hlt,rfl,rfl,λj hj=>?_⟩;omega;rcases alK j k with h|h;exact hr.o j h;have:j=k:=aoJ;subst this;exact hqk;refine wk ?_;exact aa (h2.o k hlt hr.o hqk);have g1:¬(k:Int)<(xs.length:Int):=aoJ;refine wk ?_;exact aa (h1.o λj hj=>hr.o j aoJ)
theorem aiO{f:FuncId}{caps:List AV}{ok:List Blk->Prop}{q:Int->Bool}{xs:List Int}{i:Nat}(hq:Y5 f caps ok q)(hok:∀l,ok (L.set i (.cells l)))(hn:xs.length<=1000000)(hL:L[i]?=some (.cells (cf xs)))(h:∀z,K (.lsl i 0 (xs.filter λx => !q x).length none 1) (L.set i (.cells (cf (xs.filter λx => !q x)++cf (List.replicate z 0))))):
  alo 67 [.lsl i 0 xs.length none 1,.func f caps] L K:=by
 have hi:i<L.length:=(alq.1 hL).1;have hset:∀c,(L.set i c)[i]?=some c:=λc=>by simp[hi]
 have hok0:ok L:=by have:=hok (cf xs);rwa[Sy hL]at this
 replace hq:=hid hq;replace hok:=hid hok;refine aln eV ?_;refine aiD (rest:=[]) hq.o hok0 hn (by simpa using hL) (λhno=>?_) (λa ha hpre hqa=>?_);have hf:xs.filter (λx => !q x)=xs:=anO.2 λx hx=>by obtain⟨j,hj,rfl⟩:=amJ.1 hx;have:=hno j hj;simp[hj]at this;simp[this]
 have h0:=h 0;rw[hf]at h0;simp only[List.replicate_zero,amS,alY,Sy hL]at h0;replace h0:=hid h0;clear h hf hno;refine aoR ?_;exact aa h0.o
 .replace h:=hid h;replace hpre:=hid hpre;replace hqa:=hid hqa;have g1:(a:Int)≠-1:=aoJ;have g2:=alm a aoJ;refine aoR ?_;have hfx:∀j,j<xs.length->xs.take (j+1)=xs.take j++[xs.getD j 0]:=λj hj=>by rw[alN hj];simp[hj]
  replace hfx:=hid hfx;refine ah (λn T' L'=>∃(a j:Nat) (cs:List Int),n=xs.length-j/\a<j/\j<=xs.length/\cs.length=xs.length/\T'=[(6,.int .i64 (j:Int)),(5,.int .i64 (a:Int)),(0,.lsl i 0 xs.length none 1),(1,.func f caps)]/\L'=L.set i (.cells (cf cs)) /\
   cs.take a=(xs.take j).filter (λx => !q x)/\cs.drop j=xs.drop j) (n0:=xs.length-(a+1)) (T0:=[(6,.int .i64 ((a+1:Nat):Int)),(5,.int .i64 (a:Int)),(0,.lsl i 0 xs.length none 1),(1,.func f caps)]) (L0:=L.set i (.cells (cf xs))) (by rw[Sy hL];exact CutS (b:=alr _))
   ⟨a,a+1,xs,rfl,aoJ,ha,rfl,rfl,rfl,?_,rfl⟩ ?_
  rw[hfx.o a ha,aor];have h1:(xs.take a).filter (λx => !q x)=xs.take a:=anO.2 λx hx=>by obtain⟨j,hj,rfl⟩:=amJ.1 hx;rw[anl]at hj;have hj2:j<xs.length:=aoJ;have:=hpre.o j aoJ;simp[hj2]at this;simp[this]
  have h2:q (xs[a]?.getD 0)=true:=(by have:=hqa.o;simpa using this);simp[h1,h2];clear ha hpre hqa g1 g2;clear a;rintro _ _ _ ⟨a,j,cs,rfl,haj,hj,hcs,rfl,rfl,hta,hdr⟩;replace hta:=hid hta;replace hdr:=hid hdr;replace hcs:=hid hcs;by_cases hlt:j<xs.length
  .have g1:(j:Int)<(xs.length:Int):=aoJ;have g2:=alm j aoJ;have g3:=alm a aoJ;have hcj:cs.getD j 0=xs.getD j 0:=by have:=congrArg (λl=>l[0]?) hdr.o;simp only[amo,amP]at this;rw[alR,alR,this]
   have g4:(cs.map (AV.int .i64)).getD j .undef=.int .i64 (xs.getD j 0):=by rw[<- hcj];simp[show j<cs.length by rw[hcs.o];exact hlt]
   have g5:List.take a (cs.map (AV.int .i64))++AV.int .i64 (xs.getD j 0)::List.drop (a+1) (cs.map (AV.int .i64))=(cs.set a (xs.getD j 0)).map (AV.int .i64):=by rw[List.set_eq_take_append_cons_drop,if_pos (by rw[hcs.o];omega)];simp
   have g6:cs.length=xs.length:=hcs.o;replace hcj:=hid hcj;refine wk ?_;refine hq.o _ _ _ (hok.o _) ?_;refine sk ?_;rcases hqk:q (xs.getD j 0)with _|_
   .repeat' first
     |refine bd ?_
     | (first|refine aV aoL ?_|refine aB aoL ?_|refine aE ?_|refine bJ ?_|refine bg (fun _=>?_)|refine ax ?_|refine aY ?_)
       simp(config:={maxSteps:=2000000}) only[amM,Kon,push_cast,reduceIte,Nat.reduceEqDiff,Nat.reduceAdd,Nat.reduceMul,Nat.reduceSub,Nat.reduceLT,Nat.reduceLeDiff,Int.reduceLT,Int.reduceLE,Int.reduceAdd,Int.reduceSub,Int.reduceNeg,Int.reduceToNat,Int.reduceEq,reduceCtorEq, *]
     | (first|refine aO aoL ?_|refine aP ?_|refine aD ?_|refine aW ?_|refine bq (aw ?_))
       refine sl ?_
     |exact bh
     |first|apply bj|apply aR|apply bm|apply aS|apply bo|apply aT
     |refine aH ?_
     |refine aC ?_
     |first|refine aF rfl ?_|refine aG rfl ?_|refine ao rfl ?_ ?_|refine aJ rfl (λ_=>?_) (λ_=>?_)|refine aI rfl (λ_=>?_) (λ_=>?_)
     |((first|refine an (λ_=>?_) (λ_=>?_)|refine au (λ_=>?_) (λ_=>?_))<;>try simp(config:={maxSteps:=2000000}) only[amM,Kon,push_cast,reduceIte,Nat.reduceEqDiff,Nat.reduceAdd,Nat.reduceMul,Nat.reduceSub,Nat.reduceLT,Nat.reduceLeDiff,Int.reduceLT,Int.reduceLE,Int.reduceAdd,Int.reduceSub,Int.reduceNeg,Int.reduceToNat,Int.reduceEq,reduceCtorEq, *])
     |refine And.intro trivial ?_
     |refine And.intro aoJ ?_
     |refine aL rfl (λ_=>?_) (λ_=>?_)
     |refine And.intro ?_ ?_
    refine aoO ?_ aoM ⟨a+1,j+1,cs.set a (xs.getD j 0),rfl,aoJ,hlt,by simp[g6],rfl,rfl,?_,?_⟩;omega;have hk:=hqk;rw[hfx.o j hlt,aor,<- hta.o,List.set_eq_take_append_cons_drop,if_pos aoJ];simp only[anE,hk,anh,if_true,List.filter_nil];rw[List.take_append];have:(cs.take a).length=a:=(by simp;omega);rw[ams (l:=cs.take a) aoJ];simp[this];rw[List.drop_set_of_lt aoJ];have:=congrArg (List.drop 1) hdr.o;simpa[anG,Nat.add_comm]using this
   refine wk ?_;refine aoO ?_ aoM ⟨a,j+1,cs,rfl,aoJ,hlt,by simp[g6],rfl,rfl,?_,?_⟩;omega;have hk:=hqk;rw[hfx.o j hlt,aor,<- hta.o];simp only[anE,hk,am0,alG,if_false,List.filter_nil,alY];have:=congrArg (List.drop 1) hdr.o;simpa[anG,Nat.add_comm]using this
  .have g1:¬(j:Int)<(xs.length:Int):=aoJ;have g6:cs.length=xs.length:=hcs.o;have hrep:∀k,eA [AV.int .i64 0] k=(List.replicate k (0:Int)).map (AV.int .i64):=by
    intro k;induction k with
    |zero=>rfl
    |succ k ih=>simp[eA,ih,List.replicate_succ]
   have hjx:j=xs.length:=aoJ;have ht2:cs.take a=xs.filter (λx => !q x):=(by rw[hta.o,hjx,alF]);have hla:(xs.filter λx => !q x).length=a:=(by rw[<- ht2];simp;omega);have ht3:List.take a (cs.map (AV.int .i64))=(xs.filter λx => !q x).map (AV.int .i64):=(by rw[<- List.map_take,ht2]);have hd:List.drop (a+(xs.length-a)) (cs.map (AV.int .i64))=[]:=am4 (by simp;omega);have hfin:=h.o (xs.length-a);rw[hla]at hfin;replace hfin:=hid hfin;clear hjx ht2 hla
   repeat' first
    |refine bd ?_
    | (first|refine aV aoL ?_|refine aB aoL ?_|refine aE ?_|refine bJ ?_|refine bg (fun _=>?_)|refine ax ?_|refine aY ?_)
      simp(config:={maxSteps:=2000000}) only[amM,hrep,aox,Kon,push_cast,reduceIte,Nat.reduceEqDiff,Nat.reduceAdd,Nat.reduceMul,Nat.reduceSub,Nat.reduceLT,Nat.reduceLeDiff,Int.reduceLT,Int.reduceLE,Int.reduceAdd,Int.reduceSub,Int.reduceNeg,Int.reduceToNat,Int.reduceEq,reduceCtorEq, *]
    | (first|refine aO aoL ?_|refine aP ?_|refine aD ?_|refine aW ?_|refine bq (aw ?_))
      refine sl ?_
    |exact bh
    |first|apply bj|apply aR|apply bm|apply aS|apply bo|apply aT
    |refine aH ?_
    |refine aC ?_
    |first|refine aF rfl ?_|refine aG rfl ?_|refine ao rfl ?_ ?_|refine aJ rfl (λ_=>?_) (λ_=>?_)|refine aI rfl (λ_=>?_) (λ_=>?_)
    |((first|refine an (λ_=>?_) (λ_=>?_)|refine au (λ_=>?_) (λ_=>?_))<;>try simp(config:={maxSteps:=2000000}) only[amM,hrep,aox,Kon,push_cast,reduceIte,Nat.reduceEqDiff,Nat.reduceAdd,Nat.reduceMul,Nat.reduceSub,Nat.reduceLT,Nat.reduceLeDiff,Int.reduceLT,Int.reduceLE,Int.reduceAdd,Int.reduceSub,Int.reduceNeg,Int.reduceToNat,Int.reduceEq,reduceCtorEq, *])
    |refine And.intro trivial ?_
    |refine And.intro aoJ ?_
    |refine aL rfl (λ_=>?_) (λ_=>?_)
    |refine And.intro ?_ ?_
   exact aa hfin.o
theorem RY{f:FuncId}{caps:List AV}{cap:Option Nat}(h:K (.int .i64 (-1)) L):alo 116 [.sl [] 0 cap,.func f caps] L K:=by
 refine aln fq ?_;refine ah (λn T' L'=>n=0/\T'=[(8,.int .i64 0),(7,.int .i64 0)]/\L'=L) (CutS (b:=alr _)) ⟨rfl,rfl,rfl⟩ ?_;rintro _ _ _ ⟨rfl,rfl,rfl⟩;refine wk ?_
 all_goals (first|refine ab rfl (Kto h ?_)|refine aa (Kto h ?_)|refine ab (by simp only[AV.refs,AV.refsL, *];rfl) (Kto h ?_)|refine bu (ab rfl (Kto h ?_))|(trace_state;fail))
 all_goals (first|(simp[*];done)|(simp[*];omega)|(simp[*];intros;omega)|(simp_all[Hid,Hid];done)|(simp_all[Hid,Hid];omega))
theorem agZ{f:FuncId}{caps:List AV}{cap:Option Nat}(h:K (.sl [] 0 cap) L):alo 67 [.sl [] 0 cap,.func f caps] L K:=by
 refine ac eV (by simp[bZ]) ?_;simp only[bZ,am]
 repeat' first
  |refine bd ?_
  | (first|refine aV aoL ?_|refine aB aoL ?_|refine aE ?_|refine bJ ?_|refine bg (fun _=>?_)|refine ax ?_|refine aY ?_|refine RY ?_|refine aU (RY ⟨rfl,rfl⟩) (RY ⟨rfl,rfl⟩) ?_|refine aA (RY ⟨rfl,rfl⟩) ?_)
    refine sm ?_
  | (first|refine aO aoL ?_|refine aP ?_|refine aD ?_|refine aW ?_|refine bq (aw ?_))
    refine sl ?_
  |exact bh
  |first|apply bj|apply aR|apply bm|apply aS|apply bo|apply aT
  |refine aH ?_
  |refine aC ?_
  |first|refine aF rfl ?_|refine aG rfl ?_|refine ao rfl ?_ ?_|refine aJ rfl (λ_=>?_) (λ_=>?_)|refine aI rfl (λ_=>?_) (λ_=>?_)
  |((first|refine an (λ_=>?_) (λ_=>?_)|refine au (λ_=>?_) (λ_=>?_))<;>try refine sm ?_)
  |refine And.intro trivial ?_
  |refine And.intro aoJ ?_
  |refine aL rfl (λ_=>?_) (λ_=>?_)
  |refine And.intro ?_ ?_
 all_goals (first|refine ab rfl (Kto h ?_)|refine aa (Kto h ?_)|refine ab (by simp only[AV.refs,AV.refsL, *];rfl) (Kto h ?_)|refine bu (ab rfl (Kto h ?_))|(trace_state;fail))
 all_goals (first|(simp[*];done)|(simp[*];omega)|(simp[*];intros;omega)|(simp_all[Hid,Hid];done)|(simp_all[Hid,Hid];omega))
theorem aj8{f:FuncId}{caps:List AV}{ok:List Blk->Prop}{q:Int->Bool}{xs:List Int}{i:Nat}{rest:List AV}(hq:Y5 f caps ok q)(hok:∀l,ok (L.set i (.cells l)))(hn:xs.length<=1000000)(hL:L[i]?=some (.cells (cf xs++rest)))(h:∀z,K (.lsl i 0 (xs.filter λx => !q x).length none 1) (L.set i (.cells (cf (xs.filter λx => !q x)++dX z)))):
  alo 67 [.lsl i 0 xs.length none 1,.func f caps] L K:=by
 have hi:i<L.length:=(alq.1 hL).1;refine ace hL (aiO hq (λl=>?_) hn (by simp[hi]) λz=>?_);rw[amM];exact hok l;rw[amM];exact h z
def cg(xs:List Int):List Int:=mw (eT xs)
theorem V3:cg []=[]:=by have e:eT []=[]:=al1.1 (df ([]:List Int)).length_eq;have:=ab0 [];unfold cg;rw[e];exact al1.1 (by simpa using this)
theorem aaB(xs:List Int):(cg xs).length<=xs.length:=by have:=ab0 (eT xs);have h2:=(df xs).length_eq;unfold cg;omega
theorem Zq{xs:List Int}(hx:xs≠[])(hn:xs.length<=1000000)(h:K (.tup []) (L++[.cells (cf (eT xs))])):
  alo 105 [.lsl L.length 0 xs.length none 1] (L++[.cells (cf xs)]) K :=
 ajA (rest:=[]) hx hn aoK (by simpa using h)
theorem V2{n:Nat}{xs:List Int}(hl:n=xs.length)(hx:xs≠[])(hn:xs.length<=1000000)(h:∀z,K (.lsl L.length 0 (mw xs).length none 1) (L++[.cells (cf (mw xs)++dX z)])):
  alo 115 [.lsl L.length 0 n none 1] (L++[.cells (cf xs)]) K:=by
 subst hl;exact aet (rest:=[]) hx hn aoK λz=>by simpa using h z
theorem Z0{xs:List Int}(h:xs≠[]):eT xs≠[]:=λe=>h (by have:=(df xs).length_eq;rw[e]at this;exact al1.1 this.symm)
theorem ag8{xs:List Int}{cap:Option Nat}(h0:xs≠[])(hn:xs.length<=1000000)(h:∀z,K (.lsl L.length 0 (cg xs).length none 1) (L++[.cells (cf (cg xs)++dX z)])):
  alo 66 [.sl (cf xs) xs.length cap] L K:=by
 have hl:xs.length≠0:=λe=>h0 (al1.1 e)
 have h1:=hid (Z0 h0);have h2:=hid (df xs).length_eq;replace h:=hid h;replace h0:=hid h0;refine aln qx ?_;refine X7 hl hn ?_;refine aoR ?_;refine Zq h0.o hn ?_;refine aoR ?_;refine V2 h2.o.symm h1.o (by rw[h2.o];exact hn) λz=>?_
 refine aoR ?_;refine UU L.length (.cells (cf (mw (eT xs))++dX z)) rfl (alr _) aoK (by simp[AV.refs]) ?_ ?_;simp only[Blk.refs,dX,<- alW,iY];simpa[AV.ren,cg]using h.o z
theorem aaC{cap:Option Nat}(h:K (.sl [] 0 (some 0)) L):
  alo 66 [.sl [] 0 cap] L K:=by
 replace h:=hid h;refine aln qx ?_;refine ab1 ?_;refine aoR ?_;refine ahX ?_;refine aoR ?_;refine abY ?_;refine aoR ?_;exact aa h.o
theorem ajf{L:List Blk}{ys:List Int}{z:Nat}:(AV.lsl L.length 0 ys.length none 1).snap L.length (cf ys++dX z)=.sl (cf ys) ys.length none:=by simp[AV.snap,List.take_append,dX]
theorem ag9{xs:List Int}{cap:Option Nat}(hn:xs.length<=1000000)(h:∀cap',K (.sl (cf (cg xs)) (cg xs).length cap') L):
  alo 66 [.sl (cf xs) xs.length cap] L K:=by
 by_cases h0:xs=[];subst h0;have h':=h (some 0);rw[V3]at h';exact aaC h';have hl:xs.length≠0:=λe=>h0 (al1.1 e)
 have h1:=hid (Z0 h0);have h2:=hid (df xs).length_eq;replace h:=hid h;replace h0:=hid h0;refine aln qx ?_;refine X7 hl hn ?_;refine aoR ?_;refine Zq h0.o hn ?_;refine aoR ?_;refine V2 h2.o.symm h1.o (by rw[h2.o];exact hn) λz=>?_
 refine aoR ?_;refine KN (i:=L.length) (l:=cf (mw (eT xs))++dX z) aoK ?_;rw[ajf,show(L++[Blk.cells (cf (mw (eT xs))++dX z)]).set L.length .dead=L++[.dead]by simp];exact ab (by simp only[AV.refs,iY]) (h.o none)
theorem abm{ys:List Int}{cap:Option Nat}{ip:Nat}(hn:ys.length<=1000000)(hs:ys.Pairwise (·<=·)):Y5 68 [.ptr ip 0] (λL=>L[ip]?=some (.cells [.sl (cf ys) ys.length cap])) (λx => !(ys.contains x)):=λL x K hok h=>by replace h:=hid h;replace hs:=hid hs;refine aln Tf ?_;refine ale hn hs.o ?_;refine aoR ?_;exact aa h.o
theorem Ug(xs:List Int):(mw xs).Sublist xs:=by
 unfold mw Lib.compact Lib.compactUpTo;have h:(List.range xs.length).map (λj=>xs.toArray[j]!)=xs:=by apply List.ext_getElem aoK;intro j h1 h2;simp[h2]
 have:=(anw (p:=Lib.keeps xs.toArray) (l:=List.range xs.length)).map (λj=>xs.toArray[j]!);rwa[h]at this
theorem aew(xs:List Int):(cg xs).Pairwise (·<=·):=(xt xs).sublist (Ug _)
def Own(L:List Blk)(m:List Int)(v:AV)(L':List Blk):Prop:=(v=.sl [] 0 (some 0)/\m=[]/\L'=L)\/∃z,v=.lsl L.length 0 m.length none 1/\L'=L++[.cells (cf m++dX z)]
def W5(L:List Blk)(m:List Int)(v:AV)(L':List Blk):Prop:=(v=.sl [] 0 (some 0)/\m=[]/\∃X,L'=L++X)\/∃z X,v=.lsl L.length 0 m.length none 1/\L'=L ++ .cells (cf m++dX z)::X
theorem Own.x{L L':List Blk}{m:List Int}{v:AV}(h:Own L m v L'):W5 L m v L':=by rcases h with⟨h1,h2,h3⟩|⟨z,h1,h2⟩;exact .inl ⟨h1,h2,[],by simp[h3]⟩;exact .inr ⟨z,[],h1,h2⟩
theorem W5.len{L L':List Blk}{m:List Int}{v:AV}(h:W5 L m v L'):L.length<=L'.length:=by rcases h with⟨_,_,X,rfl⟩|⟨z,X,_,rfl⟩<;>simp
theorem acQ{xs:List Int}{cap:Option Nat}(hn:xs.length<=1000000)(h:∀v L',Own L (cg xs) v L'->K v L'):
  alo 66 [.sl (cf xs) xs.length cap] L K:=by
 by_cases h0:xs=[];subst h0;exact aaC (h _ _ (.inl ⟨rfl,V3,rfl⟩));exact ag8 h0 hn λz=>h _ _ (.inr ⟨z,rfl,rfl⟩)
abbrev eJ(l:List Int):AV:=.sl (cf l) l.length none
theorem acs{ls:List (List Int)}{k:Nat}(h:k<ls.length):(ls.map eJ).getD k .undef=eJ (ls.getD k []):=by simp[h]
theorem aeh{ls:List (List Int)}{k:Nat}(h:k<ls.length):(ls.take (k+1)).flatten=(ls.take k).flatten++ls.getD k []:=by rw[alN h,List.flatten_append];simp[h]
theorem aiL(ls:List (List Int))(k:Nat):(ls.take k).flatten.length<=ls.flatten.length:=by
 have h:ls.flatten=(ls.take k).flatten++(ls.drop k).flatten:=by rw[<- List.flatten_append,am9]
 rw[h];simp
theorem ag5{ls:List (List Int)}{cap:Option Nat}(hn:ls.length<=1000000)(ht:ls.flatten.length<=1000000)(h:∀cap',K (.sl (cf ls.flatten) ls.flatten.length cap') L):
  alo 153 [.sl (ls.map eJ) ls.length cap] L K:=by
 replace h:=hid h;have htk:=hid (λk=>@aeh ls k);have hle:=hid (aiL ls);have hat:=hid (λk=>@acs ls k);refine aln sh ?_;refine ah (λn T' L'=>∃k:Nat,n=ls.length-k/\k<=ls.length/\T'=[(11,.int .i64 (k:Int)),(10,.int .i64 ls.length),(9,.sl (ls.map eJ) ls.length cap),(3,.int .i64 ((ls.take k).flatten.length:Int)),(2,.sl [] 0 (some 0)),(0,.sl (ls.map eJ) ls.length cap)]/\L=L') (CutS (b:=alr _)) ⟨0,rfl,alw _,rfl,rfl⟩ ?_;rintro _ _ _ ⟨k,rfl,hk,rfl,rfl⟩;by_cases hlt:k<ls.length;have g1:(k:Int)<(ls.length:Int):=aoJ;have g2:=alm k aoJ;have e1:=htk.o k hlt;have e2:=hat.o k hlt;have e3:=hle.o (k+1);obtain⟨l,hl⟩:=alj (ls.getD k []);rw[hl]at e1 e2;have e4:(ls.take (k+1)).flatten.length=(ls.take k).flatten.length+l.length:=by rw[e1,alJ]
 rw[e4]at e3;obtain⟨m,hm⟩:=alj ((ls.take k).flatten.length);rw[hm]at e3 e4⊢;replace e1:=hid e1;replace hm:=hid hm;replace hl:=hid hl;have g3:IntKind.i64.wrap ((m:Int)+(l.length:Int))=(m:Int)+(l.length:Int):=ad aoJ aoJ;have g4:¬((m:Int)+(l.length:Int)<0):=aoJ;refine wk ?_;exact aoO aoJ (CutL (b:=alr _)) ⟨k+1,rfl,hlt,rfl,rfl⟩;have hke:k=ls.length:=aoJ;subst hke;clear hlt hk;have g1:¬(ls.length:Int)<(ls.length:Int):=aoJ;obtain⟨m,hm⟩:=alj (ls.flatten.length);rw[alF,hm];rw[hm]at h ht;rcases amN m with h0|hpos;subst h0;have hnil:=hid (al1.1 hm);refine wk ?_;refine aiH ?_;refine aoR ?_;refine bF (l:=[]) (n:=0) 6 1 rfl (alU 1).symm ?_;refine ah (λn T' L'=>∃k:Nat,n=ls.length-k/\k<=ls.length/\T'=[(27,.int .i64 (k:Int)),(26,.int .i64 ls.length),(25,.sl (ls.map eJ) ls.length cap),(6,.gsl [] 0 L.length 1)]/\L'=L++[.spare 0 1]) aoN ⟨0,rfl,alw _,rfl,rfl⟩ ?_;rintro _ _ _ ⟨k,rfl,hk,rfl,rfl⟩;by_cases hlt:k<ls.length;have g1:(k:Int)<(ls.length:Int):=aoJ;have g2:=alm k aoJ;have e2:=hat.o k hlt;have e3:ls.getD k []=[]:=List.flatten_eq_nil_iff.1 hnil.o _ (by rw[alR,alH hlt];exact amu _);rw[e3]at e2;replace e2:(ls.map eJ).getD k .undef=.sl [] 0 none:=e2;clear e3;refine wk ?_;exact aoO aoJ aoM ⟨k+1,rfl,hlt,rfl,rfl⟩;have hke:k=ls.length:=aoJ;subst hke;have g1:¬(ls.length:Int)<(ls.length:Int):=aoJ;refine wk ?_;refine bu (ab (by rfl) ?_);have:=h.o none;rw[hnil.o]at this;exact this;refine wk ?_;refine aj3 hpos aoJ ?_;refine aoR ?_;refine ah (λn T' L'=>∃(k i:Nat) (X:List Blk) (c:List Int),n=ls.length-k/\k<=ls.length/\Hid (c=(ls.take k).flatten)/\c.length<=m/\i=L.length+X.length/\T'=[(27,.int .i64 (k:Int)),(26,.int .i64 ls.length),(25,.sl (ls.map eJ) ls.length cap),(6,.lsl i 0 c.length none 1)]/\L'=L++(X++[.cells (cf c)])) aoN ⟨0,L.length,[],[],rfl,alw _,hid rfl,alw _,rfl,rfl,rfl⟩ ?_;rintro _ _ _ ⟨k,i,X,c,rfl,hk,hc,hcm,hi,rfl,rfl⟩;have hget:(L++(X++[Blk.cells (cf c)]))[i]?=some (.cells (cf c)):=by subst hi;simp
 replace hi:=hid hi;by_cases hlt:k<ls.length;have g1:(k:Int)<(ls.length:Int):=aoJ;have g2:=alm k aoJ;have e1:=htk.o k hlt;have e2:=hat.o k hlt;have e3:=hle.o (k+1);obtain⟨l,hl⟩:=alj (ls.getD k []);rw[hl]at e1 e2;rw[<- hc.o]at e1;have e4:c.length+l.length<=m:=by rw[e1,alJ,hm]at e3;exact e3
 have hones:(l.map (AV.int .i64)).all AV.one=true:=by simp[AV.one]
 have e5:(c.length+l.length)*8<=140737488355328:=aoJ;have e6:c.length+l.length<=140737488355328:=aoJ;replace e1:=hid e1;replace hl:=hid hl;clear e3;have hdead:(L++(X++[Blk.cells (cf c)])).set i .dead=L++(X++[.dead]):=by rw[hi.o];simp
 have hlen:(L++(X++[Blk.dead])).length=i+1:=by rw[hi.o];simp;omega
 refine wk ?_;refine aoO ?_ aoM ⟨k+1,i+1,X++[.dead],c++l,rfl,hlt,hid e1.o.symm,by simpa using e4,by rw[hi.o];simp;omega,rfl,?_⟩;omega;simp[ams];have hke:k=ls.length:=aoJ;subst hke;have g1:¬(ls.length:Int)<(ls.length:Int):=aoJ;refine wk ?_;refine KN (i:=i) (l:=cf c) hget ?_;rw[show(L++(X++[Blk.cells (cf c)])).set i .dead=L++(X++[.dead])by rw[hi.o];simp];have e:=hc.o;rw[alF]at e;have hs:(AV.lsl i 0 c.length none 1).snap i (cf c)=.sl (cf c) c.length none:=by simp[AV.snap,ams]
 rw[hs];refine ab (by simp only[AV.refs,iY]) ?_;have:=h.o none;rw[<- e]at this;rw[<- e]at hm;rw[hm];exact this
theorem W5.fin{L L':List Blk}{m:List Int}{v:AV}{K:alp}(ho:W5 L m v L')(h:∀v L',Own L m v L'->K v L'):Fin L v L' K:=by rcases ho with⟨rfl,h2,X,rfl⟩|⟨z,X,rfl,rfl⟩;exact ab rfl (h _ _ (.inl ⟨rfl,h2,rfl⟩));refine UU L.length (.cells (cf m++dX z)) rfl (alr _) aoK (by simp[AV.refs]) ?_ ?_;simp only[Blk.refs,dX,<- alW,iY];simpa[AV.ren]using h _ _ (.inr ⟨z,rfl,rfl⟩)
theorem ahv{L0 L:List Blk}{l:List AV}{n:Nat}{cp:Option Nat}{Q:AV->List Blk->Prop}(h:Fin L0 (.sl l n none) L Q):Fin L0 (.sl l n cp) L Q:=λw0 S0 E0 E w v h0 hn hw hR hv=>by refine h w0 S0 E0 E w v h0 hn hw hR ?_;simp only[VR]at hv⊢;obtain⟨p,c,h1,h2,_,h4⟩:=hv;exact⟨p,c,h1,h2,aoK,h4⟩
theorem W5.finF{L L':List Blk}{m:List Int}{v:AV}{K:alp}(ho:W5 L m v L')(h:K (eJ m) L):Fin L v L' K:=by rcases ho with⟨rfl,rfl,X,rfl⟩|⟨z,X,rfl,rfl⟩;exact ahv (ab rfl h);refine KN (i:=L.length) (l:=cf m++dX z) aoK ?_;rw[ajf,show(L++Blk.cells (cf m++dX z)::X).set L.length .dead=L++Blk.dead::X by simp];exact ab (by simp only[AV.refs,iY]) h
theorem ajW{ls:List (List Int)}{cap:Option Nat}(hn:ls.length<=1000000)(ht:ls.flatten.length<=1000000)(h:∀v L',W5 L (cg ls.flatten) v L'->Fin L v L' K):
  alo 108 [.sl (ls.map eJ) ls.length cap] L K:=by
 replace h:=hid h;refine aln Wi ?_;refine ag5 hn ht λcap'=>?_
 refine aoR ?_;refine acQ ht λv L' ho=>?_
 refine aoR ?_;exact h.o v L' ho.x
theorem aiv{ls:List (List Int)}{cap:Option Nat}(hn:ls.length<=1000000)(ht:ls.flatten.length<=1000000)(h:K (eJ (cg ls.flatten)) L):
 alo 108 [.sl (ls.map eJ) ls.length cap] L K:=ajW hn ht λ_ _ ho=>ho.finF h
def jS(o l:List Int):List Int:=o.filter λx => !(!((cg l).contains x))
def xk:List (List Int)->List Int
 |[]=>[]
 |l::ls=>ls.foldl jS (cg l)
theorem abl{l:List Int}{ls:List (List Int)}{k:Nat}(h:k<ls.length):(ls.take (k+1)).foldl jS (cg l)=jS ((ls.take k).foldl jS (cg l)) (ls.getD k []):=by rw[alN h,anu];simp[h]
theorem ahU(o l:List Int):(jS o l).length<=o.length:=anm ..
theorem aiK(ls:List (List Int)):∀o:List Int,(ls.foldl jS o).length<=o.length:=by
 induction ls with
 |nil=>exact λo=>alr _
 |cons l ls ih=>exact λo=>alQ (ih _) (ahU _ _)
theorem ajP{ls:List (List Int)}{cap:Option Nat}(hn:ls.length<=1000000)(hl:∀l∈ls,l.length<=1000000)(h:∀v L',W5 L (xk ls) v L'->Fin L v L' K):
  alo 29 [.sl (ls.map eJ) ls.length cap] L K:=by
 replace h:=hid h;refine ac Wh (by simp[KA]) ?_;simp only[KA,am]
 match ls with
 | [] =>
   refine wk ?_;exact h.o _ _ (.inl ⟨rfl,rfl,[],aoK⟩)
 | l0::ls =>
   have hl0:l0.length<=1000000:=hl _ aoK;replace hl:=hid λl hm=>hl l (amB _ hm)
   have hn':ls.length+1<=1000000:=hn;have g0:((l0::ls).map eJ).getD 0 .undef=eJ l0:=rfl;have g1:0<((l0::ls).map eJ).length:=aoK;refine wk ?_;refine acQ hl0 λv L1 ho=>?_
   refine sk ?_;have ho:=hid ho.x;have hLe:=hid ho.o.len;have g2:((l0::ls).map eJ).drop 1=ls.map eJ:=rfl;have g3:((ls.length:Int)+1).toNat-1=ls.length:=aoJ;have g4:(1:Int)<=(ls.length:Int)+1:=aoJ;have g5:(ls.map eJ).take ls.length=ls.map eJ:=ams aoK;refine wk ?_;have hat:=hid (λk=>@acs ls k);have hstep:=hid (λk=>@abl l0 ls k);have hfl:=hid (λk=>alQ (aiK (ls.take k) (cg l0)) (alQ (aaB l0) hl0));obtain⟨cp,hcp⟩:=alj (Option.map (λx=>x-1) cap);clear g0 g1 g2 g3 g4;simp only[hcp];refine ah (λn T' L'=>∃(k:Nat) (v:AV),n=ls.length-k/\k<=ls.length/\L1.length<=L'.length/\Hid (W5 L ((ls.take k).foldl jS (cg l0)) v L')/\T'=[(17,.int .i64 (k:Int)),(16,.int .i64 ls.length),(15,.sl (ls.map eJ) ls.length cp),(3,v)]) (CutS (b:=alr _)) ⟨0,v,rfl,alw _,alr _,ho,rfl⟩ ?_;clear ho;clear ho;clear v;rintro _ _ L2 ⟨k,v,rfl,hk,hL1,ho,rfl⟩;by_cases hlt:k<ls.length
   .have g1:(k:Int)<(ls.length:Int):=aoJ;have g2:=alm k aoJ;have e1:=hstep.o k hlt;have e2:=hat.o k hlt;have e3:=hfl.o k;have e4:(ls.getD k []).length<=1000000:=hl.o _ (by rw[alR,alH hlt];exact amu _);obtain⟨l,hlk⟩:=alj (ls.getD k []);obtain⟨m,hm⟩:=alj ((ls.take k).foldl jS (cg l0));rw[hlk]at e1 e2 e4;rw[hm]at e1 e3;have ho:=ho.o;rw[hm]at ho;replace ho:=hid ho;replace e1:=hid e1;have e5:=hid (alQ (aaB l) e4);clear hlk;replace hm:=hid hm;clear hm;refine wk ?_;refine ag9 e4 λcap'=>?_
    refine aoR ?_;have hxs:L1.length<=L2.length:=hL1;rcases ho.o with⟨rfl,h2,X,rfl⟩|⟨z,X,rfl,rfl⟩
    .have e6:(ls.take (k+1)).foldl jS (cg l0)=[]:=(by rw[e1.o,h2];rfl);replace e6:=hid e6;refine agZ ?_;refine aoR ?_;refine aoO ?_ (CutL (b:=?_)) ⟨k+1,.sl [] 0 (some 0),rfl,hlt,?_,hid (.inl ⟨rfl,e6.o,X++[.cells [.sl (cf (cg l)) (cg l).length cap']],?_⟩),rfl⟩
     .omega
     .simp at hxs⊢;omega
     .simp at hxs⊢;omega
     .simp
    .refine aj8 (rest:=dX z) (abm (cap:=cap') e5.o (aew l)) (λc=>?_) e3 ?_ λz'=>?_
     .simp
     .simp
     rw[show((L++Blk.cells (cf m++dX z)::X)++[Blk.cells [.sl (cf (cg l)) (cg l).length cap']]).set L.length (.cells (cf (m.filter λx => !(!((cg l).contains x)))++dX z'))=L++Blk.cells (cf (jS m l)++dX z')::(X++[Blk.cells [.sl (cf (cg l)) (cg l).length cap']])by simp[jS],show m.filter (λx => !(!((cg l).contains x)))=jS m l from rfl];refine aoR ?_;refine aoO ?_ (CutL (b:=?_)) ⟨k+1,.lsl L.length 0 (jS m l).length none 1,rfl,hlt,?_,hid (.inr ⟨z',X++[.cells [.sl (cf (cg l)) (cg l).length cap']],?_,?_⟩),rfl⟩
     .omega
     .simp at hxs⊢;omega
     .simp at hxs⊢;omega
     .rw[e1.o]
     .rw[e1.o]
   .have hke:k=ls.length:=aoJ;subst hke;have g1:¬(ls.length:Int)<(ls.length:Int):=aoJ;have ho:=ho.o;rw[alF]at ho;replace ho:=hid ho;refine wk ?_;exact h.o _ _ ho.o
theorem acE{ls:List (List Int)}{cap:Option Nat}(hn:ls.length<=1000000)(hl:∀l∈ls,l.length<=1000000)(h:K (eJ (xk ls)) L):
 alo 29 [.sl (ls.map eJ) ls.length cap] L K:=ajP hn hl λ_ _ ho=>ho.finF h
theorem Zp{X:Type}{l m:List X}{d:X}{i:Nat}(h1:i<l.length)(h2:i<m.length):l.take (i+1)=m.take (i+1)↔l.take i=m.take i/\l.getD i d=m.getD i d:=by
 rw[alN h1,alN h2];have e1:l.getD i d=l[i]:=by simp[h1]
 have e2:m.getD i d=m[i]:=by simp[h2]
 rw[e1,e2];refine⟨λh=>?_,λh=>by rw[h.1,h.2]⟩;have:=List.append_inj' h aoK;exact⟨this.1,by simpa using this.2⟩
theorem afg{xs ys:List Int}{cap cap':Option Nat}(hn:xs.length<=1000000)(h:K (.bool (decide (xs=ys))) L):
  alo 22 [.sl (cf xs) xs.length cap,.sl (cf ys) ys.length cap'] L K:=by
 replace h:=hid h;have no:¬xs=ys->K (.bool false) L:=λe=>by simpa[e]using h.o
 replace no:=hid no;refine ac UG (by simp[yx]) ?_;simp only[yx,am];by_cases hlen:xs.length=ys.length;rotate_left;have hl1:¬(xs.length:Int)=(ys.length:Int):=aoJ;refine wk ?_;exact aa (no.o λe=>hlen (by rw[e]));have hlen':(ys.length:Int)=(xs.length:Int):=aoJ;replace hlen:=hid hlen;refine wk ?_;clear hlen';refine ah (λn T' L'=>∃(i:Nat),n=xs.length-i/\i<=xs.length/\xs.take i=ys.take i/\T'=[(13,.int .i64 (i:Int)),(12,.int .i64 xs.length),(4,.bool false),(1,.sl (cf ys) ys.length cap'),(0,.sl (cf xs) xs.length cap)]/\L=L') (CutS (b:=alr _)) ⟨0,rfl,alw _,rfl,rfl,rfl⟩ ?_;rintro _ _ _ ⟨i,rfl,hi,hti,rfl,rfl⟩;replace hti:=hid hti;by_cases hlt:i<xs.length;have hly:i<ys.length:=by have:=hlen.o;omega
 have h1:(i:Int)<(xs.length:Int):=aoJ;have h1':(i:Int)<(ys.length:Int):=by have:=hlen.o;omega
 have h2:=alm i aoJ;have g5:(cf xs).getD i .undef=.int .i64 (xs.getD i 0):=by simp[hlt]
 have g6:(cf ys).getD i .undef=.int .i64 (ys.getD i 0):=by simp[hly]
 have hsucc:=hid (Zp (l:=xs) (m:=ys) (d:=0) hlt hly);obtain⟨p,hp⟩:=alj (xs.getD i 0);obtain⟨q,hq⟩:=alj (ys.getD i 0);rw[hp,hq]at hsucc;rw[hp]at g5;rw[hq]at g6;clear hp hq;by_cases hpq:p=q;subst hpq;refine wk ?_;exact aoO aoJ (CutS (b:=alr _)) ⟨i+1,rfl,hlt,hsucc.o.2 ⟨hti.o,rfl⟩,rfl,rfl⟩;refine wk ?_;exact aa (no.o λe=>hpq (hsucc.o.1 (by rw[e])).2);have hke:i=xs.length:=aoJ;subst hke;have h1:¬(xs.length:Int)<(xs.length:Int):=aoJ;have e:=hti.o;rw[alF,hlen.o,alF]at e;have h':=h.o;rw[decide_eq_true e]at h';clear e;replace h':=hid h';refine wk ?_;exact aa h'.o
def Sn(b:Nat)(X:List Blk)(v:AV):Prop:=v=.sl [] 0 (some 0)\/∃j n c,v=.lsl (b+j) 0 n none 1/\X[j]?=some (.cells c)/\n<=c.length/\n<=1000000
theorem Sn.app{b:Nat}{X:List Blk}{v:AV}(h:Sn b X v)(Y:List Blk):Sn b (X++Y) v:=by rcases h with rfl|⟨j,n,c,h1,h2,h3⟩;exact .inl rfl;exact .inr ⟨j,n,c,h1,alk h2,h3⟩
theorem Sn.set{b i:Nat}{X:List Blk}{c d:List AV}{v:AV}(h:Sn b X v)(hi:X[i]?=some (.cells c))(hd:d.length=c.length):Sn b (X.set i (.cells d)) v:=by rcases h with rfl|⟨j,n,e,h1,h2,h3⟩;exact .inl rfl;by_cases hij:i=j;subst hij;rw[hi]at h2;cases h2;exact .inr ⟨i,n,d,h1,by simp[(alq.1 hi).1],aoJ,h3.2⟩;exact .inr ⟨j,n,e,h1,by simp[hij,h2],h3⟩
theorem Sn.cell{b:Nat}{X:List Blk}{v:AV}(h:Sn b X v):AV.cells? v=some [v]:=by rcases h with rfl|⟨j,n,c,rfl,_⟩<;>rfl
theorem Own.row{L X L':List Blk}{m:List Int}{v:AV}(h:Own (L++X) m v L')(hm:m.length<=1000000):∃Y,L'=L++(X++Y)/\Sn L.length (X++Y) v:=by rcases h with⟨rfl,_,rfl⟩|⟨z,rfl,rfl⟩;exact⟨[],aoK,.inl rfl⟩;exact⟨[.cells (cf m++dX z)],aoK,.inr ⟨X.length,m.length,cf m++dX z,aoK,aoK,aoK,hm⟩⟩
end Go.Proofs.YtcmfcpjnhephaaaGreatDoor.Av
