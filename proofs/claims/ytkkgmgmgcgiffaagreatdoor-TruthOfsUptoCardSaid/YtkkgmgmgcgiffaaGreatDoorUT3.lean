/- Joined texts of the walk, made small by a program. -/
import Derived.Test.YtkkgmgmgcgiffaaGreatDoorUP4
import Derived.Test.YtkkgmgmgcgiffaaGreatDoorRows
import Derived.KernelRfl
import Derived.Test.YtkkgmgmgcgiffaaGreatDoorUP5
import Derived.Test.YtkkgmgmgcgiffaaGreatDoorUR1
set_option linter.unusedSimpArgs false
set_option linter.unusedVariables false
set_option maxRecDepth 100000
namespace Go.Proofs.YtkkgmgmgcgiffaaGreatDoor.Av
open Go
def ke:LSO:=[Af 4]
def kc:LSO:=[Aa 5 0,Az 6 5,Ac 7 1 6,Ad 8 1 7,Aa 9 0,Az 10 9,Ac 11 0 10,Ad 12 1 11,Ar 13 12,Ak 14 8 13,Aa 15 14,.grp none 15 true
 [Ae 16 15 0,Ba 17 15 16,A7 18 15 0 17,A4 19 15 1 18,Ae 20 15 0,Ba 21 15 20,A7 22 15 1 21,A4 23 15 1 22,AS 24 15 19 23,Ae 25 15 1,AY 26 15 24 25]
 27 (tm 26)]
def kb:LSO:=[Aa 28 0,Az 29 28,Ac 30 1 29,Ad 31 1 30,Ah 32 31 1,Az 33 28,Ac 34 1 33,Ai 1 34 32]
def ka:LSO:=[Ax 4]
def j9:LSO:=[Af 4]
def dd:aW:=⟨35,(.seq (.sreg ke [])
 (.seq (.seq (.sdreg kc [.pure,(.read 0 0),.pure,(.read 0 0),.pure,(.read 0 0),.pure,(.read 0 0),(.read 0 0),.pure,.pure,.pure,(.read 0 0),.pure,(.read 0 0),.pure,(.read 0 0),.pure,(.read 0 0),(.read 0 0),.pure] Cv)
 (.cond (tm 27) (.seq (.sreg kb Cu)
 (.seq (.sreg ka [])
 .ret))
 .skip))
 (.seq (.sreg j9 [])
 .ret))),[(.tmp 4)]⟩
attribute [push_cast] ke kc kb ka j9
theorem jQ:bb Tryz.prog (fun _ _=>1) 154=some dd.raw:=by kernel_rfl
def iT:LSO:=[AT 2]
def iS:LSO:=[Aa 14 0,Az 15 14,Ac 16 1 15,Ad 17 1 16,Aa 3 17]
def iR:LSO:=[Aa 18 0,Az 19 18,Ac 20 1 19,Ad 21 1 20,Aa 22 0,Az 23 22,Ac 24 0 23,Ad 25 1 24,Ar 26 25,Ak 27 21 26,Aa 28 27,.grp none 28 true
 [Ae 29 28 0,Ba 30 28 29,A7 31 28 0 30,A4 32 28 1 31,Ae 33 28 3,Ae 34 28 0,Ba 35 28 34,A7 36 28 1 35,A4 37 28 1 36,BU 38 28 37 1,
 og 39 28 true (.slS (tm 32) (some (tm 33)) (some (tm 38))),AJ 40 28 116 39]
 41 (tm 40)]
def iQ:LSO:=[Aa 42 0,Az 43 42,Ac 44 1 43,Ad 45 1 44,Ah 46 45 1,Az 47 42,Ac 48 1 47,Ai 1 48 46]
def iP:List (an×Kd) :=
 [Bc 49 0,od 50 (.nilchk (tm 49)) (.read 0 1),AL 51 0 50,AM 52 1 51 0 1,Bc 53 3,Bc 54 0,od 55 (.nilchk (tm 54)) (.read 0 1),AL 56 1 55,AM 57 1 56 0 1,
 od 58 (.slS (tm 52) (some (tm 53)) (some (tm 57))) (.read 0 1),
 od 59 (.build [(.int .i64 0),(.str []),(.str []),(.sl [] 0 (some 0)),(.sl [] 0 (some 0))] [(1,(1,(tm 58)))]) .pure,
 od 4 (.alloc [(.int .i64 0),(.str []),(.str []),(.sl [] 0 (some 0)),(.sl [] 0 (some 0))]) .eff]
def gf:List an :=
 [⟨none,(.store 5 (tm 4) (tm 59)),none⟩]
def iO:LSO:=[Ac 60 1 4,Ad 61 1 60,Bs 62 61]
def iN:LSO:=[Aa 63 0,AN 64 155 63 4,Ai 5 2 64]
def iM:LSO:=[Ac 65 0 4,Bd 1 65 3]
def iL:LSO:=[Aa 66 0,o1 67 (.call 154 [(tm 66),(.av (.int .u8 62))])]
def iK:LSO:=[Ac 68 0 4,Bd 1 68 5]
def gW:LSO:=[Aa 69 0,o1 70 (.call 154 [(tm 69),(.av (.int .u8 60))])]
def gV:LSO:=[Ac 71 0 4,Bd 1 71 6]
def gU:LSO:=[Aa 72 0,o1 73 (.call 154 [(tm 72),(.av (.int .u8 126))])]
def gT:LSO:=[Ac 74 0 4,Bd 1 74 8]
def gS:LSO:=[Aa 75 0,o1 76 (.call 154 [(tm 75),(.av (.int .u8 61))]),Ay 77 76]
def gR:LSO:=[Aa 78 0,AN 79 155 78 4,Ai 5 2 79]
def gQ:LSO:=[Ab 5 0]
def gP:LSO:=[Am 6]
def gO:LSO:=[Am 7]
def gN:LSO:=[Aa 80 0,o1 81 (.call 154 [(tm 80),(.av (.int .u8 41))]),Ay 82 81]
def gM:LSO:=[Aa 83 0,Az 84 83,Ac 85 1 84,Ad 86 1 85,Aa 87 0,Az 88 87,Ac 89 0 88,Ad 90 1 89,Ar 91 90,AE 92 86 91]
def gL:LSO:=[Aa 93 0,AN 94 155 93 4,Ai 5 2 94]
def gK:LSO:=[Aa 95 0,Az 96 95,Ac 97 0 96,Ad 98 1 97,Aa 99 0,Az 100 99,Ac 101 1 100,Ad 102 1 101,A9 103 98 102,Aa 8 103]
def gJ:LSO:=[Aa 104 0,Az 105 104,Ac 106 1 105,Ad 107 1 106,Ah 108 107 1,Az 109 104,Ac 110 1 109,Ai 1 110 108]
def gI:LSO:=[Aa 111 8,o1 112 (.bin .eql (tm 111) (.av (.int .u8 42)))]
def gH:LSO:=[Aa 113 5,Ah 114 113 1,Aa 5 114]
def gG:LSO:=[Aa 115 6,Aa 116 7,AO 117 116,Bw 118 117,Bn 119 115 118,Aa 6 119]
def gF:LSO:=[Am 7]
def gE:LSO:=[Aa 120 8,o1 121 (.bin .eql (tm 120) (.av (.int .u8 92)))]
def gD:LSO:=[Aa 122 0,Az 123 122,Ac 124 1 123,Ad 125 1 124,Ah 126 125 2,Aa 127 0,Az 128 127,Ac 129 0 128,Ad 130 1 129,Ar 131 130,
 o1 132 (.bin .gtr (tm 126) (tm 131))]
def gC:LSO:=[Aa 133 0,AN 134 155 133 4,Ai 5 2 134]
def gB:LSO:=[Aa 136 0,Az 137 136,Ac 138 0 137,Ad 139 1 138,Aa 140 0,Az 141 140,Ac 142 1 141,Ad 143 1 142,Aa 144 0,Az 145 144,Ac 146 1 145,Ad 147 1 146,
 Ah 148 147 2,BI 149 139 143 148,Aj 150 181 149,Aa 135 150,As 151 135,Au 152 135,Aa 9 151,Aa 10 152]
def gA:LSO:=[Aa 153 10,Ay 154 153]
def gz:LSO:=[Aa 155 0,AN 156 155 155 4,Ai 5 2 156]
def gy:LSO:=[Aa 157 7,Aa 158 9,Bz 159 158 0,AK 160 159,AH 161 157 160,Aa 7 161]
def gx:LSO:=[Aa 162 0,Az 163 162,Ac 164 1 163,Ad 165 1 164,Ah 166 165 2,Az 167 162,Ac 168 1 167,Ai 1 168 166]
def gw:LSO:=[Aa 169 8,B3 170 169,Aa 171 170,.grp none 171 false
 [Ag 172 171 8,og 173 171 false (.bin .eql (tm 172) (.av (.int .u8 40)))]
 174 (tm 173)]
def gv:LSO:=[Aa 175 0,AN 176 155 175 4,Ai 5 2 176]
def gu:LSO:=[Aa 177 7,Aa 178 8,AK 179 178,AH 180 177 179,Aa 7 180]
def gr:LSO:=[Aa 181 6,Aa 182 7,AO 183 182,Bw 184 183,Bn 185 181 184,Aa 6 185]
def gq:LSO:=[Aa 186 5,Al 187 186 0]
def gp:LSO:=[Aa 188 6,o1 189 (.iaddr 1 (tm 188) (iv 0)),Ad 190 1 189,Ac 191 2 4,Ai 1 191 190]
def gn:LSO:=[Ap 192 5 4,Ai 5 2 192]
def gm:LSO:=[Ac 193 0 4,Ad 194 1 193,AF 195 194 3]
def gl:LSO:=[Aa 196 0,AN 197 155 196 4,Ai 5 2 197]
def gk:LSO:=[Aa 198 5,Al 199 198 1,Aa 200 199,.grp none 200 true
 [Ae 201 200 6,og 202 200 true (.iaddr 1 (tm 201) (iv 0)),A4 203 200 1 202,Ce 204 200 203]
 205 (tm 204),Aa 206 205,.grp none 206 true
 [Ae 207 206 6,og 208 206 true (.iaddr 1 (tm 207) (iv 1)),A4 209 206 1 208,Ce 210 206 209]
 211 (tm 210)]
def gj:LSO:=[Ac 212 0 4,Bd 1 212 7]
def gi:LSO:=[Ap 213 5 4,Ai 5 2 213]
def gh:LSO:=[Ac 214 0 4,Bd 1 214 4]
def gg:LSO:=[Aa 215 6,An 216 215,Ab 217 0]
def gc:LSO:=[Ak 218 217 216]
def gb:LSO:=[Aa 219 217,Aq 220 1 215 217,Ad 221 1 220,Aa 11 219,Aa 12 221]
def ga:LSO:=[Aa 222 11,A0 223 222 0,Aa 224 223,.grp none 224 true
 [Ae 225 224 11,Ae 226 224 5,B5 227 224 225 226]
 228 (tm 227),Aa 229 228,.grp none 229 true
 [Ae 230 229 12,Ce 231 229 230]
 232 (tm 231)]
def f9:LSO:=[Aa 233 0,AN 234 155 233 4,Ai 5 2 234]
def fZ:LSO:=[Aa 235 12,BH 236 235]
def fY:LSO:=[Ab 13 1]
def fX:LSO:=[Aa 237 11,Al 238 237 0]
def fW:LSO:=[Ab 13 0]
def fV:LSO:=[Aa 239 11,Aa 240 5,AE 241 239 240]
def fU:LSO:=[Ab 13 2]
def fT:LSO:=[Ac 242 3 4,Ad 243 1 242,Aa 244 13,Aa 245 12,o1 246 (.build [(.int .i64 0),(.str [])] [(0,(1,(tm 244))),(1,(1,(tm 245)))]),
 o1 247 (.bslice false 2 1 [(.int .i64 0),(.str [])] [(0,(2,(tm 246)))]),o1 248 (.app 1 2 24 [(.int .i64 0),(.str [])] (tm 243) (tm 247)),Ac 249 3 4,Ai 1 249 248]
def fS:LSO:=[Ah 250 217 1,Aa 217 250]
def fR:LSO:=[Ap 251 5 4,Ai 5 2 251]
def ee:aW:=⟨252,(.seq (.sreg iT [])
 (.seq (.sreg iS Cj)
 (.seq (.block 0 (.loop (.seq (.seq (.sdreg iR [.pure,(.read 0 0),.pure,(.read 0 0),.pure,(.read 0 0),.pure,(.read 0 0),(.read 0 0),.pure,.pure,.pure,(.read 0 0),.pure,(.read 0 0),.pure,.pure,(.read 0 0),.pure,(.read 0 0),.pure] Cv)
 (.cond (tm 41) .skip
 (.exit 0)))
 (.block 1 (.sreg iQ Cu)))))
 (.seq (.dregM iP gf Cv)
 (.seq (.seq (.sreg iO Ch)
 (.cond (tm 62) (.seq (.sreg iN Cq)
 .ret)
 .skip))
 (.seq (.sreg iM Cr)
 (.seq (.seq (.sreg iL Cg)
 (.cond (tm 67) (.sreg iK Cr)
 (.seq (.sreg gW Cg)
 (.cond (tm 70) (.sreg gV Cr)
 (.seq (.sreg gU Cg)
 (.cond (tm 73) (.sreg gT Cr)
 .skip))))))
 (.seq (.seq (.sreg gS Ch)
 (.cond (tm 77) (.seq (.sreg gR Cq)
 .ret)
 .skip))
 (.seq (.sreg gQ [])
 (.seq (.sreg gP [])
 (.seq (.sreg gO [])
 (.seq (.block 2 (.loop (.seq (.seq (.sreg gN Ch)
 (.cond (tm 82) .skip
 (.exit 2)))
 (.block 3 (.seq (.seq (.sdreg gM [.pure,(.read 0 0),.pure,(.read 0 0),.pure,(.read 0 0),.pure,(.read 0 0),(.read 0 0)] Cx)
 (.cond (tm 92) (.seq (.sreg gL Cq)
 .ret)
 .skip))
 (.seq (.sdreg gK [.pure,(.read 0 0),.pure,(.read 0 0),.pure,(.read 0 0),.pure,(.read 0 0)] Cx)
 (.seq (.sreg gJ Cu)
 (.seq (.sreg gI Cg)
 (.cond (tm 112) (.seq (.sreg gH Ch)
 (.seq (.sreg gG Ck)
 (.sreg gF [])))
 (.seq (.sreg gE Cg)
 (.cond (tm 121) (.seq (.seq (.sdreg gD [.pure,(.read 0 0),.pure,(.read 0 0),.pure,.pure,(.read 0 0),.pure,(.read 0 0),(.read 0 0)] CB)
 (.cond (tm 132) (.seq (.sreg gC Cq)
 .ret)
 .skip))
 (.seq (.sdreg gB [.pure,(.read 0 0),.pure,(.read 0 0),.pure,(.read 0 0),.pure,(.read 0 0),.pure,(.read 0 0),.pure,(.read 0 0),.pure,(.read 0 0),(.read 0 0),.pure,.pure,.pure,.pure] [true,true,false,false,false,false,false,false,false,false,false,false,false,false,false,false,false,false,false,false])
 (.seq (.seq (.sreg gA Cg)
 (.cond (tm 154) (.seq (.sreg gz Cq)
 .ret)
 .skip))
 (.seq (.sreg gy Ck)
 (.sreg gx Cu)))))
 (.seq (.sreg gw Ci)
 (.cond (tm 174) (.seq (.sreg gv Cq)
 .ret)
 (.sreg gu Cj))))))))))))))
 (.seq (.sreg gr Ck)
 (.seq (.seq (.sreg gq Cg)
 (.cond (tm 187) (.seq (.sreg gp [false,false,false,false])
 (.seq (.sreg gn Cr)
 .ret))
 .skip))
 (.seq (.seq (.sreg gm Ch)
 (.cond (tm 195) (.seq (.sreg gl Cq)
 .ret)
 .skip))
 (.seq (.seq (.sreg gk Ck)
 (.cond (tm 211) (.seq (.sreg gj Cr)
 (.seq (.sreg gi Cr)
 .ret))
 .skip))
 (.seq (.sreg gh Cr)
 (.seq (.seq (.sreg gg [])
 (.block 4 (.loop (.seq (.sreg gc [])
 (.seq (.cond (tm 218) .skip
 (.exit 4))
 (.seq (.block 5 (.seq (.sreg gb Co)
 (.seq (.seq (.sreg ga Ck)
 (.cond (tm 232) (.seq (.sreg f9 Cq)
 .ret)
 .skip))
 (.seq (.sreg fZ Cg)
 (.cond (tm 236) (.seq (.sreg fY [])
 (.seq (.seq (.sreg fX Cg)
 (.cond (tm 238) (.sreg fW [])
 (.seq (.sreg fV Ch)
 (.cond (tm 241) (.sreg fU [])
 .skip))))
 (.sreg fT C2)))
 .skip)))))
 (.sreg fS Cg)))))))
 (.seq (.sreg fR Cr)
 .ret))))))))))))))))))),[(.cell true 5 2)]⟩
attribute [push_cast] iT iS iR iQ iP gf iO iN iM iL iK gW gV gU gT gS gR gQ gP gO gN gM gL gK gJ gI gH gG gF gE gD gC gB gA gz gy gx gw gv gu gr gq gp gn gm gl gk gj gi gh gg gc gb ga f9 fZ fY fX fW fV fU fT fS fR
theorem rB:bb Tryz.prog (fun _ _=>1) 156=some ee.raw:=by kernel_rfl
def uq:LSO:=[AT 2,Ab 3 0]
def uo:LSO:=[Aa 6 0,Ar 7 6,A0 8 7 4096]
def um:LSO:=[o1 9 (.build [(.int .i64 0),(.str []),(.str []),(.sl [] 0 (some 0)),(.sl [] 0 (some 0))] []),Ai 5 2 9,Ab 3 5]
def ul:LSO:=[Aa 10 0,o1 11 (.build [(.str []),(.int .i64 0),(.int .i64 0),(.int .i64 0)] [(0,(1,(tm 10)))]),A3 12 11,Aa 4 12]
def uk:LSO:=[Aa 13 4,AN 14 118 13 1,AT 5,Ai 5 5 14]
def uj:LSO:=[Aa 15 4,Az 16 15,Ac 17 3 16,Ad 18 1 17,Al 19 18 0,Aa 20 19,.grp none 20 true
 [Ae 21 20 4,Ba 22 20 21,A7 23 20 1 22,A4 24 20 1 23,Ae 25 20 0,BG 26 20 25,B5 27 20 24 26]
 28 (tm 27)]
def ui:LSO:=[Aa 29 4,Az 30 29,Ac 31 3 30,Bd 1 31 4]
def uh:LSO:=[Aa 32 4,Az 33 32,Ac 34 3 33,Ad 35 1 34,AF 36 35 0]
def ug:List (an×Kd) :=
 [od 37 (.build [(.int .i64 0),(.str []),(.str []),(.sl [] 0 (some 0)),(.sl [] 0 (some 0))] []) .pure,Bc 38 4,od 39 (.nilchk (tm 38)) (.read 0 1),AL 40 3 39,AM 41 1 40 0 1,
 (⟨none,(.store 5 (tm 2) (tm 37)),none⟩,.eff)]
def o9:List an :=
 [⟨(some 3),(.mv (tm 41)),none⟩]
def uf:LSO:=[Ap 42 5 5,Ai 5 2 42,Ab 3 0]
def mH:aW:=⟨43,(.seq (.sreg uq [])
 (.seq (.seq (.sreg uo Ch)
 (.cond (tm 8) (.seq (.sreg um Cg)
 .ret)
 .skip))
 (.seq (.sreg ul Ci)
 (.seq (.sreg uk Ch)
 (.seq (.seq (.sreg uj Cl)
 (.cond (tm 28) (.sreg ui [false,false,false])
 .skip))
 (.seq (.seq (.sreg uh Cj)
 (.cond (tm 36) (.seq (.dregM ug o9 Ck)
 .ret)
 .skip))
 (.seq (.sreg uf Cg)
 .ret))))))),[(.cell true 5 2),(.tmp 3)]⟩
attribute [push_cast] uq uo um ul uk uj ui uh ug o9 uf
theorem J6:bb Tryz.prog (fun _ _=>1) 76=some mH.raw:=by kernel_rfl
end Go.Proofs.YtkkgmgmgcgiffaaGreatDoor.Av
set_option maxRecDepth 100000
namespace Go.Proofs.YtkkgmgmgcgiffaaGreatDoor.Av
open Go
def fj:LSO:=[AT 4]
def fi:LSO:=[Aa 7 0,o1 8 (.call 154 [(tm 7),(.av (.int .u8 40))]),Ay 9 8]
def fh:LSO:=[Aa 10 0,AN 11 155 10 4,Ai 5 4 11]
def fg:LSO:=[Aa 12 0,Az 13 12,Ac 14 2 13,Ad 15 1 14,Ah 16 15 1,Az 17 12,Ac 18 2 17,Ai 1 18 16]
def ff:LSO:=[Aa 19 1,A0 20 19 64]
def fe:LSO:=[Aa 21 0,AN 22 155 21 6,Ai 5 4 22]
def fc:LSO:=[Aa 23 0,Az 24 23,Ac 25 2 24,Ad 26 1 25,A0 27 26 1000]
def fa:LSO:=[Aa 28 0,AN 29 155 28 9,Ai 5 4 29]
def eZ:LSO:=[Ab 5 0]
def eY:LSO:=[Aa 30 5,AB 31 30 3]
def eL:LSO:=[Aa 34 0,Aa 35 5,o1 36 (.idxS (.av (.str [38,124,33])) (tm 35)),Aw 37 154 34 36,Ay 38 37]
def eK:LSO:=[Aa 39 5,o1 40 (.build [(.int .i64 0),(.str []),(.str []),(.sl [] 0 (some 0)),(.sl [] 0 (some 0))] [(0,(1,(tm 39)))]),AT 6,Ai 5 6 40]
def eJ:LSO:=[Aa 41 5,Al 42 41 2]
def eI:List (an×Kd) :=
 [AL 43 4 6,AM 44 1 43 0 1,Bc 45 0,Bc 46 1,od 47 (.bin .add (tm 46) (iv 1)) .pure,od 48 (.call 118 [(tm 45),(tm 47)]) .eff,
 od 49 (.bslice false 5 1 [(.int .i64 0),(.str []),(.str []),(.sl [] 0 (some 0)),(.sl [] 0 (some 0))] [(0,(5,(tm 48)))]) (.read 0 0)]
def d7:List an :=
 [⟨(some 50),(.app 0 5 88 [(.int .i64 0),(.str []),(.str []),(.sl [] 0 (some 0)),(.sl [] 0 (some 0))] (tm 44) (tm 49)),none⟩,⟨(some 51),(.faddr 4 (tm 6)),none⟩,
 ⟨none,(.store 1 (tm 51) (tm 50)),none⟩]
def eH:LSO:=[Aa 52 5,AB 53 52 2,Aa 54 53,.grp none 54 true
 [Ae 55 54 0,Ba 56 54 55,A7 57 54 3 56,A4 58 54 1 57,AX 59 54 58 0]
 60 (tm 59),Aa 61 60,.grp none 61 true
 [Ae 62 61 0,Ba 63 61 62,A7 64 61 1 63,A4 65 61 1 64,Ae 66 61 0,Ba 67 61 66,A7 68 61 0 67,A4 69 61 1 68,BG 70 61 69,B5 71 61 65 70]
 72 (tm 71),Aa 73 72,.grp none 73 true
 [Ae 74 73 0,Ba 75 73 74,A7 76 73 0 75,A4 77 73 1 76,Ae 78 73 0,Ba 79 73 78,A7 80 73 1 79,A4 81 73 1 80,AS 82 73 77 81,og 83 73 true (.bin .eql (tm 82) (.av (.int .u8 40)))]
 84 (tm 83)]
def eG:List (an×Kd) :=
 [AL 85 4 6,AM 86 1 85 0 1,Bc 87 0,Bc 88 1,od 89 (.bin .add (tm 88) (iv 1)) .pure,od 90 (.call 118 [(tm 87),(tm 89)]) .eff,
 od 91 (.bslice false 5 1 [(.int .i64 0),(.str []),(.str []),(.sl [] 0 (some 0)),(.sl [] 0 (some 0))] [(0,(5,(tm 90)))]) (.read 0 0)]
def d6:List an :=
 [⟨(some 92),(.app 1 5 88 [(.int .i64 0),(.str []),(.str []),(.sl [] 0 (some 0)),(.sl [] 0 (some 0))] (tm 86) (tm 91)),none⟩,⟨(some 93),(.faddr 4 (tm 6)),none⟩,
 ⟨none,(.store 1 (tm 93) (tm 92)),none⟩]
def eF:LSO:=[Aa 94 0,Az 95 94,Ac 96 3 95,Ad 97 1 96,Al 98 97 0,Aa 99 98,Ae 100 99 0,og 101 99 true (.call 154 [(tm 100),(.av (.int .u8 41))]),Bv 102 99 101,
 o1 103 (.pick (tm 99) (tm 102) (.av (.bool false)))]
def eE:LSO:=[Aa 104 0,AN 105 155 104 4,Ai 5 4 105]
def eD:LSO:=[Ap 106 5 6,Ai 5 4 106]
def eB:LSO:=[Aa 32 5,Ah 33 32 1,Aa 5 33]
def eA:LSO:=[Aa 107 0,Aj 108 156 107,Ai 5 4 108]
def br:aW:=⟨109,(.seq (.sreg fj [])
 (.seq (.seq (.sreg fi Ch)
 (.cond (tm 9) (.seq (.sreg fh Cq)
 .ret)
 .skip))
 (.seq (.sreg fg Cu)
 (.seq (.seq (.sreg ff Cg)
 (.cond (tm 20) (.seq (.sreg fe Cq)
 .ret)
 .skip))
 (.seq (.seq (.sreg fc Cj)
 (.cond (tm 27) (.seq (.sreg fa Cq)
 .ret)
 .skip))
 (.seq (.seq (.sreg eZ [])
 (.block 0 (.loop (.seq (.seq (.sreg eY Cg)
 (.cond (tm 31) .skip
 (.exit 0)))
 (.seq (.block 1 (.seq (.seq (.sreg eL Cj)
 (.cond (tm 38) (.exit 1)
 .skip))
 (.seq (.sreg eK Ch)
 (.seq (.seq (.sreg eJ Cg)
 (.cond (tm 42) (.dregM eI d7 CE)
 .skip))
 (.seq (.block 2 (.loop (.seq (.seq (.sdreg eH [.pure,.pure,.pure,.pure,(.read 0 0),.pure,(.read 0 0),.pure,.pure,.pure,.pure,(.read 0 0),.pure,(.read 0 0),.pure,(.read 0 0),.pure,(.read 0 0),(.read 0 0),.pure,.pure,.pure,.pure,(.read 0 0),.pure,(.read 0 0),.pure,(.read 0 0),.pure,(.read 0 0)] Cp)
 (.cond (tm 84) .skip
 (.exit 2)))
 (.block 3 (.dregM eG d6 CE)))))
 (.seq (.seq (.sreg eF Cx)
 (.cond (tm 103) (.seq (.sreg eE Cq)
 .ret)
 .skip))
 (.seq (.sreg eD Cr)
 .ret)))))))
 (.sreg eB Ch))))))
 (.seq (.sreg eA Cq)
 .ret))))))),[(.cell true 5 4)]⟩
attribute [push_cast] fj fi fh fg ff fe fc fa eZ eY eL eK eJ eI d7 eH eG d6 eF eE eD eB eA
theorem dh:bb Tryz.prog (fun r i=>if r=14∧i=5 then 3 else if r=14∧i=7 then 0 else if r=16∧i=5 then 3 else 1) 118=some br.raw:=by kernel_rfl
set_option maxHeartbeats 8000000
set_option maxRecDepth 100000
abbrev rdR (s:List UInt8) (at_ n:Int):Blk:=.cells [.str s,.int .i64 at_,.int .i64 n,.int .i64 0]
theorem R2 {P:Program} {N:Nat} {own:Nat→Nat→Nat} {Q:Exit→Tm→List Blk→Prop} {T:Tm} {lc:cm} {L L':List Blk} (e:L=L') (h:AW P N own lc Q T L'):AW P N own lc Q T L:=e ▸ h
theorem Pa {P:Program} {f:FuncId} {xs:List Opd} {T:Tm} {L:List Blk} {args:List AV} {k:AV→List Blk→Prop} (v:AV) (L2:List Blk) (h:ad P f args L fun av L'=>av=v∧L'=L2) (hx:dW T xs=some args) (hk:k v L2) :
   ∃ v L2,EQv P ⟨none,.call f xs,none⟩ T L v L2∧k v L2:=⟨v,L2,by simp only [EQv,hx];exact h,hk⟩
theorem YB {L:List Blk} {p:Nat} {s:List UInt8} {a n:Int} {v:AV} {X:List Blk} {K:AV→List Blk→Prop} (hr:v.refs (fun i=>decide (i<L.length))=true) (h:K v (L.set p (rdR s a n))):Fin L v (L.set p (rdR s a n)++X) K :=
 jU (by simp) (fun hh k hk'=>by
   rcases List.mem_or_eq_of_mem_set hk' with e|e
   · exact hh k e
   · subst e;rfl) hr h
theorem Wa {s:List UInt8} {i:Nat} {a n:Int} {c:UInt8} {p:Nat} {L:List Blk} (hL:L[p]?=some (rdR s a n)) (ha:a=i) (hi:i<s.length) (g3:s.getD i 0=c) (hs:s.length≤100) {K:AV→List Blk→Prop} (h:K (.bool true) (L.set p (rdR s (a+1) n))) :
   ad Tryz.prog 154 [.ptr p 0,.int .u8 c.toNat] L K:=by
 subst ha
 have g1:(i:Int)<(s.length:Int):=by omega
 have g2:IntKind.i64.wrap ((i:Int)+1)=(i:Int)+1:=ac (by omega) (by omega)
 have hp:p<L.length:=(List.getElem?_eq_some_iff.1 hL).1
 replace h:=hid h
 refine ae jQ (by simp [dd]) ?_
 simp only [dd,ar]
 refine wk ?_
 have:=YB (L:=L) (p:=p) (s:=s) (a:=(i:Int)+1) (n:=n) (v:=.bool true) (X:=[]) (K:=K) rfl h.out
 rwa [List.append_nil] at this
theorem Wb {s:List UInt8} {i:Nat} {a n:Int} {c:UInt8} {p:Nat} {L:List Blk} (hL:L[p]?=some (rdR s a n)) (ha:a=i) (hi:i<s.length) (hc:(s.getD i 0).toNat≠c.toNat) {K:AV→List Blk→Prop} (h:K (.bool false) L) :
   ad Tryz.prog 154 [.ptr p 0,.int .u8 c.toNat] L K:=by
 subst ha
 have g1:(i:Int)<(s.length:Int):=by omega
 have hp:p<L.length:=(List.getElem?_eq_some_iff.1 hL).1
 have g3:¬ ((s.getD i 0).toNat:Int)=(c.toNat:Int):=by omega
 replace h:=hid h
 refine ae jQ (by simp [dd]) ?_
 simp only [dd,ar]
 refine wk ?_
 exact aa h.out
structure O8 (s:List UInt8) (i:Nat) (a b v:UInt8):Prop where
 h0:s.getD i 0=a
 h1:s.getD (i+1) 0=b
 h2:s.getD (i+2) 0=61
 h3:s.getD (i+3) 0=v
 h4:s.getD (i+4) 0=41
 hi:i+5≤s.length
 hs:s.length≤100
 d1:(s.drop i).take 1=[a]
 d2:(s.drop i).take 2=[a,b]
 d3:(s.drop i).take 3=[a,b,61]
 t1:eS [a]=true
 t2:eS [a,b]=true
 t3:eS [a,b,61]=false
 v1:v.toNat≠41∧v.toNat≠42∧v.toNat≠92∧v.toNat≠0∧v.toNat≠40
abbrev Jp (a b v:UInt8):List AV:=[.int .i64 3,.str [a,b],.str [v],.sl [] 0 (some 0),.sl [] 0 (some 0)]
theorem Ut {s:List UInt8} {i:Nat} {a b v:UInt8} (q:O8 s i a b v) {n:Int} {p:Nat} {L:List Blk} (hL:L[p]?=some (rdR s i n)) {K:AV→List Blk→Prop} (h:K (.agg (Jp a b v)) (L.set p (rdR s ((i:Int)+5) n))) :
   ad Tryz.prog 156 [.ptr p 0] L K:=by
 obtain ⟨h0,h1,h2,h3,h4,hi,hs,d1,d2,d3,t1,t2,t3,v1,v2,v3,v4,v5⟩:=q
 have hp:p<L.length:=(List.getElem?_eq_some_iff.1 hL).1
 obtain ⟨M,hM⟩:∃ M:Int→List Blk,∀ x,L.set p (rdR s x n)=M x:=⟨_,fun x=>rfl⟩
 have m0:M i=L:=by
   rw [← hM]
   obtain ⟨_,e⟩:=List.getElem?_eq_some_iff.1 hL
   rw [← e];simp
 have m1:∀ x,(M x).length=L.length:=fun x=>by rw [← hM];simp
 have m2:∀ x (X:List Blk) y,(M x++X).set p (rdR s y n)=M y++X:=fun x X y=>by
   rw [List.set_append_left _ _ (by rw [m1];exact hp),← hM,← hM,List.set_set]
 have m3:∀ x (X:List Blk),(M x++X)[p]?=some (rdR s x n):=fun x X=>by
   rw [List.getElem?_append_left (by rw [m1];exact hp),← hM,List.getElem?_set,if_pos rfl,if_pos hp]
 have m4:∀ x (X:List Blk),(M x++X)[L.length]?=X[0]?:=fun x X=>by
   rw [List.getElem?_append_right (by rw [m1];exact Nat.le_refl _),m1,Nat.sub_self]
 have m5:∀ x (X:List Blk) A,(M x++X).set L.length A=M x++X.set 0 A:=fun x X A=>by
   rw [List.set_append_right _ _ (by rw [m1];exact Nat.le_refl _),m1,Nat.sub_self]
 have m6:∀ x (X:List Blk) k,(M x++X)[L.length+k]?=X[k]?:=fun x X k=>by
   rw [List.getElem?_append_right (by rw [m1];omega),m1,Nat.add_sub_cancel_left]
 have m7:∀ x (X:List Blk) k A,(M x++X).set (L.length+k) A=M x++X.set k A:=fun x X k A=>by
   rw [List.set_append_right _ _ (by rw [m1];omega),m1,Nat.add_sub_cancel_left]
 have m8:∀ x (f:Nat→Bool),(∀ k∈M i,k.refs f=true)→∀ k∈M x,k.refs f=true:=fun x f hh k hk=>by
   rw [m0] at hh
   rw [← hM] at hk
   rcases List.mem_or_eq_of_mem_set hk with e|e
   · exact hh k e
   · subst e;rfl
 replace m8:=hid m8
 rw [hM] at h
 rw [show L=M i from m0.symm]
 clear hL hM m0
 have w1:∀ j:Nat,j≤10→IntKind.i64.wrap ((i:Int)+j+1)=(i:Int)+j+1:=fun j hj=>ac (by omega) (by omega)
 replace w1:=hid w1
 have no:∀ (x:Int) (j:Nat) (c:UInt8),x=(j:Int)→j<s.length→(s.getD j 0).toNat≠c.toNat→∀ {X:List Blk} {K:AV→List Blk→Prop},K (.bool false) (M x++X)→ad Tryz.prog 154 [.ptr p 0,.int .u8 c.toNat] (M x++X) K:=fun x j c e hj hc X K q=>Wb (m3 x X) e hj hc q
 have yes:∀ (x:Int) (j:Nat) (c:UInt8),x=(j:Int)→j<s.length→s.getD j 0=c→∀ {X:List Blk} {K:AV→List Blk→Prop},K (.bool true) (M (x+1)++X)→ad Tryz.prog 154 [.ptr p 0,.int .u8 c.toNat] (M x++X) K:=fun x j c e hj hc X K q=>Wa (m3 x X) e hj hc hs (by rw [m2];exact q)
 replace no:=hid no
 replace yes:=hid yes
 replace h:=hid h
 have hsi:=hid (And.intro hi hs)
 refine ae rB (by simp [ee]) ?_
 simp only [ee,ar]
 refine wk ?_
 refine am (fun m T' L'=>∃ (j:Nat) (x:Int),m=2 - j∧(j=0∧x=(i:Int)∨j=1∧x=(i:Int)+1∨j=2∧x=(i:Int)+1+1)∧T'=[(3,.int .i64 (i:Int)),(2,.ptr L.length 0),(0,.ptr p 0)]∧L'=M x++[.cells [.int .i64 0,.str [],.str [],.sl [] 0 (some 0),.sl [] 0 (some 0)]]) (CutS (b:=by simp [m1])) ⟨0,_,rfl,.inl ⟨rfl,rfl⟩,rfl,rfl⟩ ?_
 rintro _ _ _ ⟨j,x,rfl,hj,rfl,rfl⟩
 rcases hj with ⟨rfl,rfl⟩|⟨rfl,rfl⟩|⟨rfl,rfl⟩
 · have g1:(i:Int)<(s.length:Int):=by omega
   have g2:IntKind.i64.wrap ((i:Int)+1)=(i:Int)+1:=ac (by omega) (by omega)
   have g3:List.take (((i:Int)+1).toNat - i) (List.drop i s)=[a]:=by rw [show ((i:Int)+1).toNat - i=1 by omega];exact d1
   have g4:((i:Int)+1).toNat≤s.length:=by omega
   have g5:i≤((i:Int)+1).toNat:=by omega
   have kk1:Hid (Ctr Tryz.prog 116 [.str [a]] (.bool true)):=hid fun q=>HA (by simp) (by rw [t1];exact q)
   clear d1 d2 d3 t1 t2 t3
   refine wk ?_
   exact ak _ _ _ (by omega) (CutL (b:=by simp [m1])) ⟨1,_,rfl,.inr (.inl ⟨rfl,rfl⟩),rfl,rfl⟩
 · have g0:(i:Int)+1<(s.length:Int):=by omega
   have g2:IntKind.i64.wrap ((i:Int)+1+1)=(i:Int)+1+1:=ac (by omega) (by omega)
   have g3:List.take (((i:Int)+1+1).toNat - i) (List.drop i s)=[a,b]:=by rw [show ((i:Int)+1+1).toNat - i=2 by omega];exact d2
   have kk1:Hid (Ctr Tryz.prog 116 [.str [a,b]] (.bool true)):=hid fun q=>HA (by simp) (by rw [t2];exact q)
   clear d1 d2 d3 t1 t2 t3
   refine wk ?_
   exact ak _ _ _ (by omega) (CutL (b:=by simp [m1])) ⟨2,_,rfl,.inr (.inr ⟨rfl,rfl⟩),rfl,rfl⟩
 have g0:(i:Int)+1+1<(s.length:Int):=by omega
 have g2:IntKind.i64.wrap ((i:Int)+1+1+1)=(i:Int)+1+1+1:=ac (by omega) (by omega)
 have g3:List.take (((i:Int)+1+1+1).toNat - i) (List.drop i s)=[a,b,61]:=by rw [show ((i:Int)+1+1+1).toNat - i=3 by omega];exact d3
 have g4:List.take (((i:Int)+1+1).toNat - i) (List.drop i s)=[a,b]:=by rw [show ((i:Int)+1+1).toNat - i=2 by omega];exact d2
 have kk1:Hid (Ctr Tryz.prog 116 [.str [a,b,61]] (.bool false)):=hid fun q=>HA (by simp) (by rw [t3];exact q)
 clear d1 d2 d3 t1 t2 t3
 refine wk ?_
 have b0:((i:Int)+1+1)=((i+2:Nat):Int):=by omega
 have kk1:Hid (∀ {X:List Blk} {K:AV→List Blk→Prop},K (.bool false) (M ((i:Int)+1+1)++X)→ad Tryz.prog 154 [.ptr p 0,.int .u8 62] (M ((i:Int)+1+1)++X) K):=hid (no.out _ (i+2) 62 b0 (by omega) (by rw [h2];decide))
 have kk2:Hid (∀ {X:List Blk} {K:AV→List Blk→Prop},K (.bool false) (M ((i:Int)+1+1)++X)→ad Tryz.prog 154 [.ptr p 0,.int .u8 60] (M ((i:Int)+1+1)++X) K):=hid (no.out _ (i+2) 60 b0 (by omega) (by rw [h2];decide))
 have kk3:Hid (∀ {X:List Blk} {K:AV→List Blk→Prop},K (.bool false) (M ((i:Int)+1+1)++X)→ad Tryz.prog 154 [.ptr p 0,.int .u8 126] (M ((i:Int)+1+1)++X) K):=hid (no.out _ (i+2) 126 b0 (by omega) (by rw [h2];decide))
 have kk4:Hid (∀ {X:List Blk} {K:AV→List Blk→Prop},K (.bool true) (M ((i:Int)+1+1+1)++X)→ad Tryz.prog 154 [.ptr p 0,.int .u8 61] (M ((i:Int)+1+1)++X) K):=hid (yes.out _ (i+2) 61 b0 (by omega) h2)
 clear b0 g2 g3 g4
 refine wk ?_
 clear kk1 kk2 kk3 kk4
 refine ch (l:=[]) (n:=0) 7 1 rfl (Nat.zero_mul 1).symm ?_
 refine ch (l:=[]) (n:=0) 6 1 rfl (Nat.zero_mul 1).symm ?_
 have q3:∀ z,((v.toNat:Int)=z→False)→¬ (v.toNat:Int)=z:=fun z e=>e
 have e42:¬ (v.toNat:Int)=42:=by omega
 have e92:¬ (v.toNat:Int)=92:=by omega
 have e00:¬ (v.toNat:Int)=0:=by omega
 have e40:¬ (v.toNat:Int)=40:=by omega
 clear q3
 obtain ⟨B1,hB1⟩:∃ B,Blk.cells [AV.int IntKind.i64 0,AV.str [],AV.str [],AV.sl [] 0 (some 0),AV.sl [] 0 (some 0)]=B:=⟨_,rfl⟩
 obtain ⟨B2,hB2⟩:∃ B,Blk.cells [AV.int IntKind.i64 3,AV.str [a,b],AV.str [],AV.sl [] 0 (some 0),AV.sl [] 0 (some 0)]=B:=⟨_,rfl⟩
 rw [hB1,hB2]
 refine R2 (L':=M ((i:Int)+1+1+1)++[B1,B2,.spare 0 1,.spare 0 1]) (by simp) ?_
 have l1:(M ((i:Int)+1+1+1)++[B1,B2]).length=L.length+2:=by simp [m1]
 have l2:(M ((i:Int)+1+1+1)++[B1,B2]++[Blk.spare 0 1]).length=L.length+3:=by simp [m1]
 rw [l1,l2]
 clear l1 l2
 refine am (fun m T' L'=>∃ (j:Nat) (x:Int) (C:List AV),m=1 - j∧(j=0∧x=(i:Int)+1+1+1∧C=[]∨j=1∧x=(i:Int)+1+1+1+1∧C=[.int .u8 v.toNat])∧T'=[(7,.gsl C j (L.length+2) 1),(6,.gsl [] 0 (L.length+3) 1),(5,.int .i64 0),(4,.ptr (L.length+1) 0),(2,.ptr L.length 0),(0,.ptr p 0)]∧L'=M x++[B1,B2,.spare j 1,.spare 0 1]) (CutS (b:=by simp [m1])) ⟨0,_,_,rfl,.inl ⟨rfl,rfl,rfl⟩,rfl,rfl⟩ ?_
 rintro _ _ _ ⟨j,x,C,rfl,hj,rfl,rfl⟩
 rcases hj with ⟨rfl,rfl,rfl⟩|⟨rfl,rfl,rfl⟩
 · have g1:¬ (i:Int)+1+1+1=(s.length:Int):=by omega
   have g5:(i:Int)+1+1+1<(s.length:Int):=by omega
   have g2:IntKind.i64.wrap ((i:Int)+1+1+1+1)=(i:Int)+1+1+1+1:=ac (by omega) (by omega)
   have g3:s.getD ((i:Int)+1+1+1).toNat 0=v:=by rw [show ((i:Int)+1+1+1).toNat=i+3 by omega];exact h3
   have g4:(0:Int)≤(i:Int)+1+1+1:=by omega
   have kk1:Hid (∀ {X:List Blk} {K:AV→List Blk→Prop},K (.bool false) (M ((i:Int)+1+1+1)++X)→ad Tryz.prog 154 [.ptr p 0,.int .u8 41] (M ((i:Int)+1+1+1)++X) K):=hid (no.out _ (i+3) 41 (by omega) (by omega) (by rw [h3];exact v1))
   refine wk ?_
   exact ak _ _ _ (by omega) (CutS (b:=by simp [m1])) ⟨1,_,_,rfl,.inr ⟨rfl,rfl,rfl⟩,rfl,rfl⟩
 · have kk1:Hid (∀ {X:List Blk} {K:AV→List Blk→Prop},K (.bool true) (M ((i:Int)+1+1+1+1+1)++X)→ad Tryz.prog 154 [.ptr p 0,.int .u8 41] (M ((i:Int)+1+1+1+1)++X) K):=hid (yes.out _ (i+4) 41 (by omega) (by omega) h4)
   subst hB1 hB2
   have u1:PK (AV.int IntKind.u8 v.toNat)=true:=rfl
   have u2:List.map LS [AV.int IntKind.u8 v.toNat]=[v]:=by simp [LS]
   refine wk ?_
   rw [show (i:Int)+1+1+1+1+1=(i:Int)+5 by omega]
   exact jU (by simp [m1]) (fun hh=>m8.out _ _ hh) rfl h.out
theorem LJ {s:List UInt8} {i:Nat} {a b v:UInt8} (q:O8 s (i+1) a b v) (h0:s.getD i 0=40) (ha:a.toNat≠38∧a.toNat≠124∧a.toNat≠33) {n d:Int} (hn:0≤n) (hn2:n<1000) (hd:d≤64) {p:Nat} {L:List Blk} (hL:L[p]?=some (rdR s i n)) {K:AV→List Blk→Prop} (h:K (.agg (Jp a b v)) (L.set p (rdR s ((i:Int)+6) (n+1)))) :
   ad Tryz.prog 118 [.ptr p 0,.int .i64 d] L K:=by
 have hp:p<L.length:=(List.getElem?_eq_some_iff.1 hL).1
 obtain ⟨M,hM⟩:∃ M:Int→Int→List Blk,∀ x n,L.set p (rdR s x n)=M x n:=⟨_,fun x n=>rfl⟩
 have m0:M i n=L:=by
   rw [← hM]
   obtain ⟨_,e⟩:=List.getElem?_eq_some_iff.1 hL
   rw [← e];simp
 have m1:∀ x n,(M x n).length=L.length:=fun x n=>by rw [← hM];simp
 have m2:∀ x n (X:List Blk) y m,(M x n++X).set p (rdR s y m)=M y m++X:=fun x n X y m=>by
   rw [List.set_append_left _ _ (by rw [m1];exact hp),← hM,← hM,List.set_set]
 have m3:∀ x n (X:List Blk),(M x n++X)[p]?=some (rdR s x n):=fun x n X=>by
   rw [List.getElem?_append_left (by rw [m1];exact hp),← hM,List.getElem?_set,if_pos rfl,if_pos hp]
 have m4:∀ x n (X:List Blk),(M x n++X)[L.length]?=X[0]?:=fun x n X=>by
   rw [List.getElem?_append_right (by rw [m1];exact Nat.le_refl _),m1,Nat.sub_self]
 have m5:∀ x n (X:List Blk) A,(M x n++X).set L.length A=M x n++X.set 0 A:=fun x n X A=>by
   rw [List.set_append_right _ _ (by rw [m1];exact Nat.le_refl _),m1,Nat.sub_self]
 have m8:∀ x n' (f:Nat→Bool),(∀ k∈M i n,k.refs f=true)→∀ k∈M x n',k.refs f=true:=fun x n' f hh k hk=>by
   rw [m0] at hh
   rw [← hM] at hk
   rcases List.mem_or_eq_of_mem_set hk with e|e
   · exact hh k e
   · subst e;rfl
 replace m8:=hid m8
 rw [hM] at h
 rw [show L=M i n from m0.symm]
 clear hL hM m0
 have e1:((i+1:Nat):Int)=(i:Int)+1:=rfl
 obtain ⟨f0,f1⟩:s.getD (i+1) 0=a∧i+1+5≤s.length∧s.length≤100:=⟨q.h0,q.hi,q.hs⟩
 have kk1:Hid (∀ {X:List Blk} {K:AV→List Blk→Prop},K (.bool true) (M ((i:Int)+1) n++X)→ad Tryz.prog 154 [.ptr p 0,.int .u8 40] (M i n++X) K):=hid fun q=>Wa (c:=40) (m3 _ _ _) rfl (by omega) h0 f1.2 (by rw [m2];exact q)
 have no:∀ (c:UInt8),a.toNat≠c.toNat→∀ {X:List Blk} {K:AV→List Blk→Prop},K (.bool false) (M ((i:Int)+1) (n+1)++X)→ad Tryz.prog 154 [.ptr p 0,.int .u8 c.toNat] (M ((i:Int)+1) (n+1)++X) K:=fun c hc X K q=>Wb (i:=i+1) (m3 _ _ X) (by omega) (by omega) (by rw [f0];exact hc) q
 have kk2:Hid (∀ {X:List Blk} {K:AV→List Blk→Prop},K (.bool false) (M ((i:Int)+1) (n+1)++X)→ad Tryz.prog 154 [.ptr p 0,.int .u8 38] (M ((i:Int)+1) (n+1)++X) K):=hid (no 38 ha.1)
 have kk3:Hid (∀ {X:List Blk} {K:AV→List Blk→Prop},K (.bool false) (M ((i:Int)+1) (n+1)++X)→ad Tryz.prog 154 [.ptr p 0,.int .u8 124] (M ((i:Int)+1) (n+1)++X) K):=hid (no 124 ha.2.1)
 have kk4:Hid (∀ {X:List Blk} {K:AV→List Blk→Prop},K (.bool false) (M ((i:Int)+1) (n+1)++X)→ad Tryz.prog 154 [.ptr p 0,.int .u8 33] (M ((i:Int)+1) (n+1)++X) K):=hid (no 33 ha.2.2)
 have kk5:Hid (∀ {X:List Blk} {K:AV→List Blk→Prop},K (.agg (Jp a b v)) (M ((i:Int)+1+5) (n+1)++X)→ad Tryz.prog 156 [.ptr p 0] (M ((i:Int)+1) (n+1)++X) K):=hid fun r=>Ut q (by rw [e1];exact m3 _ _ _) (by rw [e1,m2];exact r)
 have g0:IntKind.i64.wrap (n+1)=n+1:=ac (by omega) (by omega)
 have g1:¬ 1000<n+1:=by omega
 have g2:¬ 64<d:=by omega
 replace h:=hid h
 clear no ha f0 f1 h0
 refine ae dh (by simp [br]) ?_
 simp only [br,ar]
 refine wk ?_
 refine am (fun m T' L'=>∃ k:Nat,m=3 - k∧k≤3∧T'=[(5,.int .i64 (k:Int)),(4,.ptr L.length 0),(0,.ptr p 0),(1,.int .i64 d)]∧L'=M ((i:Int)+1) (n+1)++[.cells [.int .i64 0,.str [],.str [],.sl [] 0 (some 0),.sl [] 0 (some 0)]]) (CutS (b:=by simp [m1])) ⟨0,rfl,by omega,rfl,rfl⟩ ?_
 rintro _ _ _ ⟨k,rfl,hk,rfl,rfl⟩
 have hk:k=0∨k=1∨k=2∨k=3:=by omega
 rcases hk with rfl|rfl|rfl|rfl
 · refine wk ?_
   exact ak _ _ _ (by omega) (CutS (b:=by simp [m1])) ⟨1,rfl,by omega,rfl,rfl⟩
 · refine wk ?_
   exact ak _ _ _ (by omega) (CutS (b:=by simp [m1])) ⟨2,rfl,by omega,rfl,rfl⟩
 · refine wk ?_
   exact ak _ _ _ (by omega) (CutS (b:=by simp [m1])) ⟨3,rfl,by omega,rfl,rfl⟩
 · refine wk ?_
   rw [show (i:Int)+1+5=(i:Int)+6 by omega]
   trace_state
   exact jU (by simp [m1]) (fun hh=>m8.out _ _ _ hh) rfl h.out
theorem JN {s:List UInt8} {k:Int} {a v:List UInt8} {ks:List AV} {nk:Nat} {cp ck:Option Nat} {n:Int} (hs:s.length≤100) (h1:∀ q,AV.refsL q ks=true)
   (hf:∀ {p:Nat} {L:List Blk} {K:AV→List Blk→Prop},L[p]?=some (rdR s 0 0)→K (.agg [.int .i64 k,.str a,.str v,.sl [] 0 cp,.sl ks nk ck]) (L.set p (rdR s s.length n))→ad Tryz.prog 118 [.ptr p 0,.int .i64 1] L K)
   {L:List Blk} {K:AV→List Blk→Prop} (h:K (.tup [.agg [.int .i64 k,.str a,.str v,.sl [] 0 cp,.sl ks nk ck],.int .i64 0]) L) :
   ad Tryz.prog 76 [.str s] L K:=by
 replace hf:=@hid _ @hf
 replace h:=hid h
 have g1:¬ (4096:Int)<(s.length:Int):=by omega
 have g2:¬ (s.length:Int)<(s.length:Int):=by omega
 refine ae J6 (by simp [mH]) ?_
 simp only [mH,ar]
 refine wk ?_
 refine hf.out (by simp) ?_
 simp only [List.set_append_right _ _ (Nat.le_add_right _ _),Nat.add_sub_cancel_left,List.set_cons_succ,List.set_cons_zero]
 refine sk ?_
 refine wk ?_
 exact ab (by simp only [AV.refs,AV.refsL,h1,Bool.and_self]) h.out
theorem rdM {s:List UInt8} {a0 n0:Int} {p:Nat} {L:List Blk} (hL:L[p]?=some (rdR s a0 n0)):∃ M:Int→Int→List Blk,L=M a0 n0∧(∀ x n,L.set p (rdR s x n)=M x n)∧(∀ x n,(M x n).length=L.length)∧(∀ x n (X:List Blk) y m,(M x n++X).set p (rdR s y m)=M y m++X)∧(∀ x n (X:List Blk),(M x n++X)[p]?=some (rdR s x n)) ∧
   (∀ x n (X:List Blk),(M x n++X)[L.length]?=X[0]?)∧(∀ x n (X:List Blk) A,(M x n++X).set L.length A=M x n++X.set 0 A)∧(∀ x n (X:List Blk) k,(M x n++X)[L.length+k]?=X[k]?)∧(∀ x n (X:List Blk) k A,(M x n++X).set (L.length+k) A=M x n++X.set k A)∧Hid (∀ x n' (f:Nat→Bool),(∀ k∈M a0 n0,k.refs f=true)→∀ k∈M x n',k.refs f=true):=by
 have hp:p<L.length:=(List.getElem?_eq_some_iff.1 hL).1
 obtain ⟨M,hM⟩:∃ M:Int→Int→List Blk,∀ x n,L.set p (rdR s x n)=M x n:=⟨_,fun x n=>rfl⟩
 have m0:M a0 n0=L:=by
   rw [← hM]
   obtain ⟨_,e⟩:=List.getElem?_eq_some_iff.1 hL
   rw [← e];simp
 have m1:∀ x n,(M x n).length=L.length:=fun x n=>by rw [← hM];simp
 have m2:∀ x n (X:List Blk) y m,(M x n++X).set p (rdR s y m)=M y m++X:=fun x n X y m=>by
   rw [List.set_append_left _ _ (by rw [m1];exact hp),← hM,← hM,List.set_set]
 have m3:∀ x n (X:List Blk),(M x n++X)[p]?=some (rdR s x n):=fun x n X=>by
   rw [List.getElem?_append_left (by rw [m1];exact hp),← hM,List.getElem?_set,if_pos rfl,if_pos hp]
 have m4:∀ x n (X:List Blk),(M x n++X)[L.length]?=X[0]?:=fun x n X=>by
   rw [List.getElem?_append_right (by rw [m1];exact Nat.le_refl _),m1,Nat.sub_self]
 have m5:∀ x n (X:List Blk) A,(M x n++X).set L.length A=M x n++X.set 0 A:=fun x n X A=>by
   rw [List.set_append_right _ _ (by rw [m1];exact Nat.le_refl _),m1,Nat.sub_self]
 have m6:∀ x n (X:List Blk) k,(M x n++X)[L.length+k]?=X[k]?:=fun x n X k=>by
   rw [List.getElem?_append_right (by rw [m1];omega),m1,Nat.add_sub_cancel_left]
 have m7:∀ x n (X:List Blk) k A,(M x n++X).set (L.length+k) A=M x n++X.set k A:=fun x n X k A=>by
   rw [List.set_append_right _ _ (by rw [m1];omega),m1,Nat.add_sub_cancel_left]
 have m8:∀ x n' (f:Nat→Bool),(∀ k∈M a0 n0,k.refs f=true)→∀ k∈M x n',k.refs f=true:=fun x n' f hh k hk=>by
   rw [m0] at hh
   rw [← hM] at hk
   rcases List.mem_or_eq_of_mem_set hk with e|e
   · exact hh k e
   · subst e;rfl
 exact ⟨M,m0.symm,hM,m1,m2,m3,m4,m5,m6,m7,hid m8⟩
abbrev Tz:List UInt8:=[40,33,40,122,122,61,120,41,41]
theorem X8:O8 Tz 3 122 122 120:=⟨rfl,rfl,rfl,rfl,rfl,by decide,by decide,rfl,rfl,rfl,by decide,by decide,by decide,by decide⟩
theorem SS {p:Nat} {L:List Blk} (hL:L[p]?=some (rdR Tz 0 0)) {K:AV→List Blk→Prop} (h:K (.agg [.int .i64 2,.str [],.str [],.sl [] 0 (some 0),.sl [.int .i64 3,.str [122,122],.str [120],.sl [] 0 none,.sl [] 0 none] 1 none]) (L.set p (rdR Tz 9 2))) :
   ad Tryz.prog 118 [.ptr p 0,.int .i64 1] L K:=by
 have hp:p<L.length:=(List.getElem?_eq_some_iff.1 hL).1
 obtain ⟨M,m0,hM,m1,m2,m3,m4,m5,m6,m7,m8⟩:=rdM hL
 rw [hM] at h
 rw [m0]
 clear hL hM m0
 have no:∀ (i:Nat) (c:UInt8),i<9→∀ n,((Tz).getD i 0).toNat≠c.toNat→∀ {X:List Blk} {K:AV→List Blk→Prop},K (.bool false) (M i n++X)→ad Tryz.prog 154 [.ptr p 0,.int .u8 c.toNat] (M i n++X) K:=fun i c hi n hc {X K} q=>Wb (i:=i) (m3 _ _ X) rfl hi hc q
 have yes:∀ (i:Nat) (c:UInt8),i<9→∀ n,(Tz).getD i 0=c→∀ {X:List Blk} {K:AV→List Blk→Prop},K (.bool true) (M ((i+1:Nat):Int) n++X)→ad Tryz.prog 154 [.ptr p 0,.int .u8 c.toNat] (M i n++X) K:=fun i c hi n hc {X K} q=>Wa (i:=i) (m3 _ _ X) rfl hi hc (by simp) (by rw [m2];exact q)
 have kk1:Hid (∀ {X:List Blk} {K:AV→List Blk→Prop},K (.bool true) (M 1 0++X)→ad Tryz.prog 154 [.ptr p 0,.int .u8 40] (M 0 0++X) K):=hid (yes 0 40 (by omega) 0 rfl)
 have kk2:Hid (∀ {X:List Blk} {K:AV→List Blk→Prop},K (.bool false) (M 1 1++X)→ad Tryz.prog 154 [.ptr p 0,.int .u8 38] (M 1 1++X) K):=hid (no 1 38 (by omega) 1 (by decide))
 have kk3:Hid (∀ {X:List Blk} {K:AV→List Blk→Prop},K (.bool false) (M 1 1++X)→ad Tryz.prog 154 [.ptr p 0,.int .u8 124] (M 1 1++X) K):=hid (no 1 124 (by omega) 1 (by decide))
 have kk4:Hid (∀ {X:List Blk} {K:AV→List Blk→Prop},K (.bool true) (M 2 1++X)→ad Tryz.prog 154 [.ptr p 0,.int .u8 33] (M 1 1++X) K):=hid (yes 1 33 (by omega) 1 rfl)
 have kk5:Hid (∀ {X:List Blk} {K:AV→List Blk→Prop},K (.bool true) (M 9 2++X)→ad Tryz.prog 154 [.ptr p 0,.int .u8 41] (M 8 2++X) K):=hid (yes 8 41 (by omega) 2 rfl)
 have kk6:Hid (∀ {X:List Blk} {K:AV→List Blk→Prop},K (.agg (Jp 122 122 120)) (M 8 2++X)→ad Tryz.prog 118 [.ptr p 0,.int .i64 2] (M 2 1++X) K):=hid fun r=>LJ (i:=2) X8 rfl (by decide) (by omega) (by omega) (by omega) (m3 _ _ _) (by rw [m2];exact r)
 have g0:IntKind.i64.wrap (0+1)=1:=rfl
 replace h:=hid h
 clear no yes
 refine ae dh (by simp [br]) ?_
 simp only [br,ar]
 refine wk ?_
 refine am (fun m T' L'=>∃ k:Nat,m=2 - k∧k≤2∧T'=[(5,.int .i64 (k:Int)),(4,.ptr L.length 0),(0,.ptr p 0),(1,.int .i64 1)]∧L'=M 1 1++[.cells [.int .i64 0,.str [],.str [],.sl [] 0 (some 0),.sl [] 0 (some 0)]]) (CutS (b:=by simp [m1])) ⟨0,rfl,by omega,rfl,rfl⟩ ?_
 rintro _ _ _ ⟨k,rfl,hk,rfl,rfl⟩
 have hk:k=0∨k=1∨k=2:=by omega
 rcases hk with rfl|rfl|rfl
 · refine wk ?_
   exact ak _ _ _ (by omega) (CutS (b:=by simp [m1])) ⟨1,rfl,by omega,rfl,rfl⟩
 · refine wk ?_
   exact ak _ _ _ (by omega) (CutS (b:=by simp [m1])) ⟨2,rfl,by omega,rfl,rfl⟩
 · refine wk ?_
   refine Pa (.agg (Jp 122 122 120)) (M 8 2++[.cells [.int .i64 0,.str [],.str [],.sl [] 0 (some 0),.sl [] 0 (some 0)],.cells [.int .i64 2,.str [],.str [],.sl [] 0 (some 0),.sl [] 0 (some 0)]]) (kk6.out ⟨rfl,rfl⟩) rfl ?_
   refine sk ?_
   refine wk ?_
   obtain ⟨BB,hBB⟩:∃ B,Blk.cells [.int .i64 2,.str [],.str [],.sl [] 0 (some 0),.sl [.int .i64 3,.str [122,122],.str [120],.sl [] 0 none,.sl [] 0 none] 1 none]=B:=⟨_,rfl⟩
   rw [hBB]
   refine am (fun m T' L'=>m=0∧T'=[(6,.ptr (L.length+1) 0),(5,.int .i64 2),(4,.ptr L.length 0),(0,.ptr p 0),(1,.int .i64 1)]∧L'=M 8 2++[.cells [.int .i64 0,.str [],.str [],.sl [] 0 (some 0),.sl [] 0 (some 0)],BB]) (CutS (b:=by simp [m1])) ⟨rfl,rfl,rfl⟩ ?_
   rintro _ _ _ ⟨rfl,rfl,rfl⟩
   subst hBB
   refine wk ?_
   exact jU (by simp [m1]) (fun hh=>m8.out _ _ _ hh) rfl h.out
abbrev tOr:List UInt8:=[40,124,40,122,122,61,120,41,40,99,110,61,97,41,41]
theorem X7:O8 tOr 3 122 122 120:=⟨rfl,rfl,rfl,rfl,rfl,by decide,by decide,rfl,rfl,rfl,by decide,by decide,by decide,by decide⟩
theorem X6:O8 tOr 9 99 110 97:=⟨rfl,rfl,rfl,rfl,rfl,by decide,by decide,rfl,rfl,rfl,by decide,by decide,by decide,by decide⟩
theorem UX {p:Nat} {L:List Blk} (hL:L[p]?=some (rdR tOr 0 0)) {K:AV→List Blk→Prop} (h:K (.agg [.int .i64 1,.str [],.str [],.sl [] 0 none,.sl [.int .i64 3,.str [122,122],.str [120],.sl [] 0 none,.sl [] 0 none,.int .i64 3,.str [99,110],.str [97],.sl [] 0 none,.sl [] 0 none] 2 none]) (L.set p (rdR tOr 15 3))) :
   ad Tryz.prog 118 [.ptr p 0,.int .i64 1] L K:=by
 have hp:p<L.length:=(List.getElem?_eq_some_iff.1 hL).1
 obtain ⟨M,m0,hM,m1,m2,m3,m4,m5,m6,m7,m8⟩:=rdM hL
 rw [hM] at h
 rw [m0]
 clear hL hM m0
 have no:∀ (i:Nat) (c:UInt8),i<15→∀ n,((tOr).getD i 0).toNat≠c.toNat→∀ {X:List Blk} {K:AV→List Blk→Prop},K (.bool false) (M i n++X)→ad Tryz.prog 154 [.ptr p 0,.int .u8 c.toNat] (M i n++X) K:=fun i c hi n hc {X K} q=>Wb (i:=i) (m3 _ _ X) rfl hi hc q
 have yes:∀ (i:Nat) (c:UInt8),i<15→∀ n,(tOr).getD i 0=c→∀ {X:List Blk} {K:AV→List Blk→Prop},K (.bool true) (M ((i+1:Nat):Int) n++X)→ad Tryz.prog 154 [.ptr p 0,.int .u8 c.toNat] (M i n++X) K:=fun i c hi n hc {X K} q=>Wa (i:=i) (m3 _ _ X) rfl hi hc (by simp) (by rw [m2];exact q)
 have kk1:Hid (∀ {X:List Blk} {K:AV→List Blk→Prop},K (.bool true) (M 1 0++X)→ad Tryz.prog 154 [.ptr p 0,.int .u8 40] (M 0 0++X) K):=hid (yes 0 40 (by omega) 0 rfl)
 have kk2:Hid (∀ {X:List Blk} {K:AV→List Blk→Prop},K (.bool false) (M 1 1++X)→ad Tryz.prog 154 [.ptr p 0,.int .u8 38] (M 1 1++X) K):=hid (no 1 38 (by omega) 1 (by decide))
 have kk3:Hid (∀ {X:List Blk} {K:AV→List Blk→Prop},K (.bool true) (M 2 1++X)→ad Tryz.prog 154 [.ptr p 0,.int .u8 124] (M 1 1++X) K):=hid (yes 1 124 (by omega) 1 rfl)
 have kk4:Hid (∀ {X:List Blk} {K:AV→List Blk→Prop},K (.bool true) (M 15 3++X)→ad Tryz.prog 154 [.ptr p 0,.int .u8 41] (M 14 3++X) K):=hid (yes 14 41 (by omega) 3 rfl)
 have q1:Hid (∀ {X:List Blk} {K:AV→List Blk→Prop},K (.agg (Jp 122 122 120)) (M 8 2++X)→ad Tryz.prog 118 [.ptr p 0,.int .i64 2] (M 2 1++X) K):=hid fun r=>LJ (i:=2) X7 rfl (by decide) (by omega) (by omega) (by omega) (m3 _ _ _) (by rw [m2];exact r)
 have q2:Hid (∀ {X:List Blk} {K:AV→List Blk→Prop},K (.agg (Jp 99 110 97)) (M 14 3++X)→ad Tryz.prog 118 [.ptr p 0,.int .i64 2] (M 8 2++X) K):=hid fun r=>LJ (i:=8) X6 rfl (by decide) (by omega) (by omega) (by omega) (m3 _ _ _) (by rw [m2];exact r)
 have g0:IntKind.i64.wrap (0+1)=1:=rfl
 replace h:=hid h
 clear no yes
 refine ae dh (by simp [br]) ?_
 simp only [br,ar]
 refine wk ?_
 refine am (fun m T' L'=>∃ k:Nat,m=2 - k∧k≤1∧T'=[(5,.int .i64 (k:Int)),(4,.ptr L.length 0),(0,.ptr p 0),(1,.int .i64 1)]∧L'=M 1 1++[.cells [.int .i64 0,.str [],.str [],.sl [] 0 (some 0),.sl [] 0 (some 0)]]) (CutS (b:=by simp [m1])) ⟨0,rfl,by omega,rfl,rfl⟩ ?_
 rintro _ _ _ ⟨k,rfl,hk,rfl,rfl⟩
 have hk:k=0∨k=1:=by omega
 rcases hk with rfl|rfl
 · refine wk ?_
   exact ak _ _ _ (by omega) (CutS (b:=by simp [m1])) ⟨1,rfl,by omega,rfl,rfl⟩
 · refine wk ?_
   have e2:(M 2 1++[Blk.cells [.int .i64 0,.str [],.str [],.sl [] 0 (some 0),.sl [] 0 (some 0)],.cells [.int .i64 1,.str [],.str [],.sl [] 0 (some 0),.sl [] 0 (some 0)]]).length=L.length+2:=by simp [m1]
   refine Nt (L.length+1) 4 5 (c:=[.int .i64 1,.str [],.str [],.sl [] 0 (some 0),.sl [] 0 (some 0)]) (l:=[]) (n:=0) (by simp [m6]) rfl (Nat.zero_mul 5).symm ?_
   rw [e2]
   clear e2
   obtain ⟨B0,hB0⟩:∃ B,Blk.cells [.int .i64 0,.str [],.str [],.sl [] 0 (some 0),.sl [] 0 (some 0)]=B:=⟨_,rfl⟩
   refine R2 (L':=M 2 1++[B0,.cells [.int .i64 1,.str [],.str [],.sl [] 0 (some 0),.gsl [] 0 (L.length+2) 5],.spare 0 5]) (by rw [← hB0];simp [m7]) ?_
   refine am (fun m T' L'=>∃ (j:Nat) (x n:Int) (C:List AV),m=2 - j∧(j=0∧x=2∧n=1∧C=[]∨j=1∧x=8∧n=2∧C=[.int .i64 3,.str [122,122],.str [120],.sl [] 0 none,.sl [] 0 none]∨j=2∧x=14∧n=3∧C=[.int .i64 3,.str [122,122],.str [120],.sl [] 0 none,.sl [] 0 none,.int .i64 3,.str [99,110],.str [97],.sl [] 0 none,.sl [] 0 none])∧T'=[(6,.ptr (L.length+1) 0),(5,.int .i64 1),(4,.ptr L.length 0),(0,.ptr p 0),(1,.int .i64 1)]∧L'=M x n++[B0,.cells [.int .i64 1,.str [],.str [],.sl [] 0 (some 0),.gsl C j (L.length+2) 5],.spare j 5]) (CutS (b:=by simp [m1])) ⟨0,_,_,_,rfl,.inl ⟨rfl,rfl,rfl,rfl⟩,rfl,rfl⟩ ?_
   clear kk1 kk2 kk3
   rintro _ _ _ ⟨j,x,n,C,rfl,hj,rfl,rfl⟩
   rcases hj with ⟨rfl,rfl,rfl,rfl⟩|⟨rfl,rfl,rfl,rfl⟩|⟨rfl,rfl,rfl,rfl⟩
   · refine wk ?_
     refine Pa (.agg (Jp 122 122 120)) (M 8 2++[B0,.cells [.int .i64 1,.str [],.str [],.sl [] 0 (some 0),.gsl [] 0 (L.length+2) 5],.spare 0 5]) (q1.out ⟨rfl,rfl⟩) rfl ?_
     refine sk ?_
     refine wk ?_
     exact ak _ _ _ (by omega) (CutS (b:=by simp [m1])) ⟨1,_,_,_,rfl,.inr (.inl ⟨rfl,rfl,rfl,rfl⟩),rfl,rfl⟩
   · refine wk ?_
     refine Pa (.agg (Jp 99 110 97)) (M 14 3++[B0,.cells [.int .i64 1,.str [],.str [],.sl [] 0 (some 0),.gsl [.int .i64 3,.str [122,122],.str [120],.sl [] 0 none,.sl [] 0 none] 1 (L.length+2) 5],.spare 1 5]) (q2.out ⟨rfl,rfl⟩) rfl ?_
     refine sk ?_
     refine wk ?_
     exact ak _ _ _ (by omega) (CutS (b:=by simp [m1])) ⟨2,_,_,_,rfl,.inr (.inr ⟨rfl,rfl,rfl,rfl⟩),rfl,rfl⟩
   · subst hB0
     refine wk ?_
     refine bE ?_
     simp only [AV.frz,AV.frzL]
     exact jU (by simp [m1]) (fun hh=>m8.out _ _ _ hh) rfl h.out
end Go.Proofs.YtkkgmgmgcgiffaaGreatDoor.Av
