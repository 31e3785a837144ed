/- Joined texts of the walk, made small by a program. -/
import Derived.Test.YtdhjplmjpjfjnaaGreatHP4
import Derived.Test.YtdhjplmjpjfjnaaGreatRows
import Derived.KernelRfl
import Derived.Test.YtdhjplmjpjfjnaaGreatHD1
import Derived.Test.YtdhjplmjpjfjnaaGreatHD2
import Derived.Test.YtdhjplmjpjfjnaaGreatHP5
import Derived.Test.YtdhjplmjpjfjnaaGreatHShelfG
import Derived.Shelf.Spec.SlicesGrow
import Derived.Test.YtdhjplmjpjfjnaaGreatHC2
import Derived.Test.YtdhjplmjpjfjnaaGreatHA1
set_option linter.unusedSimpArgs false
set_option linter.unusedVariables false
set_option maxRecDepth 100000
namespace Go.Proofs.YtdhjplmjpjfjnaaGreat.Av
open Go
def Cy:LSO:=[Am 4]
def Cx:LSO:=[Am 5]
def Cw:LSO:=[Aa 8 1,Aa 9 0,o1 10 (.bslice false 1 2 [(.sl [] 0 (some 0)),(.sl [] 0 (some 0))] [(0,(1,(tm 8))),(1,(1,(tm 9)))]),Ah 11 74 10,Ae 12 11,Ac 13 0]
def Cv:LSO:=[Al 14 13 12]
def Cu:LSO:=[Aj 15 1 11 13,Ab 16 1 15,Aa 7 16]
def Ct:LSO:=[Aa 17 5,Aa 18 7,o1 19 (.app 0 2 32 [(.str []),(.str [])] (.av (.sl [] 0 (some 0))) (tm 18)),Bn 20 19,AZ 21 17 20,Aa 5 21]
def Cs:LSO:=[Ai 22 13 1,Aa 13 22]
def Cr:LSO:=[Aa 23 5,Aa 4 23]
def pT:bh:=⟨24,(.seq (.sreg Cy [])
 (.seq (.sreg Cx [])
 (.seq (.seq (.sreg Cw BL)
 (.block 0 (.loop (.seq (.sreg Cv [])
 (.seq (.cond (tm 14) .skip
 (.exit 0))
 (.seq (.block 1 (.seq (.sreg Cu B5)
 (.sreg Ct B9)))
 (.sreg Cs B4)))))))
 (.seq (.sreg Cr B4)
 .ret)))),[(.tmp 4)]⟩
attribute [push_cast] Cy Cx Cw Cv Cu Ct Cs Cr
theorem zu:bz Tryz.prog (fun r i=>if r=5∧i=2 then 0 else 1) 47=some pT.raw:=by kernel_rfl
def dI:LSO:=[Am 2]
def dH:LSO:=[Ac 3 0]
def dG:LSO:=[Aa 9 0,Ae 10 9,Ac 11 0]
def dF:LSO:=[Al 12 11 10]
def dE:LSO:=[Aj 13 1 9 11,Ab 14 1 13,Aa 5 14]
def dD:LSO:=[Aa 15 3,Aa 16 5,Ae 17 16,Bf 18 15 17,Aa 3 18]
def dC:LSO:=[Aa 19 3,Bh 20 19 0]
def dB:LSO:=[o1 21 (.mkif 9 (.av (.str [108,101,110,32,111,117,116,32,111,102,32,114,97,110,103,101]))),
 .op ⟨none,.bad,none⟩]
def dA:LSO:=[Ai 22 11 1,Aa 11 22]
def dz:LSO:=[Aa 23 3,o1 24 (.call 117 [(.av (.sl [] 0 (some 0))),(tm 23)]),Aa 6 24]
def du:LSO:=[Aa 25 0,Ae 26 25,Ac 27 0]
def dt:LSO:=[Al 28 27 26]
def dr:LSO:=[Aj 29 1 25 27,Ab 30 1 29,Aa 8 30]
def dq:LSO:=[Aa 31 6,Aa 32 8,AZ 33 31 32,Aa 6 33]
def dp:LSO:=[Ai 34 27 1,Aa 27 34]
def dm:LSO:=[Aa 35 6,Aa 2 35]
def cg:bh:=⟨36,(.seq (.sreg dI [])
 (.seq (.sreg dH [])
 (.seq (.seq (.sreg dG [])
 (.block 0 (.loop (.seq (.sreg dF [])
 (.seq (.cond (tm 12) .skip
 (.exit 0))
 (.seq (.block 1 (.seq (.sreg dE B5)
 (.seq (.sreg dD B7)
 (.seq (.sreg dC B4)
 (.cond (tm 20) (.sreg dB [false])
 .skip)))))
 (.sreg dA B4)))))))
 (.seq (.sreg dz B5)
 (.seq (.seq (.sreg du [])
 (.block 2 (.loop (.seq (.sreg dt [])
 (.seq (.cond (tm 28) .skip
 (.exit 2))
 (.seq (.block 3 (.seq (.sreg dr B5)
 (.sreg dq B6)))
 (.sreg dp B4)))))))
 (.seq (.sreg dm B4)
 .ret)))))),[(.tmp 2)]⟩
attribute [push_cast] dI dH dG dF dE dD dC dB dA dz du dt dr dq dp dm
theorem fO:bz Tryz.prog (fun _ _=>1) 74=some cg.raw:=by kernel_rfl
def ye:LSO:=[A7 2,Ac 3 0]
def yd:LSO:=[Aa 7 0,Ah 8 50 7,Aa 6 8,Ar 9 6,Aw 10 6,Aa 4 9,Aa 5 10]
def yc:LSO:=[Aa 11 5,A2 12 11 0]
def yb:LSO:=[Aa 13 5,A7 2,Aa 3 13]
def x9:LSO:=[Aa 14 0,Ae 15 14,Au 16 15 0]
def x8:LSO:=[A7 2,Ac 3 2]
def xZ:LSO:=[Aa 17 0,Bl 18 47 17,
 .op ⟨(some 19),.mkmap,none⟩,
 .op ⟨(some 20),.mkmap,none⟩,o1 21 (.build [(.sl [] 0 (some 0)),.nilmap,.nilmap,(.int .i64 0)] [(0,(1,(tm 18))),(1,(1,(tm 19))),(2,(1,(tm 20))),(3,(1,(iv 0)))]),A4 22 21,
 o1 23 (.build [.nilptr] [(0,(1,(tm 22)))]),A4 24 23,Aa 2 24,Ac 3 0]
def fH:bh:=⟨25,(.seq (.sreg ye [])
 (.seq (.seq (.sreg yd B8)
 (.seq (.sreg yc B4)
 (.cond (tm 12) (.seq (.sreg yb BC)
 .ret)
 .skip)))
 (.seq (.seq (.sreg x9 B5)
 (.cond (tm 16) (.seq (.sreg x8 [])
 .ret)
 .skip))
 (.seq (.sreg xZ [true,true,false,false,false,false,false,false,false,false])
 .ret)))),[(.tmp 2),(.tmp 3)]⟩
attribute [push_cast] ye yd yc yb x9 x8 xZ
theorem ox:bz Tryz.prog (fun _ _=>1) 24=some fH.raw:=by kernel_rfl
def oQ:LSO:=[A4 3 1,Ac 4 0]
def oP:LSO:=[Aa 17 0,AN 18 17]
def oO:LSO:=[Ac 4 1]
def oN:LSO:=[Aa 19 0,Ag 20 19,Ad 21 0 20,Ab 22 1 21,A1 23 4 3,Aq 24 27 22 23,Aa 5 24]
def oM:LSO:=[Aa 25 5,A2 26 25 0]
def oL:LSO:=[Aa 27 5,Aa 4 27]
def oK:LSO:=[Aa 28 0,Ag 29 28,Ad 30 0 29,Ab 31 1 30,Ad 32 1 3,Ab 33 1 32,Aq 34 15 31 33,Aa 6 34]
def oJ:LSO:=[Ad 35 0 3,Ab 36 1 35]
def oI:LSO:=[Au 38 36 1,Aa 37 38]
def oH:LSO:=[Aa 39 0,Ag 40 39,Ad 41 0 40,Ab 42 1 41,Ag 43 42,Ad 44 3 43,Ab 45 1 44,Ai 46 45 1,Ag 47 42,Ad 48 3 47,Ay 1 48 46]
def nE:List (aj×Kd) :=
 [Az 49 0,A5 50 49 0 1,Ap 51 0 50,Ao 52 1 51 0 1,A5 53 52 0 1,Ap 54 1 53,Ao 55 1 54 0 1,Az 56 0,A5 57 56 0 1,Ap 58 0 57,Ao 59 1 58 0 1,A5 60 59 0 1,Ap 61 3 60,Ao 62 1 61 0 1,
 Ap 63 3 3,Ao 64 1 63 0 0,A8 65 48 64 0 0,od 66 (.build [(.sl [] 0 (some 0)),(.sl [] 0 (some 0)),(.sl [] 0 (some 0)),(.int .i64 0)] [(2,(1,(tm 65)))]) .pure,
 od 67 (.box (tm 66)) .eff]
def md:List aj :=
 [⟨none,(.mset .int (tm 55) (tm 62) (tm 67)),none⟩]
def nD:List (aj×Kd) :=
 [Az 68 0,Az 69 0,A5 70 69 0 0,Ap 71 0 70,Ao 72 1 71 0 0,A5 73 72 0 0,Ap 74 3 73,Ao 75 1 74 0 0,Ap 76 1 3,Ao 77 1 76 0 0]
def mc:List aj :=
 [⟨(some 78),(.call 56 [(tm 68),(tm 75),(tm 77)]),none⟩]
def nC:LSO:=[Aa 79 0,Ad 80 1 3,Ab 81 1 80,AU 82 57 79 81 1]
def nB:LSO:=[Au 84 36 2,Aa 83 84]
def nA:LSO:=[Ad 86 1 3,Ab 87 1 86,Ah 88 46 87,Aa 85 88,Ar 89 85,Aw 90 85,Aa 7 89,Aa 8 90]
def nz:LSO:=[Aa 91 0,Ag 92 91,Ad 93 0 92,Ab 94 1 93,Ag 95 94,Ad 96 2 95,Ab 97 1 96,Aa 98 7,o0 (.mdel .str (tm 97) (tm 98))]
def ny:LSO:=[Aa 99 0,Ag 100 99,Ad 101 0 100,Ab 102 1 101,Ag 103 102,Ad 104 1 103,Ab 105 1 104,Aa 106 6,o0 (.mdel .int (tm 105) (tm 106))]
def nw:LSO:=[Aa 107 0,Ad 108 1 3,Ab 109 1 108,AU 110 57 107 109 (-1)]
def nv:LSO:=[Au 112 36 3,Aa 111 112]
def nu:List (aj×Kd) :=
 [Az 113 0,A5 114 113 0 0,Ap 115 0 114,Ao 116 1 115 0 0,A5 117 116 0 0,Ap 118 1 117,Ao 119 1 118 0 0,Az 120 6,od 121 (.mget .int false .nilptr (tm 119) (tm 120)) (.read 0 0),
 Ap 122 3 3,Ao 123 1 122 0 0,A8 124 48 123 0 0]
def ma:List aj :=
 [⟨(some 125),(.nilchk (tm 121)),none⟩,⟨(some 126),(.faddr 2 (tm 125)),none⟩,⟨none,(.store 1 (tm 126) (tm 124)),none⟩]
def nr:LSO:=[Au 128 36 4,Aa 127 128]
def nq:LSO:=[Aa 129 0,Ag 130 129,Ad 131 0 130,Ab 132 1 131,Aa 133 6,AU 134 12 132 133 2,Aa 9 134]
def np:LSO:=[Aa 135 9,Ae 136 135,Ac 137 0]
def nn:LSO:=[Al 138 137 136]
def nl:LSO:=[Aj 139 1 135 137,Ab 140 1 139,Aa 11 140]
def nj:LSO:=[Aa 142 0,Ag 143 142,Ad 144 0 143,Ab 145 1 144,Ag 146 145,Ad 147 1 146,Ab 148 1 147,Aa 149 11,AK 150 148 149,Ag 151 150,Ad 152 0 151,Ab 153 1 152,
 Ah 154 46 153,Aa 141 154,Ar 155 141,Aw 156 141,Aa 12 155,Aa 13 156]
def ni:LSO:=[Aa 157 0,Ag 158 157,Ad 159 0 158,Ab 160 1 159,Ag 161 160,Ad 162 2 161,Ab 163 1 162,Aa 164 12,o0 (.mdel .str (tm 163) (tm 164))]
def nh:LSO:=[Ai 165 137 1,Aa 137 165]
def ng:LSO:=[Aa 166 0,Ad 167 1 3,Ab 168 1 167,AU 169 57 166 168 (-1)]
def nf:LSO:=[Aa 170 9,Ae 171 170,Ac 172 0]
def m9:LSO:=[Al 173 172 171]
def m8:LSO:=[Aj 174 1 170 172,Ab 175 1 174,Aa 15 175]
def mZ:LSO:=[Aa 176 0,Ag 177 176,Ad 178 0 177,Ab 179 1 178,Ag 180 179,Ad 181 1 180,Ab 182 1 181,Aa 183 15,AK 184 182 183,Ag 185 184,Ad 186 0 185,Ab 187 1 186,
 Aa 16 187]
def mY:List (aj×Kd) :=
 [Az 188 0,Az 189 15,Ap 190 2 3,Ao 191 1 190 0 0,Az 192 16,Az 193 16,od 194 (.len false (tm 193)) (.read 0 0),Ap 195 1 3,Ao 196 1 195 0 0,
 od 197 (.len false (tm 196)) (.read 0 0),od 198 (.bin .sub (tm 194) (tm 197)) .pure,od 199 (.slV 1 (tm 192) none (some (tm 198)) none) (.read 0 0),
 od 200 (.call 47 [(tm 191),(tm 199)]) (.read 0 0)]
def l9:List aj :=
 [⟨(some 201),(.call 56 [(tm 188),(tm 189),(tm 200)]),none⟩]
def mX:LSO:=[Ai 202 172 1,Aa 172 202]
def mW:LSO:=[Aa 203 0,Ad 204 2 3,Ab 205 1 204,AU 206 57 203 205 1]
def mV:List (aj×Kd) :=
 [Az 207 0,A5 208 207 0 0,Ap 209 0 208,Ao 210 1 209 0 0,A5 211 210 0 0,Ap 212 1 211,Ao 213 1 212 0 0,Az 214 6,od 215 (.mget .int false .nilptr (tm 213) (tm 214)) (.read 0 0),
 Ap 216 3 3,Ao 217 1 216 0 0,A8 218 48 217 0 0]
def l8:List aj :=
 [⟨(some 219),(.nilchk (tm 215)),none⟩,⟨(some 220),(.faddr 2 (tm 219)),none⟩,⟨none,(.store 1 (tm 220) (tm 218)),none⟩]
def mU:LSO:=[Ac 4 0]
def bB:bh:=⟨221,(.seq (.sreg oQ [])
 (.seq (.seq (.sreg oP B4)
 (.cond (tm 18) (.seq (.sreg oO [])
 .ret)
 .skip))
 (.seq (.sdreg oN [.pure,(.read 0 0),.pure,(.read 0 0),(.read 0 0)] B8)
 (.seq (.seq (.sreg oM B4)
 (.cond (tm 26) (.seq (.sreg oL B4)
 .ret)
 .skip))
 (.seq (.sdreg oK [.pure,(.read 0 0),.pure,(.read 0 0),.pure,(.read 0 0)] BA)
 (.seq (.seq (.sreg oJ B4)
 (.block 0 (.seq (.sreg oI B4)
 (.cond (tm 37) (.seq (.sreg oH BK)
 (.seq (.dregM nE md [false,false,false,false,false,false,false,false,false,false,false,false,false,false,false,false,false,false,false])
 (.seq (.dregM nD mc [false,false,false,false,false,false,false,false,false,false,false])
 (.sreg nC BE))))
 (.seq (.sreg nB B4)
 (.cond (tm 83) (.seq (.sreg nA BQ)
 (.seq (.sreg nz BO)
 (.seq (.sreg ny BO)
 (.sreg nw BE))))
 (.seq (.sreg nv B4)
 (.cond (tm 111) (.dregM nu ma BP)
 (.seq (.sreg nr B4)
 (.cond (tm 127) (.seq (.sreg nq B8)
 (.seq (.seq (.sreg np [])
 (.block 1 (.loop (.seq (.sreg nn [])
 (.seq (.cond (tm 138) .skip
 (.exit 1))
 (.seq (.block 2 (.seq (.sreg nl B5)
 (.seq (.sreg nj [false,true,false,false,false,false,false,false,false,false,false,false,false,false,false,false,false,false])
 (.sreg ni BO))))
 (.sreg nh B4)))))))
 (.seq (.sreg ng BE)
 (.seq (.seq (.sreg nf [])
 (.block 3 (.loop (.seq (.sreg m9 [])
 (.seq (.cond (tm 173) .skip
 (.exit 3))
 (.seq (.block 4 (.seq (.sreg m8 B5)
 (.seq (.sreg mZ [true,false,false,false,false,false,false,false,false,false,false,false,false])
 (.dregM mY l9 BP))))
 (.sreg mX B4)))))))
 (.seq (.sreg mW BE)
 (.dregM mV l8 BP))))))
 .skip))))))))))
 (.seq (.sreg mU [])
 .ret))))))),[(.tmp 4)]⟩
attribute [push_cast] oQ oP oO oN oM oL oK oJ oI oH nE md nD mc nC nB nA nz ny nw nv nu ma nr nq np nn nl nj ni nh ng nf m9 m8 mZ mY l9 mX mW mV l8 mU
theorem dN:bz Tryz.prog (fun _ _=>1) 26=some bB.raw:=by kernel_rfl
def l6:LSO:=[A4 3 1,Ac 4 0]
def l5:LSO:=[Aa 8 0,AN 9 8]
def lZ:LSO:=[Ac 4 1]
def lY:LSO:=[Aa 10 0,Ad 11 1 3,Ab 12 1 11,Aq 13 15 10 12,Aa 5 13]
def lX:LSO:=[Ad 14 0 3,Ab 15 1 14]
def lW:LSO:=[Au 17 15 1,Aa 16 17]
def lV:LSO:=[Ad 19 1 3,Ab 20 1 19,Ah 21 50 20,Aa 18 21,Ar 22 18,Aw 23 18,Aa 6 22,Aa 7 23]
def lU:LSO:=[Aa 25 7,A2 26 25 0,Aa 24 26]
def lT:LSO:=[Ac 4 34]
def lS:LSO:=[Aa 28 5,A3 29 28 0,Aa 27 29]
def kj:LSO:=[Ac 4 68]
def ki:LSO:=[Aa 31 0,Ad 32 1 3,Ab 33 1 32,Aa 34 0,Ag 35 34,Ad 36 0 35,Ab 37 1 36,Bd 38 58 31 33 37,AJ 39 38,Aa 40 39,.grp none 40 true
 [Ax 41 40 1 3,As 42 40 1 41,AA 43 40 42,AH 44 40 43 0,Af 45 40 44,.grp (some (40,true)) 45 false
 [Ak 46 45 0,A9 47 45 1 3,A6 48 45 1 47,og 49 45 false (.slV 1 (tm 48) (some (iv 1)) none none),Bo 50 45 15 46 49,AT 51 45 50 0]
 52 (tm 51)]
 53 (tm 52),Aa 30 53]
def kg:LSO:=[Ac 4 32]
def ke:LSO:=[Aa 55 0,Ag 56 55,Ad 57 1 56,Ab 58 1 57,o1 59 (.mlen (tm 58)),AE 60 59 4096,Aa 54 60]
def kc:LSO:=[Ac 4 80]
def kb:LSO:=[Ac 4 0]
def ka:LSO:=[Au 62 15 2,Aa 61 62]
def j9:LSO:=[Au 63 15 3,Aa 61 63]
def j8:LSO:=[Au 64 15 4,Aa 61 64]
def j7:LSO:=[Aa 65 5,Au 66 65 0]
def j6:LSO:=[Ac 4 32]
def jZ:LSO:=[Ad 67 0 3,Ab 68 1 67]
def jY:LSO:=[Au 70 68 2,Aa 69 70]
def jX:LSO:=[Aa 71 0,Ag 72 71,Ad 73 1 72,Ab 74 1 73,Aa 75 5,AK 76 74 75,Ag 77 76,Ad 78 3 77,Ab 79 1 78,A3 80 79 0]
def jW:LSO:=[Ac 4 66]
def jV:LSO:=[Ac 4 0]
def jU:LSO:=[Au 82 68 3,Aa 81 82]
def jT:LSO:=[Ac 4 0]
def jS:LSO:=[Au 84 68 4,Aa 83 84]
def jR:LSO:=[Aa 85 0,Aa 86 5,A1 87 4 3,Bd 88 59 85 86 87,Aa 4 88]
def jQ:LSO:=[Ac 4 1]
def au:bh:=⟨89,(.seq (.sreg l6 [])
 (.seq (.seq (.sreg l5 B4)
 (.cond (tm 9) (.seq (.sreg lZ [])
 .ret)
 .skip))
 (.seq (.sreg lY B7)
 (.seq (.seq (.sreg lX B4)
 (.block 0 (.seq (.sreg lW B4)
 (.cond (tm 16) (.seq (.sreg lV BA)
 (.seq (.block 1 (.seq (.sreg lU B5)
 (.cond (tm 24) (.seq (.sreg lT [])
 .ret)
 (.seq (.sreg lS B5)
 (.cond (tm 27) (.seq (.sreg kj [])
 .ret)
 (.seq (.sdreg ki [.pure,.pure,(.read 0 0),.pure,(.read 0 0),.pure,(.read 0 0),(.read 0 0),.pure,.pure,.pure,(.read 0 0),(.read 0 0),.pure,.pure,.pure,.pure,(.read 0 0),(.read 0 0)] BJ)
 (.cond (tm 30) (.seq (.sreg kg [])
 .ret)
 (.seq (.sreg ke B8)
 (.cond (tm 54) (.seq (.sreg kc [])
 .ret)
 .skip)))))))))
 (.seq (.sreg kb [])
 .ret)))
 (.seq (.seq (.sreg ka B4)
 (.cond (tm 61) .skip
 (.seq (.sreg j9 B4)
 (.cond (tm 61) .skip
 (.sreg j8 B4)))))
 (.cond (tm 61) (.seq (.sreg j7 B4)
 (.cond (tm 66) (.seq (.sreg j6 [])
 .ret)
 .skip))
 .skip))))))
 (.seq (.seq (.sreg jZ B4)
 (.block 2 (.seq (.sreg jY B4)
 (.cond (tm 69) (.seq (.seq (.sreg jX BD)
 (.cond (tm 80) (.seq (.sreg jW [])
 .ret)
 .skip))
 (.seq (.sreg jV [])
 .ret))
 (.seq (.sreg jU B4)
 (.cond (tm 81) (.seq (.sreg jT [])
 .ret)
 (.seq (.sreg jS B4)
 (.cond (tm 83) (.seq (.sreg jR B7)
 .ret)
 .skip))))))))
 (.seq (.sreg jQ [])
 .ret)))))),[(.tmp 4)]⟩
attribute [push_cast] l6 l5 lZ lY lX lW lV lU lT lS kj ki kg ke kc kb ka j9 j8 j7 j6 jZ jY jX jW jV jU jT jS jR jQ
theorem aJ:bz Tryz.prog (fun _ _=>1) 27=some au.raw:=by kernel_rfl
def lR:LSO:=[Ac 4 0]
def lQ:LSO:=[Aa 7 0,AN 8 7]
def lP:LSO:=[Ac 4 0]
def lO:LSO:=[Aa 10 1,Ah 11 46 10,Aa 9 11,Ar 12 9,Aw 13 9,Aa 5 12,Aa 6 13]
def lN:LSO:=[Aa 14 6,A2 15 14 0]
def lM:LSO:=[Ac 4 0]
def lL:LSO:=[Aa 16 0,Ag 17 16,Ad 18 2 17,Ab 19 1 18,Aa 20 5,o1 21 (.mget .str false (.int .i64 0) (tm 19) (tm 20)),Aa 4 21]
def aP:bh:=⟨22,(.seq (.sreg lR [])
 (.seq (.seq (.sreg lQ B4)
 (.cond (tm 8) (.seq (.sreg lP [])
 .ret)
 .skip))
 (.seq (.sreg lO BI)
 (.seq (.seq (.sreg lN B4)
 (.cond (tm 15) (.seq (.sreg lM [])
 .ret)
 .skip))
 (.seq (.sreg lL B8)
 .ret))))),[(.tmp 4)]⟩
attribute [push_cast] lR lQ lP lO lN lM lL
theorem bY:bz Tryz.prog (fun _ _=>1) 15=some aP.raw:=by kernel_rfl
def rV:LSO:=[A4 1 0,An 2]
def rU:LSO:=[Ad 9 1 1,Ab 10 1 9,Ad 11 2 1,Ab 12 1 11,o1 13 (.bslice false 1 2 [(.sl [] 0 (some 0)),(.sl [] 0 (some 0))] [(0,(1,(tm 10))),(1,(1,(tm 12)))]),Ae 14 13,
 Ac 15 0]
def rT:LSO:=[Al 16 15 14]
def rS:LSO:=[Aj 17 1 13 15,Ab 18 1 17,Aa 4 18]
def rR:LSO:=[Aa 19 4,Ae 20 19,A3 21 20 40]
def rQ:LSO:=[An 2]
def rP:LSO:=[Aa 22 4,Ae 23 22,Ac 24 0]
def rO:LSO:=[Al 25 24 23]
def rN:LSO:=[Aj 26 1 22 24,Ab 27 1 26,Aa 6 27]
def rM:LSO:=[Aa 28 6,Ae 29 28,Ac 30 0]
def pG:LSO:=[Al 31 30 29]
def pF:LSO:=[Aj 32 2 28 30,A1 33 2 32,AM 8,Ay 2 8 33]
def pE:LSO:=[Aa 34 6,Ae 35 34,A3 36 35 10,Aa 37 36,.grp none 37 false
 [A9 38 37 1 8,A6 39 37 1 38,Bi 40 37 39,AO 41 37 40 5000]
 42 (tm 41)]
def pD:LSO:=[An 2]
def pC:LSO:=[Ai 43 30 1,Aa 30 43]
def pB:LSO:=[Ai 44 24 1,Aa 24 44]
def pA:LSO:=[Ai 45 15 1,Aa 15 45]
def pw:LSO:=[Ad 46 3 1,Ab 47 1 46,Ah 48 45 47,Aa 2 48]
def oC:bh:=⟨49,(.seq (.sreg rV [])
 (.seq (.seq (.sreg rU [true,true,true,false,false,false,false])
 (.block 0 (.loop (.seq (.sreg rT [])
 (.seq (.cond (tm 16) .skip
 (.exit 0))
 (.seq (.block 1 (.seq (.sreg rS B5)
 (.seq (.seq (.sreg rR B5)
 (.cond (tm 21) (.seq (.sreg rQ [])
 .ret)
 .skip))
 (.seq (.sreg rP [])
 (.block 2 (.loop (.seq (.sreg rO [])
 (.seq (.cond (tm 25) .skip
 (.exit 2))
 (.seq (.block 3 (.seq (.sreg rN B5)
 (.seq (.sreg rM [])
 (.block 4 (.loop (.seq (.sreg pG [])
 (.seq (.cond (tm 31) .skip
 (.exit 4))
 (.seq (.block 5 (.seq (.sreg pF B5)
 (.seq (.sreg pE B7)
 (.cond (tm 42) (.seq (.sreg pD [])
 .ret)
 .skip))))
 (.sreg pC B4)))))))))
 (.sreg pB B4))))))))))
 (.sreg pA B4)))))))
 (.seq (.sreg pw B6)
 .ret))),[(.tmp 2)]⟩
attribute [push_cast] rV rU rT rS rR rQ rP rO rN rM pG pF pE pD pC pB pA pw
theorem zV:bz Tryz.prog (fun _ _=>1) 14=some oC.raw:=by kernel_rfl
open Go Go.Sort Go.Proofs
variable {L:List Blk} {K:AV→List Blk→Prop}
set_option maxHeartbeats 8000000
set_option maxRecDepth 100000
theorem Hi (z:Array Value):∀ k,(Builtin.zeroCells z k).size=k * z.size:=by
 intro k
 simp [Builtin.zeroCells]
theorem KM:∃ i0,Tryz.prog.info? 65=some i0∧i0.zero=some (.slice none 0 0)∧i0.size=1∧i0.bytes=24:=by
 have h:(Tryz.prog.info? 65).map (fun i=>(i.zero,i.size,i.bytes))=some (some (.slice none 0 0),1,24):=by kernel_rfl
 cases hi:Tryz.prog.info? 65 with
 | none=>rw [hi] at h;cases h
 | some i0 =>
   rw [hi] at h
   simp only [Option.map_some,Option.some.injEq,Prod.mk.injEq] at h
   exact ⟨i0,rfl,h⟩
theorem KP {L:List Blk} {K:AV→List Blk→Prop} (h:K (.sl [] 0 (some 0)) L):ab Tryz.prog 117 [.sl [] 0 (some 0),.int .i64 0] L K :=
 mM Tryz.func117 rfl (by kernel_rfl) (fun w0 S0 E w vs hR hv=>by
   simp only [VRL] at hv
   obtain ⟨v,_,rfl,hv,_,_,rfl,h2,rfl⟩:=hv
   have hv':=hv
   simp only [VR] at hv h2
   obtain ⟨p,c,rfl,_,h3,_⟩:=hv
   have hc:c=0:=h3 0 rfl
   subst hc
   subst h2
   exact (Any8.slices_Grow_room Tryz.growD p 0 0 0 w (Nat.le_refl _) (by omega) (by omega) (by omega)).mono fun e w' ⟨he,hw⟩=>⟨_,he,hv',by subst hw;exact EG.refl _⟩) h
theorem Mk {n:Nat} (h0:0<n) (hn:n≤4000000) (h:K (.lsl L.length 0 0 none 1) (L++[.cells []])):ab Tryz.prog 117 [.sl [] 0 (some 0),.int .i64 (n:Int)] L K:=fun w0 S0 E w vs hR hv=>by
 simp only [VRL,VR] at hv
 obtain ⟨_,_,rfl,⟨p,c,rfl,_,h3,_⟩,_,_,rfl,rfl,rfl⟩:=hv
 have hc:c=0:=h3 0 rfl
 subst hc
 obtain ⟨i0,i1,i2,i3,i4⟩:=KM
 refine .inl ⟨fC Tryz.func117 rfl (by kernel_rfl) _ _,(Any8.slices_Grow_grow Tryz.growD i0 (.slice none 0 0) i1 i2 (by omega) p 0 0 n [] w (Nat.le_refl _) (by omega) (by rw [i4];omega) (by omega) (by simp) (fun _=>rfl) (fun a _ j v hj=>by simp at hj)).mono ?_⟩
 rintro e w' ⟨rfl,rfl⟩
 have r0:Rel w0 S0 E L w.drew:=hR.grown ⟨fun _ _=>rfl,Nat.le_refl _,rfl,rfl,rfl⟩
 let cs:Array Value:=([]:List Value).toArray++Builtin.zeroCells (Value.slice none 0 0).cells (0+n - 0)++Builtin.zeroCells (Value.slice none 0 0).cells (grownCap w (0+n) 0 65 - (0+n))
 have hcs:cs.size=n+(grownCap w (0+n) 0 65 - n):=by
   simp only [cs,Array.size_append,Hi]
   have:(Value.slice none 0 0).cells.size=1:=rfl
   rw [this]
   simp
 have r1:=r0.push (.cells cs 65) (.cells []) ⟨w.heap.size,0,cs.size⟩ rfl rfl ⟨⟨w.heap.size,0,cs.size⟩,cs,65,(0,0),by simp,(show (w.heap.push (Obj.cells cs 65))[w.heap.size]?=some (Obj.cells cs 65 (0,0)) by simp),rfl,by simp,(fun j a ha=>by simp at ha),fun o _ _=>by omega⟩
 refine ⟨_,_,_,_,rfl,r1.1,h,?_,r1.2⟩
 simp only [VR]
 exact ⟨⟨w.heap.size,0,cs.size⟩,grownCap w (0+n) 0 65,0,by simp,rfl,fun _=>rfl,Nat.zero_le _,(fun k hk=>by cases hk),by simp only [hcs];omega⟩
abbrev Et (l:List AV):AV:=.sl l l.length none
theorem LW {ls:List (List AV)} {k:Nat} (h:k<ls.length):(ls.map Et).getD k .undef=Et (ls.getD k []):=by simp [h]
theorem H2 {ls:List (List AV)} {k:Nat} (h:k<ls.length):(ls.take (k+1)).flatten=(ls.take k).flatten++ls.getD k []:=by
 rw [List.take_succ_eq_append_getElem h,List.flatten_append];simp [h]
theorem KX (ls:List (List AV)) (k:Nat):(ls.take k).flatten.length≤ls.flatten.length:=by
 have h:ls.flatten=(ls.take k).flatten++(ls.drop k).flatten:=by rw [← List.flatten_append,List.take_append_drop]
 rw [h];simp
theorem Fk {ls:List (List AV)} {cap:Option Nat} (hn:ls.length≤1100000) (ht:ls.flatten.length≤1100000) (hone:∀ l∈ls,l.all AV.one=true) (href:∀ p,AV.refsL p ls.flatten=true) {L:List Blk} {K:AV→List Blk→Prop} (h:K (.sl ls.flatten ls.flatten.length none) L) :
   ab Tryz.prog 74 [.sl (ls.map Et) ls.length cap] L K:=by
 replace h:=hid h
 have htk:=hid (fun k=>@H2 ls k)
 have hle:=hid (KX ls)
 have hat:=hid (fun k=>@LW ls k)
 replace hone:=hid hone
 replace href:=hid href
 refine aa fO (by simp [cg]) ?_
 simp only [cg,am]
 refine wk ?_
 refine ax (fun n T' L'=>∃ k:Nat,n=ls.length - k∧k≤ls.length∧T'=[(11,.int .i64 (k:Int)),(10,.int .i64 ls.length),(9,.sl (ls.map Et) ls.length cap),(3,.int .i64 ((ls.take k).flatten.length:Int)),(2,.sl [] 0 (some 0)),(0,.sl (ls.map Et) ls.length cap)]∧L=L') (CutS (b:=Nat.le_refl _)) ⟨0,rfl,Nat.zero_le _,rfl,rfl⟩ ?_
 rintro _ _ _ ⟨k,rfl,hk,rfl,rfl⟩
 by_cases hlt:k<ls.length
 · have g1:(k:Int)<(ls.length:Int):=by omega
   have g2:IntKind.i64.wrap ((k:Int)+1)=(k:Int)+1:=ah (by omega) (by omega)
   have e1:=htk.out k hlt
   have e2:=hat.out k hlt
   have e3:=hle.out (k+1)
   obtain ⟨l,hl⟩:∃ l,ls.getD k []=l:=⟨_,rfl⟩
   rw [hl] at e1 e2
   have e4:(ls.take (k+1)).flatten.length=(ls.take k).flatten.length+l.length:=by rw [e1,List.length_append]
   rw [e4] at e3
   obtain ⟨m,hm⟩:∃ m,(ls.take k).flatten.length=m:=⟨_,rfl⟩
   rw [hm] at e3 e4 ⊢
   replace e1:=hid e1
   replace hm:=hid hm
   replace hl:=hid hl
   have g3:IntKind.i64.wrap ((m:Int)+(l.length:Int))=(m:Int)+(l.length:Int):=ah (by omega) (by omega)
   have g4:¬ ((m:Int)+(l.length:Int)<0):=by omega
   refine wk ?_
   exact ay _ _ _ (by omega) (CutL (b:=Nat.le_refl _)) ⟨k+1,rfl,hlt,rfl,rfl⟩
 · have hke:k=ls.length:=by omega
   subst hke
   clear hlt hk
   have g1:¬ (ls.length:Int)<(ls.length:Int):=by omega
   obtain ⟨m,hm⟩:∃ m,ls.flatten.length=m:=⟨_,rfl⟩
   rw [List.take_length,hm]
   rw [hm] at h ht
   rcases Nat.eq_zero_or_pos m with h0|hpos
   · subst h0
     have hnil:=hid (List.length_eq_zero_iff.1 hm)
     have kk1:=@hid _ @KP
     refine wk ?_
     refine cq (l:=[]) (n:=0) 6 1 rfl (Nat.zero_mul 1).symm ?_
     refine ax (fun n T' L'=>∃ k:Nat,n=ls.length - k∧k≤ls.length∧T'=[(27,.int .i64 (k:Int)),(26,.int .i64 ls.length),(25,.sl (ls.map Et) ls.length cap),(6,.gsl [] 0 L.length 1)]∧L'=L++[.spare 0 1]) (CutS (b:=by simp)) ⟨0,rfl,Nat.zero_le _,rfl,rfl⟩ ?_
     rintro _ _ _ ⟨k,rfl,hk,rfl,rfl⟩
     by_cases hlt:k<ls.length
     · have g1:(k:Int)<(ls.length:Int):=by omega
       have g2:IntKind.i64.wrap ((k:Int)+1)=(k:Int)+1:=ah (by omega) (by omega)
       have e2:=hat.out k hlt
       have e3:ls.getD k []=[]:=List.flatten_eq_nil_iff.1 hnil.out _ (by rw [List.getD_eq_getElem?_getD,List.getElem?_eq_getElem hlt];exact List.getElem_mem _)
       rw [e3] at e2
       replace e2:(ls.map Et).getD k .undef=.sl [] 0 none:=e2
       clear e3
       refine wk ?_
       exact ay _ _ _ (by omega) (CutL (b:=by simp)) ⟨k+1,rfl,hlt,rfl,rfl⟩
     · have hke:k=ls.length:=by omega
       subst hke
       have g1:¬ (ls.length:Int)<(ls.length:Int):=by omega
       refine wk ?_
       refine cz (ac (by rfl) ?_)
       have:=h.out
       rw [hnil.out] at this
       exact this
   · have kk1:=@hid _ (fun L K=>Mk hpos (by omega) (L:=L) (K:=K))
     refine wk ?_
     refine ax (fun n T' L'=>∃ (k i:Nat) (X:List Blk) (c:List AV),n=ls.length - k∧k≤ls.length∧Hid (c=(ls.take k).flatten)∧c.length≤m∧i=L.length+X.length∧T'=[(27,.int .i64 (k:Int)),(26,.int .i64 ls.length),(25,.sl (ls.map Et) ls.length cap),(6,.lsl i 0 c.length none 1)]∧L'=L++(X++[.cells c])) (CutS (b:=by simp)) ⟨0,L.length,[],[],rfl,Nat.zero_le _,hid rfl,Nat.zero_le _,rfl,rfl,rfl⟩ ?_
     rintro _ _ _ ⟨k,i,X,c,rfl,hk,hc,hcm,hi,rfl,rfl⟩
     have hget:(L++(X++[Blk.cells c]))[i]?=some (.cells c):=by subst hi;simp
     replace hi:=hid hi
     by_cases hlt:k<ls.length
     · have g1:(k:Int)<(ls.length:Int):=by omega
       have g2:IntKind.i64.wrap ((k:Int)+1)=(k:Int)+1:=ah (by omega) (by omega)
       have e1:=htk.out k hlt
       have e2:=hat.out k hlt
       have e3:=hle.out (k+1)
       obtain ⟨l,hl⟩:∃ l,ls.getD k []=l:=⟨_,rfl⟩
       have hones:l.all AV.one=true:=hone.out l (by rw [← hl];simp [hlt])
       rw [hl] at e1 e2
       rw [← hc.out] at e1
       have e4:c.length+l.length≤m:=by rw [e1,List.length_append,hm] at e3;exact e3
       have e5:(c.length+l.length) * 24≤140737488355328:=by omega
       have e6:c.length+l.length≤140737488355328:=by omega
       replace e1:=hid e1
       replace hl:=hid hl
       clear e3
       have hdead:(L++(X++[Blk.cells c])).set i .dead=L++(X++[.dead]):=by rw [hi.out];simp
       have hlen:(L++(X++[Blk.dead])).length=i+1:=by rw [hi.out];simp;omega
       refine wk ?_
       refine ay _ _ _ ?_ (CutL (b:=by simp)) ⟨k+1,i+1,X++[.dead],c++l,rfl,hlt,hid e1.out.symm,by simpa using e4,by rw [hi.out];simp;omega,rfl,?_⟩
       · omega
       · simp [List.take_of_length_le]
     · have hke:k=ls.length:=by omega
       subst hke
       have g1:¬ (ls.length:Int)<(ls.length:Int):=by omega
       refine wk ?_
       refine vz (i:=i) (l:=c) hget ?_
       rw [show (L++(X++[Blk.cells c])).set i .dead=L++(X++[.dead]) by rw [hi.out];simp]
       have e:=hc.out
       rw [List.take_length] at e
       have hs:(AV.lsl i 0 c.length none 1).snap i c=.sl c c.length none:=by simp [AV.snap,List.take_of_length_le]
       rw [hs,e,hm]
       exact ac (by simp only [AV.refs,href.out]) h.out
theorem FK {d:List Rdn} {cap cap':Option Nat} (hn:d.length≤1100000) (hr:∀ r∈d,r.length≤1100000) (h:K (.sl (d.map ao) d.length none) L) :
   ab Tryz.prog 47 [.sl (d.map ao) d.length cap,.sl [] 0 cap'] L K:=by
 replace h:=hid h
 have hat:=hid (fun k=>@ij d k)
 replace hr:=hid hr
 have kk1:Hid (Ctr Tryz.prog 74 [.sl [.sl [] 0 cap',.sl (d.map ao) d.length cap] 2 (some 2)] (.sl (d.map ao) d.length none)):=@hid _ (by
   intro L K q
   refine pV ?_
   simp only [AV.frzL,AV.frz,bc]
   have:=@Fk [[],d.map ao] none (by simp) (by simpa using hn) (fun l hl=>by
     simp at hl
     rcases hl with rfl|rfl
     · rfl
     · rw [List.all_eq_true];intro a ha;obtain ⟨r,_,rfl⟩:=List.mem_map.1 ha;rfl) (fun p=>by simpa using fc p d) L K
   simp only [List.flatten_cons,List.flatten_nil,List.append_nil,List.nil_append,List.map_cons,List.map_nil,List.length_map,List.length_nil,List.length_cons,Et] at this
   exact this q)
 refine aa zu (by simp [pT]) ?_
 simp only [pT,am]
 refine wk ?_
 refine cq (l:=[]) (n:=0) 5 1 rfl (Nat.zero_mul 1).symm ?_
 refine ax (fun m T' L'=>∃ (k:Nat) (C:List AV) (X:List Blk),m=d.length - k∧k≤d.length∧Hid (C=(d.take k).map ao)∧T'=[(13,.int .i64 (k:Int)),(12,.int .i64 d.length),(11,.sl (d.map ao) d.length none),(5,.gsl C k L.length 1)]∧L'=L++(.spare k 1::X)) (CutS (b:=by simp)) ⟨0,[],[],rfl,Nat.zero_le _,hid rfl,rfl,by simp⟩ ?_
 rintro _ _ _ ⟨k,C,X,rfl,hk,hC,rfl,rfl⟩
 by_cases hlt:k<d.length
 · have g1:(k:Int)<(d.length:Int):=by omega
   have g2:IntKind.i64.wrap ((k:Int)+1)=(k:Int)+1:=ah (by omega) (by omega)
   have e2:=hat.out k hlt
   have e3:k<(d.map ao).length:=by simpa using hlt
   obtain ⟨r,hri⟩:∃ r,d.getD k []=r:=⟨_,rfl⟩
   have hrl:=hr.out r (by rw [← hri];simp [hlt])
   have htk:(d.take (k+1)).map ao=C++[.sl (aL r) r.length none]:=by
     rw [hC.out,List.take_succ_eq_append_getElem hlt,List.map_append,show d[k]=r by rw [← hri];simp [hlt]];rfl
   rw [hri] at e2
   have e4:=iu r
   have e5:=bt r
   replace htk:=hid htk
   clear hri hC
   refine wk ?_
   exact ay _ _ _ (by omega) (CutL (b:=by simp)) ⟨k+1,_,_,rfl,hlt,hid htk.out.symm,rfl,rfl⟩
 · have hke:k=d.length:=by omega
   subst hke
   have g1:¬ (d.length:Int)<(d.length:Int):=by omega
   have hC2:=hC.out
   rw [List.take_length] at hC2
   subst hC2
   clear hC
   refine wk ?_
   refine cz ?_
   simp only [AV.frz,bc]
   exact ac (by simp only [AV.refs,fc]) h.out
def smA (n:Nat) (a:Ava):Bool:=decide (n≤10) && decide (a.2.length≤5000)
def smR (r:Rdn):Bool:=r.all (smA r.length)
def smD (d:List Rdn):Bool:=decide (d.length≤40) && d.all smR
def smU (u:Upd):Bool:=smD u.dn && (smD u.to && JC u.attrs)
def Ex (d:List Rdn):Prop:=(d.length:Int)≤9223372036854775807∧∀ r∈d,(r.length:Int)≤9223372036854775807
theorem Gg {u:Upd} (hd:Ex u.dn) (ht:Ex u.to) (hl:(u.attrs.length:Int)≤9223372036854775807) (hz:∀ a∈u.attrs,(a.2.length:Int)≤9223372036854775807) (h:K (.bool (smU u)) L) :
   ab Tryz.prog 14 [.agg (sq u)] L K:=by
 obtain ⟨k,d,t,l⟩:=u
 simp only [sq,smU] at hd ht hl hz h ⊢
 obtain ⟨fw,hfw⟩:∃ b,JC l=b:=⟨_,rfl⟩
 have kk1:Hid (Ctr Tryz.prog 45 [.sl (bg l) l.length none] (.bool fw)):=@hid _ (by intro L K q;exact Om hl hz (by rw [hfw];exact q))
 rw [hfw] at h
 obtain ⟨ns,hns⟩:∃ ns,ns=[d,t]:=⟨_,rfl⟩
 obtain ⟨R,hR⟩:∃ R,(ns.all smD && fw)=R:=⟨_,rfl⟩
 have hR0:(smD d && (smD t && fw))=R:=by rw [← hR,hns];simp [Bool.and_assoc]
 rw [hR0] at h
 replace h:=hid h
 have hnl:ns.length=2:=by rw [hns];rfl
 have hnb:∀ x∈ns,Ex x:=fun x hx=>by
   rw [hns] at hx
   simp at hx
   rcases hx with rfl|rfl<;>assumption
 have hrow:AV.sl [dnA d,dnA t] 2 (some 2)=.sl (ns.map dnA) 2 (some 2):=by rw [hns];rfl
 replace hnb:=hid hnb
 obtain ⟨U,hU⟩:∃ U,U=[AV.int .i64 k,dnA d,dnA t,.sl (bg l) l.length none]:=⟨_,rfl⟩
 have hU3:U.getD 3 .undef=.sl (bg l) l.length none:=by rw [hU];rfl
 have hUl:U.length=4:=by rw [hU];rfl
 clear hfw hz hR0 hd ht
 replace hrow:=hid hrow
 replace hU:=hid hU
 replace hns:=hid hns
 refine aa zV (by simp [oC]) ?_
 simp only [oC,am]
 refine wk ?_
 rw [hrow.out,← hU.out]
 clear hrow
 refine ax (fun m T' L'=>∃ (i:Nat) (X:List Blk),m=2 - i∧i≤2∧Hid (((ns.drop i).all smD && fw)=R)∧T'=[(15,.int .i64 (i:Int)),(14,.int .i64 2),(13,.sl (ns.map dnA) 2 (some 2)),(1,.ptr L.length 0)]∧L'=L++(.cells U::X)) (CutS (b:=by simp)) ⟨0,[],rfl,by omega,hid (by simpa using hR),rfl,by simp⟩ ?_
 rintro _ _ _ ⟨i,X,rfl,hi,hI,rfl,rfl⟩
 by_cases hlt:i<2
 · have g1:(i:Int)<2:=by omega
   have g2:IntKind.i64.wrap ((i:Int)+1)=(i:Int)+1:=ah (by omega) (by omega)
   obtain ⟨x,hx⟩:∃ x,ns.getD i []=x:=⟨_,rfl⟩
   have hil:i<ns.length:=by omega
   have hxb:=hnb.out x (by rw [← hx];simp [hil])
   have e2:(ns.map dnA).getD i .undef=dnA x:=by rw [← hx];simp [hil]
   have e3:i<(ns.map dnA).length:=by simpa using hil
   have hdr:ns.drop i=x::ns.drop (i+1):=by rw [List.drop_eq_getElem_cons hil,← hx];simp [hil]
   have hI2:=hI.out
   rw [hdr,List.all_cons] at hI2
   obtain ⟨S,hS⟩:∃ S,((ns.drop (i+1)).all smD && fw)=S:=⟨_,rfl⟩
   rw [Bool.and_assoc,hS] at hI2
   clear hI hdr hx hR
   by_cases h40:(40:Int)<(x.length:Int)
   · have h':=h.out
     rw [← hI2,smD,decide_eq_false (by omega)] at h'
     replace h':=hid h'
     clear hI2 hS
     refine wk ?_
     exact ac rfl h'.out
   have hI3:(x.all smR && S)=R:=by rw [← hI2,smD,decide_eq_true (by omega),Bool.true_and]
   have hxl:x.length≤40:=by omega
   have hxr:=hid hxb.2
   clear hI2 hxb
   have hat:=hid (fun k=>@ij x k)
   refine wk ?_
   refine ax (fun m T' L'=>∃ (j:Nat) (Y:List Blk),m=x.length - j∧j≤x.length∧X.length≤Y.length∧Hid (((x.drop j).all smR && S)=R)∧T'=[(24,.int .i64 (j:Int)),(23,.int .i64 x.length),(22,dnA x),(15,.int .i64 (i:Int)),(14,.int .i64 2),(13,.sl (ns.map dnA) 2 (some 2)),(1,.ptr L.length 0)]∧L'=L++(.cells U::Y)) (CutS (b:=by simp)) ⟨0,_,rfl,by omega,Nat.le_refl _,hid (by simpa using hI3),rfl,rfl⟩ ?_
   rintro _ _ _ ⟨j,Y,rfl,hj,hXY,hJ,rfl,rfl⟩
   by_cases hjl:j<x.length
   · have j1:(j:Int)<(x.length:Int):=by omega
     have j2:IntKind.i64.wrap ((j:Int)+1)=(j:Int)+1:=ah (by omega) (by omega)
     have e4:=hat.out j hjl
     have e5:j<(x.map ao).length:=by simpa using hjl
     obtain ⟨r,hr⟩:∃ r,x.getD j []=r:=⟨_,rfl⟩
     have hrb:=hxr.out r (by rw [← hr];simp [hjl])
     have hdr:x.drop j=r::x.drop (j+1):=by rw [List.drop_eq_getElem_cons hjl,← hr];simp [hjl]
     rw [hr] at e4
     have hJ2:=hJ.out
     rw [hdr,List.all_cons] at hJ2
     obtain ⟨S2,hS2⟩:∃ S2,((x.drop (j+1)).all smR && S)=S2:=⟨_,rfl⟩
     rw [Bool.and_assoc,hS2,smR] at hJ2
     clear hJ hdr hr hI3
     refine wk ?_
     refine ax (fun m T' L'=>∃ (p:Nat) (Z:List Blk),m=r.length - p∧p≤r.length∧Y.length≤Z.length∧Hid (((r.drop p).all (smA r.length) && S2)=R)∧T'=[(30,.int .i64 (p:Int)),(29,.int .i64 r.length),(28,ao r),(6,ao r),(24,.int .i64 (j:Int)),(23,.int .i64 x.length),(22,dnA x),(15,.int .i64 (i:Int)),(14,.int .i64 2),(13,.sl (ns.map dnA) 2 (some 2)),(1,.ptr L.length 0)]∧L'=L++(.cells U::Z)) (CutS (b:=by simp)) ⟨0,_,rfl,by omega,Nat.le_refl _,hid (by simpa using hJ2),rfl,rfl⟩ ?_
     rintro _ _ _ ⟨p,Z,rfl,hp,hYZ,hP,rfl,rfl⟩
     by_cases hpl:p<r.length
     · have p1:(p:Int)<(r.length:Int):=by omega
       have p2:IntKind.i64.wrap ((p:Int)+1)=(p:Int)+1:=ah (by omega) (by omega)
       have e6:=dQ hpl
       have e7:p * 2+2≤(aL r).length:=by rw [bt];omega
       obtain ⟨⟨ty,va⟩,ha⟩:∃ a,r.getD p ([],[])=a:=⟨_,rfl⟩
       have hdr:r.drop p=(ty,va)::r.drop (p+1):=by rw [List.drop_eq_getElem_cons hpl,← ha];simp [hpl]
       rw [ha] at e6
       simp only [lF] at e6
       have hP2:=hP.out
       rw [hdr,List.all_cons,Bool.and_assoc] at hP2
       obtain ⟨S3,hS3⟩:∃ S3,((r.drop (p+1)).all (smA r.length) && S2)=S3:=⟨_,rfl⟩
       rw [hS3] at hP2
       clear hP hdr ha hJ2 hS hS2
       by_cases h10:(10:Int)<(r.length:Int)
       · have h':=h.out
         rw [← hP2,smA,decide_eq_false (by omega)] at h'
         replace h':=hid h'
         clear hP2 hS3
         refine wk ?_
         exact ac rfl h'.out
       by_cases h50:(5000:Int)<(va.length:Int)
       · have h':=h.out
         rw [← hP2,smA,decide_eq_true (by omega),decide_eq_false (by simp only;omega)] at h'
         replace h':=hid h'
         clear hP2 hS3
         refine wk ?_
         exact ac rfl h'.out
       have hP3:S3=R:=by rw [← hP2,smA,decide_eq_true (by omega),decide_eq_true (by simp only;omega)];rfl
       subst hP3
       replace hS3:=hid hS3
       clear hP2
       refine wk ?_
       exact ay _ _ _ (by omega) (CutL (b:=by simp;omega)) ⟨p+1,_,rfl,hpl,by simp;omega,hS3,rfl,rfl⟩
     · have hpe:p=r.length:=by omega
       subst hpe
       have p1:¬ (r.length:Int)<(r.length:Int):=by omega
       have hP2:=hP.out
       rw [List.drop_length,List.all_nil,Bool.true_and,← hS2] at hP2
       replace hP2:=hid hP2
       clear hP hJ2 hS hS2
       refine wk ?_
       exact ay _ _ _ (by omega) (CutL (b:=by simp;omega)) ⟨j+1,_,rfl,hjl,by omega,hP2,rfl,rfl⟩
   · have hje:j=x.length:=by omega
     subst hje
     have j1:¬ (x.length:Int)<(x.length:Int):=by omega
     have hJ2:=hJ.out
     rw [List.drop_length,List.all_nil,Bool.true_and,← hS] at hJ2
     replace hJ2:=hid hJ2
     clear hJ hS hI3
     refine wk ?_
     exact ay _ _ _ (by omega) (CutL (b:=by simp)) ⟨i+1,_,rfl,hlt,hJ2,rfl,rfl⟩
 · have hie:i=2:=by omega
   subst hie
   have hI2:=hI.out
   rw [List.drop_of_length_le (by omega),List.all_nil,Bool.true_and] at hI2
   subst hI2
   clear hI hR
   refine wk ?_
   exact ac rfl h.out
end Go.Proofs.YtdhjplmjpjfjnaaGreat.Av
