/- Joined texts of the walk, made small by a program. -/
import Derived.Test.YtobihfefmlgaoaaMk4
import Derived.Test.YtobihfefmlgaoaaRows
import Derived.KernelRfl
import Derived.Test.YtobihfefmlgaoaaMk6
import Derived.Test.YtobihfefmlgaoaaMk7
import Derived.Test.YtobihfefmlgaoaaMk5
import Derived.Shelf.Spec.SlicesGrow
import Derived.Lib.ValidLaws
set_option linter.unusedSimpArgs false
set_option linter.unusedVariables false
set_option maxRecDepth 100000
namespace Go.Proofs.Ytobihfefmlgaoaa.Av
open Go
def rF:LSO:=[Ai 4]
def rE:LSO:=[Ai 5]
def rD:LSO:=[Aa 8 1,Aa 9 0,o1 10 (.bslice false 1 2 [(.sl [] 0 (some 0)),(.sl [] 0 (some 0))] [(0,(1,(tm 8))),(1,(1,(tm 9)))]),Ah 11 30 10,Af 12 11,Ad 13 0]
def rC:LSO:=[Ap 14 13 12]
def rB:LSO:=[An 15 1 11 13,Ab 16 1 15,Aa 7 16]
def rA:LSO:=[Aa 17 5,Aa 18 7,o1 19 (.app 0 2 32 [(.str []),(.str [])] (.av (.sl [] 0 (some 0))) (tm 18)),
 o1 20 (.bslice false 1 1 [(.sl [] 0 (some 0))] [(0,(1,(tm 19)))]),o1 21 (.app 1 1 24 [(.sl [] 0 (some 0))] (tm 17) (tm 20)),Aa 5 21]
def rz:LSO:=[Am 22 13 1,Aa 13 22]
def ry:LSO:=[Aa 23 5,Aa 4 23]
def k8:bJ:=⟨24,(.seq (.sreg rF [])
 (.seq (.sreg rE [])
 (.seq (.seq (.sreg rD [true,true,true,false,false,false])
 (.block 0 (.loop (.seq (.sreg rC [])
 (.seq (.cond (tm 14) .skip
 (.exit 0))
 (.seq (.block 1 (.seq (.sreg rB AZ)
 (.sreg rA Bd)))
 (.sreg rz AY)))))))
 (.seq (.sreg ry AY)
 .ret)))),[(.tmp 4)]⟩
attribute [push_cast] rF rE rD rC rB rA rz ry
theorem qC:ct Try.prog (fun r i=>if r=5/\i=2 then 0 else 1) 16=some k8.raw:=by kernel_rfl
def cP:LSO:=[Ai 2]
def cO:LSO:=[Ad 3 0]
def cN:LSO:=[Aa 9 0,Af 10 9,Ad 11 0]
def cM:LSO:=[Ap 12 11 10]
def cL:LSO:=[An 13 1 9 11,Ab 14 1 13,Aa 5 14]
def cK:LSO:=[Aa 15 3,Aa 16 5,Af 17 16,o1 18 (.bin .add (tm 15) (tm 17)),Aa 3 18]
def cJ:LSO:=[Aa 19 3,o1 20 (.bin .lss (tm 19) (iv 0))]
def cI:LSO:=[o1 21 (.mkif 9 (.av (.str [108,101,110,32,111,117,116,32,111,102,32,114,97,110,103,101]))),
 .op ⟨none,.bad,none⟩]
def cH:LSO:=[Am 22 11 1,Aa 11 22]
def cG:LSO:=[Aa 23 3,o1 24 (.call 46 [(.av (.sl [] 0 (some 0))),(tm 23)]),Aa 6 24]
def cD:LSO:=[Aa 25 0,Af 26 25,Ad 27 0]
def cC:LSO:=[Ap 28 27 26]
def cB:LSO:=[An 29 1 25 27,Ab 30 1 29,Aa 8 30]
def cA:LSO:=[Aa 31 6,Aa 32 8,o1 33 (.app 1 1 24 [(.sl [] 0 (some 0))] (tm 31) (tm 32)),Aa 6 33]
def cz:LSO:=[Am 34 27 1,Aa 27 34]
def cw:LSO:=[Aa 35 6,Aa 2 35]
def bw:bJ:=⟨36,(.seq (.sreg cP [])
 (.seq (.sreg cO [])
 (.seq (.seq (.sreg cN [])
 (.block 0 (.loop (.seq (.sreg cM [])
 (.seq (.cond (tm 12) .skip
 (.exit 0))
 (.seq (.block 1 (.seq (.sreg cL AZ)
 (.seq (.sreg cK Bc)
 (.seq (.sreg cJ AY)
 (.cond (tm 20) (.sreg cI [false])
 .skip)))))
 (.sreg cH AY)))))))
 (.seq (.sreg cG AZ)
 (.seq (.seq (.sreg cD [])
 (.block 2 (.loop (.seq (.sreg cC [])
 (.seq (.cond (tm 28) .skip
 (.exit 2))
 (.seq (.block 3 (.seq (.sreg cB AZ)
 (.sreg cA Ba)))
 (.sreg cz AY)))))))
 (.seq (.sreg cw AY)
 .ret)))))),[(.tmp 2)]⟩
attribute [push_cast] cP cO cN cM cL cK cJ cI cH cG cD cC cB cA cz cw
theorem ez:ct Try.prog (fun _ _=>1) 30=some bw.raw:=by kernel_rfl
def pr:LSO:=[AK 2,Ad 3 0]
def pq:LSO:=[Aa 7 0,Ah 8 15 7,Aa 6 8,Ar 9 6,Au 10 6,Aa 4 9,Aa 5 10]
def pn:LSO:=[Aa 11 5,A1 12 11 0]
def pm:LSO:=[Aa 13 5,AK 2,Aa 3 13]
def pl:LSO:=[Aa 14 0,Af 15 14,Aq 16 15 0]
def pk:LSO:=[AK 2,Ad 3 2]
def pj:LSO:=[Aa 17 0,AE 18 16 17,
 .op ⟨(some 19),.mkmap,none⟩,
 .op ⟨(some 20),.mkmap,none⟩,o1 21 (.build [(.sl [] 0 (some 0)),.nilmap,.nilmap,(.int .i64 0)] [(0,(1,(tm 18))),(1,(1,(tm 19))),(2,(1,(tm 20))),(3,(1,(iv 0)))]),Ax 22 21,
 o1 23 (.build [.nilptr] [(0,(1,(tm 22)))]),Ax 24 23,Aa 2 24,Ad 3 0]
def el:bJ:=⟨25,(.seq (.sreg pr [])
 (.seq (.seq (.sreg pq Bb)
 (.seq (.sreg pn AY)
 (.cond (tm 12) (.seq (.sreg pm Bg)
 .ret)
 .skip)))
 (.seq (.seq (.sreg pl AZ)
 (.cond (tm 16) (.seq (.sreg pk [])
 .ret)
 .skip))
 (.seq (.sreg pj [true,true,false,false,false,false,false,false,false,false])
 .ret)))),[(.tmp 2),(.tmp 3)]⟩
attribute [push_cast] pr pq pn pm pl pk pj
theorem kp:ct Try.prog (fun _ _=>1) 4=some el.raw:=by kernel_rfl
def kP:LSO:=[Ax 3 1,Ad 4 0]
def kO:LSO:=[Aa 17 0,A4 18 17]
def kL:LSO:=[Ad 4 1]
def kK:LSO:=[Aa 19 0,Ae 20 19,Ac 21 0 20,Ab 22 1 21,A7 23 4 3,Aw 24 13 22 23,Aa 5 24]
def kJ:LSO:=[Aa 25 5,A1 26 25 0]
def kI:LSO:=[Aa 27 5,Aa 4 27]
def kH:LSO:=[Aa 28 0,Ae 29 28,Ac 30 0 29,Ab 31 1 30,Ac 32 1 3,Ab 33 1 32,Aw 34 8 31 33,Aa 6 34]
def kG:LSO:=[Ac 35 0 3,Ab 36 1 35]
def kB:LSO:=[Aq 38 36 1,Aa 37 38]
def kA:LSO:=[Aa 39 0,Ae 40 39,Ac 41 0 40,Ab 42 1 41,Ae 43 42,Ac 44 3 43,Ab 45 1 44,Am 46 45 1,Ae 47 42,Ac 48 3 47,Az 1 48 46]
def ka:List (af×Kd) :=
 [Ao 49 0,Ay 50 49 0 1,Al 51 0 50,Aj 52 1 51 0 1,Ay 53 52 0 1,Al 54 1 53,Aj 55 1 54 0 1,Ao 56 0,Ay 57 56 0 1,Al 58 0 57,Aj 59 1 58 0 1,Ay 60 59 0 1,Al 61 3 60,Aj 62 1 61 0 1,
 Al 63 3 3,Aj 64 1 63 0 0,A8 65 17 64 0 0,od 66 (.build [(.sl [] 0 (some 0)),(.sl [] 0 (some 0)),(.sl [] 0 (some 0)),(.int .i64 0)] [(2,(1,(tm 65)))]) .pure,
 od 67 (.box (tm 66)) .eff]
def jg:List af :=
 [⟨none,(.mset .int (tm 55) (tm 62) (tm 67)),none⟩]
def j9:List (af×Kd) :=
 [Ao 68 0,Ao 69 0,Ay 70 69 0 0,Al 71 0 70,Aj 72 1 71 0 0,Ay 73 72 0 0,Al 74 3 73,Aj 75 1 74 0 0,Al 76 1 3,Aj 77 1 76 0 0]
def jf:List af :=
 [⟨(some 78),(.call 26 [(tm 68),(tm 75),(tm 77)]),none⟩]
def j8:LSO:=[Aa 79 0,Ac 80 1 3,Ab 81 1 80,AC 82 27 79 81 1]
def j7:LSO:=[Aq 84 36 2,Aa 83 84]
def j6:LSO:=[Ac 86 1 3,Ab 87 1 86,Ah 88 19 87,Aa 85 88,Ar 89 85,Au 90 85,Aa 7 89,Aa 8 90]
def j5:LSO:=[Aa 91 0,Ae 92 91,Ac 93 0 92,Ab 94 1 93,Ae 95 94,Ac 96 2 95,Ab 97 1 96,Aa 98 7,o0 (.mdel .str (tm 97) (tm 98))]
def jZ:LSO:=[Aa 99 0,Ae 100 99,Ac 101 0 100,Ab 102 1 101,Ae 103 102,Ac 104 1 103,Ab 105 1 104,Aa 106 6,o0 (.mdel .int (tm 105) (tm 106))]
def jY:LSO:=[Aa 107 0,Ac 108 1 3,Ab 109 1 108,AC 110 27 107 109 (-1)]
def jX:LSO:=[Aq 112 36 3,Aa 111 112]
def jW:List (af×Kd) :=
 [Ao 113 0,Ay 114 113 0 0,Al 115 0 114,Aj 116 1 115 0 0,Ay 117 116 0 0,Al 118 1 117,Aj 119 1 118 0 0,Ao 120 6,od 121 (.mget .int false .nilptr (tm 119) (tm 120)) (.read 0 0),
 Al 122 3 3,Aj 123 1 122 0 0,A8 124 17 123 0 0]
def je:List af :=
 [⟨(some 125),(.nilchk (tm 121)),none⟩,⟨(some 126),(.faddr 2 (tm 125)),none⟩,⟨none,(.store 1 (tm 126) (tm 124)),none⟩]
def jV:LSO:=[Aq 128 36 4,Aa 127 128]
def jU:LSO:=[Aa 129 0,Ae 130 129,Ac 131 0 130,Ab 132 1 131,Aa 133 6,AC 134 11 132 133 2,Aa 9 134]
def jT:LSO:=[Aa 135 9,Af 136 135,Ad 137 0]
def jS:LSO:=[Ap 138 137 136]
def jR:LSO:=[An 139 1 135 137,Ab 140 1 139,Aa 11 140]
def jQ:LSO:=[Aa 142 0,Ae 143 142,Ac 144 0 143,Ab 145 1 144,Ae 146 145,Ac 147 1 146,Ab 148 1 147,Aa 149 11,A2 150 148 149,Ae 151 150,Ac 152 0 151,Ab 153 1 152,
 Ah 154 19 153,Aa 141 154,Ar 155 141,Au 156 141,Aa 12 155,Aa 13 156]
def jP:LSO:=[Aa 157 0,Ae 158 157,Ac 159 0 158,Ab 160 1 159,Ae 161 160,Ac 162 2 161,Ab 163 1 162,Aa 164 12,o0 (.mdel .str (tm 163) (tm 164))]
def jO:LSO:=[Am 165 137 1,Aa 137 165]
def jN:LSO:=[Aa 166 0,Ac 167 1 3,Ab 168 1 167,AC 169 27 166 168 (-1)]
def jM:LSO:=[Aa 170 9,Af 171 170,Ad 172 0]
def jL:LSO:=[Ap 173 172 171]
def jK:LSO:=[An 174 1 170 172,Ab 175 1 174,Aa 15 175]
def jJ:LSO:=[Aa 176 0,Ae 177 176,Ac 178 0 177,Ab 179 1 178,Ae 180 179,Ac 181 1 180,Ab 182 1 181,Aa 183 15,A2 184 182 183,Ae 185 184,Ac 186 0 185,Ab 187 1 186,
 Aa 16 187]
def jI:List (af×Kd) :=
 [Ao 188 0,Ao 189 15,Al 190 2 3,Aj 191 1 190 0 0,Ao 192 16,Ao 193 16,od 194 (.len false (tm 193)) (.read 0 0),Al 195 1 3,Aj 196 1 195 0 0,
 od 197 (.len false (tm 196)) (.read 0 0),od 198 (.bin .sub (tm 194) (tm 197)) .pure,od 199 (.slV 1 (tm 192) none (some (tm 198)) none) (.read 0 0),
 od 200 (.call 16 [(tm 191),(tm 199)]) (.read 0 0)]
def jd:List af :=
 [⟨(some 201),(.call 26 [(tm 188),(tm 189),(tm 200)]),none⟩]
def jH:LSO:=[Am 202 172 1,Aa 172 202]
def jG:LSO:=[Aa 203 0,Ac 204 2 3,Ab 205 1 204,AC 206 27 203 205 1]
def jF:List (af×Kd) :=
 [Ao 207 0,Ay 208 207 0 0,Al 209 0 208,Aj 210 1 209 0 0,Ay 211 210 0 0,Al 212 1 211,Aj 213 1 212 0 0,Ao 214 6,od 215 (.mget .int false .nilptr (tm 213) (tm 214)) (.read 0 0),
 Al 216 3 3,Aj 217 1 216 0 0,A8 218 17 217 0 0]
def jc:List af :=
 [⟨(some 219),(.nilchk (tm 215)),none⟩,⟨(some 220),(.faddr 2 (tm 219)),none⟩,⟨none,(.store 1 (tm 220) (tm 218)),none⟩]
def jE:LSO:=[Ad 4 0]
def aQ:bJ:=⟨221,(.seq (.sreg kP [])
 (.seq (.seq (.sreg kO AY)
 (.cond (tm 18) (.seq (.sreg kL [])
 .ret)
 .skip))
 (.seq (.sdreg kK [.pure,(.read 0 0),.pure,(.read 0 0),(.read 0 0)] Bb)
 (.seq (.seq (.sreg kJ AY)
 (.cond (tm 26) (.seq (.sreg kI AY)
 .ret)
 .skip))
 (.seq (.sdreg kH [.pure,(.read 0 0),.pure,(.read 0 0),.pure,(.read 0 0)] Be)
 (.seq (.seq (.sreg kG AY)
 (.block 0 (.seq (.sreg kB AY)
 (.cond (tm 37) (.seq (.sreg kA Bp)
 (.seq (.dregM ka jg [false,false,false,false,false,false,false,false,false,false,false,false,false,false,false,false,false,false,false])
 (.seq (.dregM j9 jf [false,false,false,false,false,false,false,false,false,false,false])
 (.sreg j8 Bh))))
 (.seq (.sreg j7 AY)
 (.cond (tm 83) (.seq (.sreg j6 Bo)
 (.seq (.sreg j5 Bm)
 (.seq (.sreg jZ Bm)
 (.sreg jY Bh))))
 (.seq (.sreg jX AY)
 (.cond (tm 111) (.dregM jW je Bn)
 (.seq (.sreg jV AY)
 (.cond (tm 127) (.seq (.sreg jU Bb)
 (.seq (.seq (.sreg jT [])
 (.block 1 (.loop (.seq (.sreg jS [])
 (.seq (.cond (tm 138) .skip
 (.exit 1))
 (.seq (.block 2 (.seq (.sreg jR AZ)
 (.seq (.sreg jQ [false,true,false,false,false,false,false,false,false,false,false,false,false,false,false,false,false,false])
 (.sreg jP Bm))))
 (.sreg jO AY)))))))
 (.seq (.sreg jN Bh)
 (.seq (.seq (.sreg jM [])
 (.block 3 (.loop (.seq (.sreg jL [])
 (.seq (.cond (tm 173) .skip
 (.exit 3))
 (.seq (.block 4 (.seq (.sreg jK AZ)
 (.seq (.sreg jJ [true,false,false,false,false,false,false,false,false,false,false,false,false])
 (.dregM jI jd Bn))))
 (.sreg jH AY)))))))
 (.seq (.sreg jG Bh)
 (.dregM jF jc Bn))))))
 .skip))))))))))
 (.seq (.sreg jE [])
 .ret))))))),[(.tmp 4)]⟩
attribute [push_cast] kP kO kL kK kJ kI kH kG kB kA ka jg j9 jf j8 j7 j6 j5 jZ jY jX jW je jV jU jT jS jR jQ jP jO jN jM jL jK jJ jI jd jH jG jF jc jE
theorem bH:ct Try.prog (fun _ _=>1) 14=some aQ.raw:=by kernel_rfl
def ja:LSO:=[Ax 3 1,Ad 4 0]
def i9:LSO:=[Aa 8 0,A4 9 8]
def i8:LSO:=[Ad 4 1]
def i7:LSO:=[Aa 10 0,Ac 11 1 3,Ab 12 1 11,Aw 13 8 10 12,Aa 5 13]
def i6:LSO:=[Ac 14 0 3,Ab 15 1 14]
def i5:LSO:=[Aq 17 15 1,Aa 16 17]
def iZ:LSO:=[Ac 19 1 3,Ab 20 1 19,Ah 21 15 20,Aa 18 21,Ar 22 18,Au 23 18,Aa 6 22,Aa 7 23]
def iY:LSO:=[Aa 25 7,A1 26 25 0,Aa 24 26]
def iX:LSO:=[Ad 4 34]
def iW:LSO:=[Aa 28 5,A6 29 28 0,Aa 27 29]
def ir:LSO:=[Ad 4 68]
def iq:LSO:=[Aa 31 0,Ac 32 1 3,Ab 33 1 32,Aa 34 0,Ae 35 34,Ac 36 0 35,Ab 37 1 36,o1 38 (.call 24 [(tm 31),(tm 33),(tm 37)]),AD 39 38,Aa 40 39,.grp none 40 true
 [og 41 40 true (.faddr 1 (tm 3)),AB 42 40 1 41,A5 43 40 42,A0 44 40 43 0,Ag 45 40 44,.grp (some (40,true)) 45 false
 [Ak 46 45 0,AF 47 45 1 3,A9 48 45 1 47,og 49 45 false (.slV 1 (tm 48) (some (iv 1)) none none),og 50 45 false (.call 8 [(tm 46),(tm 49)]),
 og 51 45 false (.bin .eql (tm 50) (iv 0))]
 52 (tm 51)]
 53 (tm 52),Aa 30 53]
def io:LSO:=[Ad 4 32]
def im:LSO:=[Aa 55 0,Ae 56 55,Ac 57 1 56,Ab 58 1 57,o1 59 (.mlen (tm 58)),AH 60 59 4096,Aa 54 60]
def il:LSO:=[Ad 4 80]
def ik:LSO:=[Ad 4 0]
def ij:LSO:=[Aq 62 15 2,Aa 61 62]
def ii:LSO:=[Aq 63 15 3,Aa 61 63]
def ig:LSO:=[Aq 64 15 4,Aa 61 64]
def ie:LSO:=[Aa 65 5,Aq 66 65 0]
def ic:LSO:=[Ad 4 32]
def ib:LSO:=[Ac 67 0 3,Ab 68 1 67]
def ia:LSO:=[Aq 70 68 2,Aa 69 70]
def hY:LSO:=[Aa 71 0,Ae 72 71,Ac 73 1 72,Ab 74 1 73,Aa 75 5,A2 76 74 75,Ae 77 76,Ac 78 3 77,Ab 79 1 78,A6 80 79 0]
def hU:LSO:=[Ad 4 66]
def hP:LSO:=[Ad 4 0]
def hG:LSO:=[Aq 82 68 3,Aa 81 82]
def hF:LSO:=[Ad 4 0]
def gZ:LSO:=[Aq 84 68 4,Aa 83 84]
def gX:LSO:=[Aa 85 0,Aa 86 5,A7 87 4 3,o1 88 (.call 25 [(tm 85),(tm 86),(tm 87)]),Aa 4 88]
def gW:LSO:=[Ad 4 1]
def ag:bJ:=⟨89,(.seq (.sreg ja [])
 (.seq (.seq (.sreg i9 AY)
 (.cond (tm 9) (.seq (.sreg i8 [])
 .ret)
 .skip))
 (.seq (.sreg i7 Bc)
 (.seq (.seq (.sreg i6 AY)
 (.block 0 (.seq (.sreg i5 AY)
 (.cond (tm 16) (.seq (.sreg iZ Be)
 (.seq (.block 1 (.seq (.sreg iY AZ)
 (.cond (tm 24) (.seq (.sreg iX [])
 .ret)
 (.seq (.sreg iW AZ)
 (.cond (tm 27) (.seq (.sreg ir [])
 .ret)
 (.seq (.sdreg iq [.pure,.pure,(.read 0 0),.pure,(.read 0 0),.pure,(.read 0 0),(.read 0 0),.pure,.pure,.pure,(.read 0 0),(.read 0 0),.pure,.pure,.pure,.pure,(.read 0 0),(.read 0 0)] Bq)
 (.cond (tm 30) (.seq (.sreg io [])
 .ret)
 (.seq (.sreg im Bb)
 (.cond (tm 54) (.seq (.sreg il [])
 .ret)
 .skip)))))))))
 (.seq (.sreg ik [])
 .ret)))
 (.seq (.seq (.sreg ij AY)
 (.cond (tm 61) .skip
 (.seq (.sreg ii AY)
 (.cond (tm 61) .skip
 (.sreg ig AY)))))
 (.cond (tm 61) (.seq (.sreg ie AY)
 (.cond (tm 66) (.seq (.sreg ic [])
 .ret)
 .skip))
 .skip))))))
 (.seq (.seq (.sreg ib AY)
 (.block 2 (.seq (.sreg ia AY)
 (.cond (tm 69) (.seq (.seq (.sreg hY Bf)
 (.cond (tm 80) (.seq (.sreg hU [])
 .ret)
 .skip))
 (.seq (.sreg hP [])
 .ret))
 (.seq (.sreg hG AY)
 (.cond (tm 81) (.seq (.sreg hF [])
 .ret)
 (.seq (.sreg gZ AY)
 (.cond (tm 83) (.seq (.sreg gX Bc)
 .ret)
 .skip))))))))
 (.seq (.sreg gW [])
 .ret)))))),[(.tmp 4)]⟩
attribute [push_cast] ja i9 i8 i7 i6 i5 iZ iY iX iW ir iq io im il ik ij ii ig ie ic ib ia hY hU hP hG hF gZ gX gW
theorem ay:ct Try.prog (fun _ _=>1) 13=some ag.raw:=by kernel_rfl
def iV:LSO:=[Ad 4 0]
def iU:LSO:=[Aa 7 0,A4 8 7]
def iT:LSO:=[Ad 4 0]
def iS:LSO:=[Aa 10 1,Ah 11 19 10,Aa 9 11,Ar 12 9,Au 13 9,Aa 5 12,Aa 6 13]
def iR:LSO:=[Aa 14 6,A1 15 14 0]
def iQ:LSO:=[Ad 4 0]
def iP:LSO:=[Aa 16 0,Ae 17 16,Ac 18 2 17,Ab 19 1 18,Aa 20 5,o1 21 (.mget .str false (.int .i64 0) (tm 19) (tm 20)),Aa 4 21]
def aD:bJ:=⟨22,(.seq (.sreg iV [])
 (.seq (.seq (.sreg iU AY)
 (.cond (tm 8) (.seq (.sreg iT [])
 .ret)
 .skip))
 (.seq (.sreg iS Bl)
 (.seq (.seq (.sreg iR AY)
 (.cond (tm 15) (.seq (.sreg iQ [])
 .ret)
 .skip))
 (.seq (.sreg iP Bb)
 .ret))))),[(.tmp 4)]⟩
attribute [push_cast] iV iU iT iS iR iQ iP
theorem a8:ct Try.prog (fun _ _=>1) 8=some aD.raw:=by kernel_rfl
attribute [push_cast] k8 bw el aQ ag aD
open Go Go.Sort Go.Proofs
variable {L:List Blk} {K:Fw}
set_option maxHeartbeats 8000000
set_option maxRecDepth 100000
theorem wF (z:Array Value):∀ k,(Builtin.zeroCells z k).size=k * z.size:=by
 intro k;simp [Builtin.zeroCells]
theorem BN:∃ i0,Try.prog.info? 69=some i0/\i0.zero=some (.slice none 0 0)/\i0.size=1/\i0.bytes=24:=by
 have h:(Try.prog.info? 69).map (fun i=>(i.zero,i.size,i.bytes))=some (some (.slice none 0 0),1,24):=by kernel_rfl
 cases hi:Try.prog.info? 69 with
 | none=>rw [hi] at h;cases h
 | some i0 =>
   rw [hi] at h;simp only [FK,Fy,FD] at h;exact ⟨i0,rfl,h⟩
theorem BQ {L:List Blk} {K:Fw} (h:K (.sl [] 0 (some 0)) L):Fv 46 [.sl [] 0 (some 0),.int .i64 0] L K :=
 jt Try.func46 rfl (by kernel_rfl) (fun w0 S0 E w vs hR hv=>by
  simp only [VRL] at hv;obtain ⟨v,_,rfl,hv,_,_,rfl,h2,rfl⟩:=hv;have hv':=hv;simp only [VR] at hv h2;obtain ⟨p,c,rfl,_,h3,_⟩:=hv;have hc:c=0:=h3 0 rfl;subst hc;subst h2;exact (Any8.slices_Grow_room Try.growD p 0 0 0 w (Fz _) (by omega) (by omega) (by omega)).mono fun e w' ⟨he,hw⟩=>⟨_,he,hv',by subst hw;exact tY.refl _⟩) h
theorem C4 {n:Nat} (h0:0<n) (hn:n<=4000000) (h:K (.lsl L.length 0 0 none 1) (L++[.cells []])):Fv 46 [.sl [] 0 (some 0),.int .i64 (n:Int)] L K:=fun w0 S0 E w vs hR hv=>by
 simp only [VRL,VR] at hv;obtain ⟨_,_,rfl,⟨p,c,rfl,_,h3,_⟩,_,_,rfl,rfl,rfl⟩:=hv;have hc:c=0:=h3 0 rfl;subst hc;obtain ⟨i0,i1,i2,i3,i4⟩:=BN;refine .inl ⟨ef Try.func46 rfl (by kernel_rfl) _ _,(Any8.slices_Grow_grow Try.growD i0 (.slice none 0 0) i1 i2 (by omega) p 0 0 n [] w (Fz _) (by omega) (by rw [i4];omega) (by omega) (by simp) (fun _=>rfl) (fun a _ j v hj=>by simp at hj)).mono ?_⟩;rintro e w' ⟨rfl,rfl⟩;have r0:Rel w0 S0 E L w.drew:=hR.grown ⟨fun _ _=>rfl,Fz _,rfl,rfl,rfl⟩
 let cs:Array Value:=([]:List Value).toArray++Builtin.zeroCells (Value.slice none 0 0).cells (0+n - 0)++Builtin.zeroCells (Value.slice none 0 0).cells (grownCap w (0+n) 0 69 - (0+n))
 have hcs:cs.size=n+(grownCap w (0+n) 0 69 - n):=by
  simp only [cs,Array.size_append,wF];have:(Value.slice none 0 0).cells.size=1:=rfl;rw [this];simp
 have r1:=r0.push (.cells cs 69) (.cells []) ⟨w.heap.size,0,cs.size⟩ rfl rfl ⟨⟨w.heap.size,0,cs.size⟩,cs,69,(0,0),by simp,(show (w.heap.push (Obj.cells cs 69))[w.heap.size]?=some (Obj.cells cs 69 (0,0)) by simp),rfl,by simp,(fun j a ha=>by simp at ha),fun o _ _=>by omega⟩;refine ⟨_,_,_,_,rfl,r1.1,h,?_,r1.2⟩;simp only [VR];exact ⟨⟨w.heap.size,0,cs.size⟩,grownCap w (0+n) 0 69,0,by simp,rfl,fun _=>rfl,FW _,(fun k hk=>by cases hk),by simp only [hcs];omega⟩
abbrev tO (l:List AV):AV:=.sl l l.length none
theorem CU {ls:List (List AV)} {k:Nat} (h:k<ls.length):(ls.map tO).getD k .undef=tO (ls.getD k []):=by simp [h]
theorem xv {ls:List (List AV)} {k:Nat} (h:k<ls.length):(ls.take (k+1)).flatten=(ls.take k).flatten++ls.getD k []:=by
 rw [Gc h,List.flatten_append];simp [h]
theorem BY (ls:List (List AV)) (k:Nat):(ls.take k).flatten.length<=ls.flatten.length:=by
 have h:ls.flatten=(ls.take k).flatten++(ls.drop k).flatten:=by rw [<- List.flatten_append,G5]
 rw [h];simp
theorem uA {ls:List (List AV)} {cap:Option Nat} (hn:ls.length<=1100000) (ht:ls.flatten.length<=1100000) (hone:∀ l∈ls,l.all AV.one=true) (href:∀ p,AV.refsL p ls.flatten=true) {L:List Blk} {K:Fw} (h:K (.sl ls.flatten ls.flatten.length none) L) :
  Fv 30 [.sl (ls.map tO) ls.length cap] L K:=by
 replace h:=hid h;have htk:=hid (fun k=>@xv ls k);have hle:=hid (BY ls);have hat:=hid (fun k=>@CU ls k);replace hone:=hid hone;replace href:=hid href;refine Fu ez ?_;refine aM (fun n T' L'=>∃ k:Nat,n=ls.length - k/\k<=ls.length/\T'=[(11,.int .i64 (k:Int)),(10,.int .i64 ls.length),(9,.sl (ls.map tO) ls.length cap),(3,.int .i64 ((ls.take k).flatten.length:Int)),(2,.sl [] 0 (some 0)),(0,.sl (ls.map tO) ls.length cap)]/\L=L') (CutS (b:=Fz _)) ⟨0,rfl,FW _,rfl,rfl⟩ ?_;rintro _ _ _ ⟨k,rfl,hk,rfl,rfl⟩;by_cases hlt:k<ls.length
 ·have g1:(k:Int)<(ls.length:Int):=by omega
  have g2:=Ft k (by omega);have e1:=htk.out k hlt;have e2:=hat.out k hlt;have e3:=hle.out (k+1);obtain ⟨l,hl⟩:=Fq (ls.getD k []);rw [hl] at e1 e2;have e4:(ls.take (k+1)).flatten.length=(ls.take k).flatten.length+l.length:=by rw [e1,FP]
  rw [e4] at e3;obtain ⟨m,hm⟩:=Fq ((ls.take k).flatten.length);rw [hm] at e3 e4 ⊢;replace e1:=hid e1;replace hm:=hid hm;replace hl:=hid hl;have g3:IntKind.i64.wrap ((m:Int)+(l.length:Int))=(m:Int)+(l.length:Int):=aw (by omega) (by omega);have g4:¬ ((m:Int)+(l.length:Int)<0):=by omega
  refine wk ?_;exact aJ _ _ _ (by omega) (CutL (b:=Fz _)) ⟨k+1,rfl,hlt,rfl,rfl⟩
 ·have hke:k=ls.length:=by omega
  subst hke;clear hlt hk;have g1:¬ (ls.length:Int)<(ls.length:Int):=by omega
  obtain ⟨m,hm⟩:=Fq (ls.flatten.length);rw [F5,hm];rw [hm] at h ht;rcases Gr m with h0|hpos
  ·subst h0;have hnil:=hid (F8.1 hm);have kk1:=@hid _ @BQ;refine wk ?_;refine iD (l:=[]) (n:=0) 6 1 rfl (GP 1).symm ?_;refine aM (fun n T' L'=>∃ k:Nat,n=ls.length - k/\k<=ls.length/\T'=[(27,.int .i64 (k:Int)),(26,.int .i64 ls.length),(25,.sl (ls.map tO) ls.length cap),(6,.gsl [] 0 L.length 1)]/\L'=L++[.spare 0 1]) (CutS (b:=by simp)) ⟨0,rfl,FW _,rfl,rfl⟩ ?_;rintro _ _ _ ⟨k,rfl,hk,rfl,rfl⟩;by_cases hlt:k<ls.length
   ·have g1:(k:Int)<(ls.length:Int):=by omega
    have g2:=Ft k (by omega);have e2:=hat.out k hlt;have e3:ls.getD k []=[]:=List.flatten_eq_nil_iff.1 hnil.out _ (by rw [F4,FN hlt];exact GV _);rw [e3] at e2;replace e2:(ls.map tO).getD k .undef=.sl [] 0 none:=e2;clear e3;refine wk ?_;exact aJ _ _ _ (by omega) (CutL (b:=by simp)) ⟨k+1,rfl,hlt,rfl,rfl⟩
   ·have hke:k=ls.length:=by omega
    subst hke;have g1:¬ (ls.length:Int)<(ls.length:Int):=by omega
    refine wk ?_;refine cQ (ah (by rfl) ?_);have:=h.out;rw [hnil.out] at this;exact this
  ·have kk1:=@hid _ (fun L K=>C4 hpos (by omega) (L:=L) (K:=K));refine wk ?_;refine aM (fun n T' L'=>∃ (k i:Nat) (X:List Blk) (c:List AV),n=ls.length - k/\k<=ls.length/\Hid (c=(ls.take k).flatten)/\c.length<=m/\i=L.length+X.length/\T'=[(27,.int .i64 (k:Int)),(26,.int .i64 ls.length),(25,.sl (ls.map tO) ls.length cap),(6,.lsl i 0 c.length none 1)]/\L'=L++(X++[.cells c])) (CutS (b:=by simp)) ⟨0,L.length,[],[],rfl,FW _,hid rfl,FW _,rfl,rfl,rfl⟩ ?_;rintro _ _ _ ⟨k,i,X,c,rfl,hk,hc,hcm,hi,rfl,rfl⟩;have hget:(L++(X++[Blk.cells c]))[i]?=some (.cells c):=by subst hi;simp
   replace hi:=hid hi;by_cases hlt:k<ls.length
   ·have g1:(k:Int)<(ls.length:Int):=by omega
    have g2:=Ft k (by omega);have e1:=htk.out k hlt;have e2:=hat.out k hlt;have e3:=hle.out (k+1);obtain ⟨l,hl⟩:=Fq (ls.getD k []);have hones:l.all AV.one=true:=hone.out l (by rw [<- hl];simp [hlt]);rw [hl] at e1 e2;rw [<- hc.out] at e1;have e4:c.length+l.length<=m:=by rw [e1,FP,hm] at e3;exact e3
    have e5:(c.length+l.length) * 24<=140737488355328:=by omega
    have e6:c.length+l.length<=140737488355328:=by omega
    replace e1:=hid e1;replace hl:=hid hl;clear e3;have hdead:(L++(X++[Blk.cells c])).set i .dead=L++(X++[.dead]):=by rw [hi.out];simp
    have hlen:(L++(X++[Blk.dead])).length=i+1:=by rw [hi.out];simp;omega
    refine wk ?_;refine aJ _ _ _ ?_ (CutL (b:=by simp)) ⟨k+1,i+1,X++[.dead],c++l,rfl,hlt,hid e1.out.symm,by simpa using e4,by rw [hi.out];simp;omega,rfl,?_⟩
    ·omega
    ·simp [Gd]
   ·have hke:k=ls.length:=by omega
    subst hke;have g1:¬ (ls.length:Int)<(ls.length:Int):=by omega
    refine wk ?_;refine nn (i:=i) (l:=c) hget ?_;rw [show (L++(X++[Blk.cells c])).set i .dead=L++(X++[.dead]) by rw [hi.out];simp];have e:=hc.out;rw [F5] at e;have hs:(AV.lsl i 0 c.length none 1).snap i c=.sl c c.length none:=by simp [AV.snap,Gd]
    rw [hs,e,hm];exact ah (by simp only [AV.refs,href.out]) h.out
theorem BG {d:List Rdn} {cap cap':Option Nat} (hn:d.length<=1100000) (hr:∀ r∈d,r.length<=1100000) (h:K (.sl (d.map aI) d.length none) L) :
  Fv 16 [.sl (d.map aI) d.length cap,.sl [] 0 cap'] L K:=by
 replace h:=hid h;have hat:=hid (fun k=>@oI d k);replace hr:=hid hr;have kk1:Hid (Ctr Try.prog 30 [.sl [.sl [] 0 cap',.sl (d.map aI) d.length cap] 2 (some 2)] (.sl (d.map aI) d.length none)):=@hid _ (by
  intro L K q;refine nC ?_;simp only [AV.frzL,AV.frz,kz];have:=@uA [[],d.map aI] none (by simp) (by simpa using hn) (fun l hl=>by
   simp at hl;rcases hl with rfl|rfl
   ·rfl
   ·rw [FH];intro a ha;obtain ⟨r,_,rfl⟩:=FF.1 ha;rfl) (fun p=>by simpa using iH p d) L K
  simp only [H3,H4,Ge,Gs,FQ,GD,FS,Gu,FT,tO] at this;exact this q)
 refine Fu qC ?_;refine iD (l:=[]) (n:=0) 5 1 rfl (GP 1).symm ?_;refine aM (fun m T' L'=>∃ (k:Nat) (C:List AV) (X:List Blk),m=d.length - k/\k<=d.length/\Hid (C=(d.take k).map aI)/\T'=[(13,.int .i64 (k:Int)),(12,.int .i64 d.length),(11,.sl (d.map aI) d.length none),(5,.gsl C k L.length 1)]/\L'=L++(.spare k 1::X)) (CutS (b:=by simp)) ⟨0,[],[],rfl,FW _,hid rfl,rfl,by simp⟩ ?_;rintro _ _ _ ⟨k,C,X,rfl,hk,hC,rfl,rfl⟩;by_cases hlt:k<d.length
 ·have g1:(k:Int)<(d.length:Int):=by omega
  have g2:=Ft k (by omega);have e2:=hat.out k hlt;have e3:k<(d.map aI).length:=by simpa using hlt
  obtain ⟨r,hri⟩:=Fq (d.getD k []);have hrl:=hr.out r (by rw [<- hri];simp [hlt]);have htk:(d.take (k+1)).map aI=C++[.sl (bE r) r.length none]:=by
   rw [hC.out,Gc hlt,FZ,show d[k]=r by rw [<- hri];simp [hlt]];rfl
  rw [hri] at e2;have e4:=qV r;have e5:=dS r;replace htk:=hid htk;clear hri hC;refine wk ?_;exact aJ _ _ _ (by omega) (CutL (b:=by simp)) ⟨k+1,_,_,rfl,hlt,hid htk.out.symm,rfl,rfl⟩
 ·have hke:k=d.length:=by omega
  subst hke;have g1:¬ (d.length:Int)<(d.length:Int):=by omega
  have hC2:=hC.out;rw [F5] at hC2;subst hC2;clear hC;refine wk ?_;refine cQ ?_;simp only [AV.frz,kz];exact ah (by simp only [AV.refs,iH]) h.out
def Cn (x:Nat):Prop:=128<=x/\x<192
instance (x:Nat):Decidable (Cn x):=by unfold Cn;infer_instance
def zl (n b0 b1:Nat):Prop:=n<2\/¬ Cn b1\/(b0 - 192) * 64+b1 - 128<128
def EY (n b0 b1 b2:Nat):Prop:=n<3\/¬ Cn b1\/¬ Cn b2\/((b0 - 224) * 64+b1 - 128) * 64+b2 - 128<2048\/55296<=((b0 - 224) * 64+b1 - 128) * 64+b2 - 128/\((b0 - 224) * 64+b1 - 128) * 64+b2 - 128<57344
def EX (n b0 b1 b2 b3:Nat):Prop:=n<4\/¬ Cn b1\/¬ Cn b2\/¬ Cn b3\/(((b0 - 240) * 64+b1 - 128) * 64+b2 - 128) * 64+b3 - 128<65536\/1114111<(((b0 - 240) * 64+b1 - 128) * 64+b2 - 128) * 64+b3 - 128
instance (n b0 b1:Nat):Decidable (zl n b0 b1):=by unfold zl;infer_instance
instance (n b0 b1 b2:Nat):Decidable (EY n b0 b1 b2):=by unfold EY;infer_instance
instance (n b0 b1 b2 b3:Nat):Decidable (EX n b0 b1 b2 b3):=by unfold EX;infer_instance
theorem eh (c:UInt8):(gg c).toNat=if 65<=c.toNat/\c.toNat<=90 then c.toNat+32 else c.toNat:=by
 by_cases h:65<=c.toNat/\c.toNat<=90
 ·have:=xZ h.1 h.2;rw [if_pos h];omega
 ·rw [qm h,if_neg h]
theorem um (c:UInt8):gg (gg c)=gg c:=by
 refine qm ?_;rw [eh];split<;>omega
theorem s9 (s:List UInt8):az (az s)=az s:=by
 unfold az;rw [FR];exact Gp fun c _=>um c
theorem sE (s:List UInt8) (c:UInt8):bi (s++[c])=aC (bi s) c:=by simp [bi]
theorem sF (s:List UInt8):(bi s).length<=s.length:=by
 have:=kU s s.length
 rwa [F5] at this
theorem uL {b:List UInt8} (c:UInt8) (h:bi b=b):bi (aC b c)=aC b c:=by
 by_cases hc:c=32/\td b=true
 ·simp only [aC,if_pos hc];exact h
 ·simp only [aC,if_neg hc];rw [sE,h,aC,if_neg hc]
theorem wg:∀ (s b:List UInt8),bi b=b->bi (s.foldl aC b)=s.foldl aC b
 | [],_,h=>h
 | c::s,b,h=>wg s (aC b c) (uL c h)
theorem qK (s:List UInt8):bi (bi s)=bi s:=wg s [] rfl
theorem C8 {b:List UInt8} {c:UInt8} (h:bi (b++[c])=b++[c]):bi b=b/\¬ (c=32/\td b=true):=by
 rw [sE] at h;unfold aC at h;split at h
 ·have:=sF b;rw [h] at this;simp at this;omega
 ·rename_i hc
  have:=List.append_cancel_right h;rw [this] at hc;exact ⟨this,hc⟩
theorem qH {b:List UInt8} (h:bi b=b):bi (cT b)=cT b/\cT (cT b)=cT b:=by
 rcases Hb b with rfl|⟨d,c,rfl⟩
 ·simp [cT,bi]
 ·rw [HE] at h ⊢;obtain ⟨h1,h2⟩:=C8 h;rw [iG];split
  ·rename_i hc
   refine ⟨h1,?_⟩;have h3:td d=false:=by simpa [hc] using h2
   unfold cT;rw [if_neg];intro e;simp [td,e] at h3
  ·rename_i hc
   exact ⟨h,by rw [iG,if_neg hc]⟩
theorem uT {b:List UInt8} {c x:UInt8} (h:x∈aC b c):x∈b\/x=c:=by
 unfold aC at h;split at h
 ·exact .inl h
 ·simpa using h
theorem vP:∀ (s b:List UInt8) {x:UInt8},x∈s.foldl aC b->x∈b\/x∈s
 | [],_,_,h=>.inl h
 | c::s,b,x,h=>by
   rcases vP s (aC b c) h with h1|h1
   ·rcases uT h1 with h2|h2
    ·exact .inl h2
    ·exact .inr (by simp [h2])
   ·exact .inr (by simp [h1])
theorem yL {b:List UInt8} {x:UInt8} (h:x∈cT b):x∈b:=by
 unfold cT at h;split at h
 ·exact (List.dropLast_sublist b).subset h
 ·exact h
theorem yM {s:List UInt8} {x:UInt8} (h:x∈ba s):∃ c∈s,x=gg c:=by
 rcases vP _ _ (yL h) with h1|h1
 ·cases h1
 ·obtain ⟨c,hc,rfl⟩:=FF.1 h1;exact ⟨c,hc,rfl⟩
theorem wh (s:List UInt8):az (ba s)=ba s:=by
 unfold az;rw [Gp (g:=id) (fun x hx=>?_),List.map_id];obtain ⟨c,_,rfl⟩:=yM hx;exact um c
theorem wS (s:List UInt8):ba (ba s)=ba s:=by
 have h1:ba (ba s)=cT (bi (ba s)):=by
  show cT (bi (az (ba s)))=_
  rw [wh]
 rw [h1];have h2:=qH (qK (az s));show cT (bi (cT (bi (az s))))=cT (bi (az s))
 rw [h2.1,h2.2]
def Chr (q:List UInt8):Prop:=q≠[]/\(∀ s,Lib.validD (q++s)=Lib.validD s)/\((∃ c:UInt8,q=[c]/\c.toNat<128)\/∀ c∈q,128<=c.toNat)
inductive Seg:List UInt8->Prop
 | nil:Seg []
 | cons {q s:List UInt8}:Chr q->Seg s->Seg (q++s)
theorem Seg.app {a b:List UInt8} (h:Seg a) (hb:Seg b):Seg (a++b):=by
 induction h with
 | nil=>exact hb
 | cons hq _ ih=>rw [FO];exact .cons hq ih
theorem Seg.last {s:List UInt8} (h:Seg s):∀ d:List UInt8,s=d++[32]->Seg d:=by
 induction h with
 | nil=>intro d e;simp at e
 | @cons q s hq hs ih =>
   intro d e;rcases Hb s with rfl|⟨s',c,rfl⟩
   ·rw [Ge] at e;subst e;rcases hq.2.2 with ⟨c,e2,_⟩|h2
    ·have:d=[]:=by
      have:=congrArg List.length e2;simp at this;exact this
     subst this;exact .nil
    ·have:=h2 32 (by simp);exact absurd this (by decide)
   ·rw [HE] at *;rw [<- FO] at e;obtain ⟨e1,e2⟩:=List.append_inj' e rfl;subst e1;rw [e2] at ih hs;exact .cons hq (ih s' rfl)
def Dif (a b:Ava):Prop:=az a.1≠az b.1
theorem yb {r:Rdn} {t:List UInt8}:nE r t=false↔∀ a∈r,az a.1≠az t:=by simp [nE]
theorem tj:∀ (t done:Rdn),done.length<=8->(cS done t=0↔done.length+t.length<=8/\(∀ a∈t,ll a.1=true)/\(∀ a∈done,∀ b∈t,Dif a b)/\t.Pairwise Dif)
 | [],done,h=>by simp [cS,h]
 | a::t,done,h=>by
   unfold cS;by_cases h8:done.length=8
   ·rw [if_pos h8];simp only [FT];constructor
    ·intro e;cases e
    ·intro e;omega
   rw [if_neg h8];by_cases hty:ll a.1=false
   ·rw [if_pos hty];constructor
    ·intro e;cases e
    ·intro e;have:=e.2.1 a (by simp);rw [hty] at this;cases this
   rw [if_neg hty];by_cases hh:nE done a.1=true
   ·rw [if_pos hh];constructor
    ·intro e;cases e
    ·intro e;have:nE done a.1=false:=yb.2 fun b hb=>e.2.2.1 b hb a (by simp)
     rw [hh] at this;cases this
   rw [if_neg hh,tj t (done++[a]) (by simp;omega)];simp only [Bool.not_eq_false] at hty;have hh2:=yb.1 (by simpa using hh);simp only [FP,FT,Gu,FE,FM,FX,Gw,or_false,forall_eq_or_imp,List.pairwise_cons];constructor
   ·rintro ⟨e1,e2,e3,e4⟩;refine ⟨by omega,⟨hty,e2⟩,fun x hx=>⟨hh2 x hx,fun b hb=>e3 x (.inl hx) b hb⟩,fun b hb=>e3 a (.inr rfl) b hb,e4⟩
   ·rintro ⟨e1,⟨_,e2⟩,e3,e4,e5⟩;refine ⟨by omega,e2,?_,e5⟩;rintro x (hx|rfl) b hb
    ·exact (e3 x hx).2 b hb
    ·exact e4 b hb
theorem yw {t:List UInt8} (h:ll t=true):ll (az t)=true:=by
 simp only [ll,FG,FH,decide_eq_true_eq] at h ⊢;obtain ⟨⟨⟨h1,h2⟩,h3⟩,h4⟩:=h;have hlet:∀ c:UInt8,jk (c.toNat:Int)=true->jk ((gg c).toNat:Int)=true:=by
  intro c hc;have:=eh c;split at this
  ·rw [this];simp only [jk,Gm,FG,decide_eq_true_eq] at hc ⊢;omega
  ·rw [this];exact hc
 refine ⟨⟨⟨by simpa [az] using h1,by simpa [az] using h2⟩,?_⟩,?_⟩
 ·rcases t with _|⟨c,t⟩
  ·simp at h1
  ·simpa [az] using hlet c (by simpa using h3)
 ·intro c hc;obtain ⟨x,hx,rfl⟩:=FF.1 hc;have:=h4 x hx;simp only [rQ,Gm] at this ⊢;rcases this with (e|e)|e
  ·exact .inl (.inl (hlet x e))
  ·refine .inl (.inr ?_);simp only [FG,decide_eq_true_eq] at e ⊢;rw [eh,if_neg (by omega)];exact e
  ·refine .inr ?_;simp only [decide_eq_true_eq] at e ⊢;rw [eh,if_neg (by omega)];exact e
theorem sI (r:Rdn):(ji r).Perm (r.map mT):=by
 have:=(s8 r [] List.Pairwise.nil).2
 rwa [Gs] at this
theorem yJ (a:Ava):mT (mT a)=mT a:=by simp [mT,s9,wS]
theorem ve {r:Rdn} (h:cS [] r=0):cS [] (ji r)=0:=by
 rw [tj _ _ (by simp)] at h ⊢;obtain ⟨h1,h2,_,h4⟩:=h;have hp:=sI r;refine ⟨by simpa [sJ] using h1,fun a ha=>?_,fun a ha=>(by cases ha),?_⟩
 ·obtain ⟨b,hb,rfl⟩:=FF.1 (hp.mem_iff.1 ha);exact yw (h2 b hb)
 ·refine (hp.pairwise_iff (fun {a b} e=>Ne.symm e)).2 ?_;rw [List.pairwise_map];refine h4.imp fun {a b} e=>?_
  simpa [Dif,mT,s9] using e
theorem tp:∀ (d:List Rdn) (i:Nat),gk i d=0->gk i (ln d)=0
 | [],_,h=>h
 | r::d,i,h=>by
   unfold gk at h;show gk i (ji r::ln d)=0
   unfold gk;split at h
   ·cases h
   rename_i h32
   split at h
   ·cases h
   rename_i hr
   split at h
   ·rename_i h5;exact absurd h h5
   rename_i h5
   simp only [ne_eq,H1] at h5;rw [if_neg h32,if_neg,if_neg (by simpa using ve h5),tp d _ h];intro e;have:=congrArg List.length e;rw [sJ] at this;exact hr (F8.1 this)
def wtB (c:UInt8):Nat:=if c=0 then 3 else if c∈([34,43,44,59,60,62,92]:List UInt8) then 2 else 1
def wtS (s:List UInt8):Nat:=(s.map wtB).sum
theorem xJ (a b:List UInt8):wtS (a++b)=wtS a+wtS b:=by simp [wtS]
theorem DP:∀ c:UInt8,wtB (gg c)=wtB c:=by
 intro c;by_cases h:65<=c.toNat/\c.toNat<=90
 ·have h2:=eh c;rw [if_pos h] at h2;have g:∀ x:UInt8,65<=x.toNat->x.toNat≠92->wtB x=1:=by
   intro x hx hn;unfold wtB;rw [if_neg (by rintro rfl;exact absurd hx (by decide)),if_neg];simp only [FX,Gw,or_false];rintro (rfl|rfl|rfl|rfl|rfl|rfl|rfl)
   all_goals first|exact absurd hx (by decide)|exact absurd rfl hn
  rw [g c (by omega) (by omega),g _ (by omega) (by omega)]
 ·rw [qm h]
theorem vu (s:List UInt8):wtS (az s)=wtS s:=by
 simp only [wtS,az,FR];rw [show (wtB ∘ gg)=wtB from funext DP]
theorem DT (i n:Nat) (c:UInt8):wtB c<=(wrB i n c).length:=by
 unfold wtB wrB;by_cases h0:c=0
 ·rw [if_pos h0,if_pos h0];simp
 ·rw [if_neg h0,if_neg h0];by_cases h7:c∈([34,43,44,59,60,62,92]:List UInt8)
  ·rw [if_pos h7,if_pos (.inr (.inr h7))];simp
  ·rw [if_neg h7];split<;>simp
theorem wI (n:Nat):∀ (s:List UInt8) (i:Nat),wtS s<=(wrL n i s).length
 | [],_=>by simp [wtS]
 | c::s,i=>by
   have h1:=wI n s (i+1);have h2:=DT i n c;simp only [wrL,FP,wtS,FQ,G1] at h1 ⊢;omega
theorem DV {i n:Nat} {c:UInt8} (hi:i≠0) (hc:c≠32):(wrB i n c).length=wtB c:=by
 unfold wtB wrB;by_cases h0:c=0
 ·rw [if_pos h0,if_pos h0];simp
 ·rw [if_neg h0,if_neg h0];by_cases h7:c∈([34,43,44,59,60,62,92]:List UInt8)
  ·rw [if_pos h7,if_pos (.inr (.inr h7))];simp
  ·rw [if_neg h7,if_neg];· simp
   rintro (e|e|e)
   ·exact hi e.1
   ·exact hc e.2
   ·exact h7 e
theorem DU {i n:Nat} (hi:i≠0) (hn:i+1≠n):(wrB i n 32).length=wtB 32:=by
 have e:wrB i n 32=[32]:=by
  unfold wrB;rw [if_neg (by decide),if_neg];rintro (e|e|e)
  ·exact hi e.1
  ·exact hn e.1
  ·exact absurd e (by decide)
 rw [e];decide
theorem zH (n:Nat):∀ (s:List UInt8) (i:Nat),i≠0->n=i+s.length->s.getLast?≠some 32->(wrL n i s).length=wtS s
 | [],_,_,_,_=>by simp [wrL,wtS]
 | c::s,i,hi,hn,hl=>by
   have h1:s.getLast?≠some 32:=by
    rcases s with _|⟨x,s⟩
    ·simp
    ·rwa [List.getLast?_cons_cons] at hl
   have ih:=zH n s (i+1) (by omega) (by simp at hn;omega) h1;have h2:(wrB i n c).length=wtB c:=by
    by_cases hc:c=32
    ·subst hc;refine DU hi fun e=>?_
     have:s=[]:=F8.1 (by simp at hn;omega);subst this;exact hl rfl
    ·exact DV hi hc
   rw [wrL,FP,ih,h2];simp [wtS]
theorem zG (s:List UInt8):wtS s<=(eC s).length:=wI _ _ _
theorem wG (s:List UInt8):wtS (35::s)+1<=(eC (35::s)).length:=by
 have h1:=wI (s.length+1) s 1;have e:wrB 0 (s.length+1) 35=[92,35]:=by
  unfold wrB;rw [if_neg (by decide),if_pos (.inl ⟨rfl,.inr rfl⟩)]
 show _<=(wrB 0 (s.length+1) 35++wrL (s.length+1) 1 s).length
 rw [e];have:wtB 35=1:=by decide
 simp only [wtS,FQ,G1,FP,FT,Gu] at h1 ⊢;omega
theorem zF {c:UInt8} {s:List UInt8} (h1:c≠32) (h2:(c::s).getLast?≠some 32):(eC (c::s)).length=wtS (c::s)+(if c=35 then 1 else 0):=by
 have hs:s.getLast?≠some 32:=by
  rcases s with _|⟨x,s⟩
  ·simp
  ·rwa [List.getLast?_cons_cons] at h2
 have h3:=zH (s.length+1) s 1 (by omega) (by omega) hs;show (wrB 0 (s.length+1) c++wrL (s.length+1) 1 s).length=_
 rw [FP,h3];have h4:(wrB 0 (s.length+1) c).length=wtB c+(if c=35 then 1 else 0):=by
  unfold wtB wrB;by_cases h0:c=0
  ·subst h0;rfl
  ·rw [if_neg h0,if_neg h0];by_cases h7:c∈([34,43,44,59,60,62,92]:List UInt8)
   ·rw [if_pos h7,if_pos (.inr (.inr h7)),if_neg]
    ·rfl
    ·rintro rfl;exact absurd h7 (by decide)
   ·rw [if_neg h7];by_cases h35:c=35
    ·rw [if_pos h35,if_pos (.inl ⟨rfl,.inr h35⟩)];rfl
    ·rw [if_neg h35,if_neg];· rfl
     rintro (e|e|e)
     ·rcases e.2 with e|e
      ·exact h1 e
      ·exact h35 e
     ·exact h1 e.2
     ·exact h7 e
 rw [h4];simp [wtS];omega
theorem CD (b:List UInt8) (c:UInt8):wtS (aC b c)<=wtS b+wtB c:=by
 unfold aC;split
 ·omega
 ·rw [xJ];simp [wtS]
theorem uI:∀ (s b:List UInt8),wtS (s.foldl aC b)<=wtS b+wtS s
 | [],b=>by simp [wtS]
 | c::s,b=>by
   have h1:=uI s (aC b c);have h2:=CD b c;simp only [G4,wtS,FQ,G1] at h1 h2 ⊢;omega
theorem xI (b:List UInt8):wtS (cT b)<=wtS b:=by
 rcases Hb b with rfl|⟨d,c,rfl⟩
 ·simp [cT]
 ·rw [HE,iG];split
  ·rw [xJ];omega
  ·omega
theorem qR:∀ (s:List UInt8) (x:UInt8) (b:List UInt8),∃ t,s.foldl aC (x::b)=x::t
 | [],x,b=>⟨b,rfl⟩
 | c::s,x,b=>by
   rw [G4,aC];split
   ·exact qR s x b
   ·exact qR s x (b++[c])
theorem CE (c:UInt8):1<=wtB c:=by
 unfold wtB;split
 ·omega
 ·split<;>omega
theorem w6 (s:List UInt8):(ba s).getLast?≠some 32:=by
 have h:=qH (qK (az s));have e:cT (ba s)=ba s:=h.2;intro hl;rcases Hb (ba s) with q|⟨d,c,q⟩
 ·rw [q] at hl;cases hl
 ·rw [q,HE] at e hl;rw [iG,if_pos (by simpa using hl)] at e;have:=congrArg List.length e;simp at this
theorem xb {s:List UInt8} {c:UInt8} {t:List UInt8} (h:ba s=c::t):c≠32:=by
 have e:bi (ba s)=ba s:=(qH (qK (az s))).1;rw [h] at e;rintro rfl;have:=sF t;have e2:bi (32::t)=t.foldl aC []:=rfl;rw [e2] at e;have:=congrArg List.length e;have h3:(t.foldl aC []).length<=t.length:=sF t;simp at this;omega
theorem yr (s:List UInt8):(eC (ba s)).length<=(eC s).length:=by
 have hge:=zG s;have hw:wtS (ba s)<=wtS s:=by
  have h1:=xI (bi (az s));have h2:=uI (az s) [];have h3:=vu s;have h4:wtS (bi (az s))=wtS ((az s).foldl aC []):=rfl;have h5:wtS ([]:List UInt8)=0:=rfl;show wtS (cT (bi (az s)))<=_
  omega
 rcases hp:ba s with _|⟨c,t⟩
 ·simp [eC,wrL]
 have hl:=w6 s;rw [hp] at hl hw;rw [zF (xb hp) hl];split
 ·rename_i h35
  subst h35;rcases s with _|⟨x,s⟩
  ·have:ba []=[]:=rfl;rw [this] at hp;cases hp
  ·by_cases hx:x=35
   ·subst hx;have:=wG s;omega
   ·by_cases hx2:x=32
    ·subst hx2;have e:ba (32::s)=ba s:=rfl;have h1:=xI (bi (az s));have h2:=uI (az s) [];have h3:=vu s;have h4:wtS (bi (az s))=wtS ((az s).foldl aC []):=rfl;have h5:wtS ([]:List UInt8)=0:=rfl;have h6:wtS (ba s)=wtS (cT (bi (az s))):=rfl;rw [e] at hp;rw [hp] at h6;have h7:wtS (32::s)=wtB 32+wtS s:=by simp [wtS]
     have h8:=CE 32;omega
    ·exfalso;have hlx:¬ (gg x=32):=by
      intro q;have:=eh x;rw [q] at this;apply hx2;have:x.toNat=32:=by
       split at this
       ·have h9:(32:UInt8).toNat=32:=rfl;omega
       ·exact this.symm
      exact UInt8.toNat.inj this
     have hlx5:¬ (gg x=35):=by
      intro q;have:=eh x;rw [q] at this;apply hx;have:x.toNat=35:=by
       split at this
       ·have h9:(35:UInt8).toNat=35:=rfl;omega
       ·exact this.symm
      exact UInt8.toNat.inj this
     have e1:az (x::s)=gg x::az s:=rfl;obtain ⟨u,hu⟩:=qR (az s) (gg x) [];have e2:bi (az (x::s))=gg x::u:=by
      rw [e1,<- hu];show (az s).foldl aC (aC [] (gg x))=_
      rw [aC,if_neg (fun q=>hlx q.1)];rfl
     have e3:cT (gg x::u)=35::t:=by
      rw [<- e2];exact hp
     rcases Hb u with rfl|⟨d,y,rfl⟩
     ·have:cT ([]++[gg x])=[]++[gg x]:=by rw [iG,if_neg hlx]
      rw [show [gg x]=[]++[gg x] from rfl,this] at e3;exact hlx5 (by simpa using congrArg List.head? e3)
     ·rw [HE,<- G8,iG] at e3;split at e3
      ·exact hlx5 (by simpa using congrArg List.head? e3)
      ·exact hlx5 (by simpa using congrArg List.head? e3)
 ·omega
theorem gj (xs:List (List UInt8)) (c:UInt8):(Lib.join xs [c]).length+1=(xs.map List.length).sum+xs.length+(if xs=[] then 1 else 0):=by
 rcases xs with _|⟨x,xs⟩
 ·simp [Lib.join]
 ·rw [sV,if_neg (by simp)];have:(xs.flatMap fun y=>[c]++y).length=(xs.map List.length).sum+xs.length:=by
   induction xs with
   | nil=>rfl
   | cons y l ih=>simp only [HA,FP,ih,FQ,G1,FT,Gu];omega
  simp only [FP,this,FQ,G1,FT];omega
theorem wN {α:Type} {f g:α->Nat}:∀ l:List α,(∀ a∈l,f a<=g a)->(l.map f).sum<=(l.map g).sum
 | [],_=>Fz _
 | a::l,h=>by
   have h1:=wN l fun x hx=>h x (by simp [hx])
   have h2:=h a (by simp);simp only [FQ,G1];omega
theorem z8 {l m:List Nat} (h:l.Perm m):l.sum=m.sum:=by
 induction h with
 | nil=>rfl
 | cons _ _ ih=>simp only [G1,ih]
 | swap a b l=>simp only [G1];omega
 | trans _ _ a b=>exact a.trans b
theorem vB (r:Rdn):(bG true r).length<=(bG false r).length:=by
 have hs:(cd (r.map (avT true))).Perm (r.map (avT true)):=G0 _ _;have h1:=gj (cd (r.map (avT true))) 43;have h2:=gj (r.map (avT false)) 43;have h3:((cd (r.map (avT true))).map List.length).sum=((r.map (avT true)).map List.length).sum:=z8 (hs.map _);have h4:(cd (r.map (avT true))).length=r.length:=by rw [hs.length_eq];simp
 have h5:((r.map (avT true)).map List.length).sum<=((r.map (avT false)).map List.length).sum:=by
  rw [FR,FR];refine wN r fun a _=>?_
  have:=yr a.2;simp only [GR,avT,if_true,FI,if_false,FP,FT,Gu];simp only [az,FS];omega
 have h6:(if cd (r.map (avT true))=[] then 1 else 0)=(if r.map (avT false)=[] then 1 else 0):=by
  have:cd (r.map (avT true))=[]↔r.map (avT false)=[]:=by
   rw [<- F8,<- F8,h4];simp
  simp only [this]
 simp only [bG,if_true,FI,if_false];rw [h3,h4,h6] at h1;simp only [FS] at h2;omega
theorem vx (d:List Rdn):(aE true d).length<=(aE false d).length:=by
 have h1:=gj (d.map (bG true)) 44;have h2:=gj (d.map (bG false)) 44;have h3:((d.map (bG true)).map List.length).sum<=((d.map (bG false)).map List.length).sum:=by
  rw [FR,FR];exact wN d fun r _=>vB r
 have h6:(if d.map (bG true)=[] then 1 else 0)=(if d.map (bG false)=[] then 1 else 0):=by
  simp only [List.map_eq_nil_iff]
 rw [h6] at h1;simp only [FS] at h1 h2;unfold aE;omega
theorem yC {xs ys:List (List UInt8)} (h:xs.Perm ys):cd xs=cd ys:=by
 have hs:∀ zs:List (List UInt8),(cd zs).Pairwise fun x y=>x<=y:=fun zs=>by
  have:=H0 (le:=fun x y:List UInt8=>decide (x<=y)) (fun a b c h1 h2=>by
   simp only [decide_eq_true_eq] at *;exact List.le_trans h1 h2) (fun a b=>by
   simp only [Gm,decide_eq_true_eq];exact List.le_total a b) zs
  exact this.imp fun h=>by simpa using h
 refine H9 (le:=fun x y=>x<=y) (fun a b _ _=>List.le_antisymm) (hs xs) (hs ys) ?_;exact (G0 _ _).trans (h.trans (G0 _ _).symm)
theorem wQ (r:Rdn):bG true (ji r)=bG true r:=by
 simp only [bG,if_true]
 congr 1
 refine yC ?_;refine ((sI r).map _).trans ?_;rw [FR];rw [show (avT true ∘ mT)=avT true from funext fun a=>by simp only [GR,yf,yJ]]
end Go.Proofs.Ytobihfefmlgaoaa.Av
