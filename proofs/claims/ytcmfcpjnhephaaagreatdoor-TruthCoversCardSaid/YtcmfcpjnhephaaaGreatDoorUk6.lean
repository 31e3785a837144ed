/- Joined texts of the walk, made small by a program. -/
import Derived.Test.YtcmfcpjnhephaaaGreatDoorUk4
import Derived.Test.YtcmfcpjnhephaaaGreatDoorRows
import Derived.KernelRfl
import Derived.Test.YtcmfcpjnhephaaaGreatDoorUk5
import Derived.Laws.RangeAny
import Derived.Laws.RangeString
import Derived.Shelf.Strings.Builder1
import Derived.Shelf.Strings.Builder2
import Derived.Shelf.Strings.OnBuilder
import Derived.Shelf.Small.Bits
import Derived.Shelf.Small.Strs
import Derived.Shelf.Strconv.Itoa0
import Derived.Shelf.Strconv.Itoa1
import Derived.Shelf.LaysM
import Derived.Shelf.Strconv.Itoa2
import Derived.Shelf.Strconv.Itoa3
import Derived.Shelf.Strconv.Itoa4
import Derived.Shelf.Strconv.ParseIntEmpty
import Derived.Shelf.Strconv.Clone
import Derived.Shelf.Strconv.SyntaxError
import Derived.Shelf.LaysC
import Derived.Shelf.Strconv.ToError
import Derived.Shelf.Strconv.Lower
import Derived.Shelf.Strconv.ParseUint10
import Derived.Shelf.Strconv.ParseUint10Empty
import Derived.Shelf.Strconv.ParseUint10Any
import Derived.Shelf.Strconv.ParseInt10
import Derived.Shelf.Strconv.RangeError
import Derived.Shelf.Strconv.ToErrorRange
import Derived.Shelf.Strconv.ParseUintEmpty
import Derived.Shelf.Strconv.ParseUint10b64
import Derived.Shelf.Strconv.ParseUint10b32
import Derived.Shelf.Strconv.ParseUint10b16
import Derived.Shelf.Strconv.ParseUint10b8
import Derived.Shelf.Strconv.ParseUint10At
import Derived.Shelf.Strconv.ParseInt10At64
import Derived.Shelf.Strconv.ParseInt10At32
import Derived.Shelf.Strconv.ParseInt10At16
import Derived.Shelf.Strconv.ParseInt10At8
import Derived.Shelf.Strconv.ParseInt10All
import Derived.Shelf.Strconv.ParseIntPublic10
import Derived.Shelf.Strconv.ErrVarParseInt
import Derived.Shelf.Strings.Search1
import Derived.Shelf.Strings.Search2
import Derived.Shelf.Strings.Search3
import Derived.Shelf.Strings.Cut
import Derived.Shelf.Strings.Shaped
import Derived.Shelf.Sort.Plain
import Derived.Shelf.GgClosure.StringsIndexFunc
import Derived.Ground.GgwProg
import Derived.Shelf.GgClosure.StringsIndexFuncTop
import Derived.Shelf.GgClosure.StringsRunes
import Derived.Shelf.Strings.Prefix
import Derived.Shelf.Slices.In.SortNone
import Derived.Test.YtcmfcpjnhephaaaGreatDoorProg
set_option linter.unusedSimpArgs false
set_option linter.unusedVariables false
set_option maxRecDepth 100000
namespace Go.Proofs.YtcmfcpjnhephaaaGreatDoor.Av
open Go
def Jm:LSO:=[As 2]
def Jl:LSO:=[Aa 6 0,o1 7 (.s2bO (tm 6)),Aa 3 7]
def Jk:LSO:=[Aa 8 3,Am 9 8,Ab 10 0]
def Jj:LSO:=[Ak 11 10 9]
def Ji:LSO:=[Aa 12 10,Ao 13 1 8 10,Ac 14 1 13,Aa 4 12,Aa 5 14]
def Jh:LSO:=[Aa 15 5,Cp 16 15,Aa 17 16,.grp none 17 true
 [Af 18 17 5,og 19 17 true (.bin .leq (tm 18) (.av (.int .u8 90)))]
 20 (tm 19)]
def Jg:LSO:=[Aa 21 3,Aa 22 4,Aa 23 5,o1 24 (.bin .add (tm 23) (.av (.int .u8 32))),Ao 25 1 21 22,Aj 1 25 24]
def Jf:LSO:=[Ag 26 10 1,Aa 10 26]
def Je:LSO:=[Aa 27 3,AT 28 27,Aa 2 28]
def yv:aQ:=⟨29,(aoC Jm [] (aoC Jl Cx (.seq (aoC Jk [] (aoF 0 (aoC Jj [] (.seq (aoG 11 0) (.seq (.block 1 (aoC Ji C6 (aoC Jh Cy (aoD 20 (.sreg Jg CB) .skip)))) (.sreg Jf Cw)))))) (aoC Je Cx .ret)))),[(.tmp 2)]⟩
attribute [push_cast] Jm Jl Jk Jj Ji Jh Jg Jf Je
theorem UF:aZ Tryz.prog (λr i=>if r=1/\i=1 then 2 else 1) 38=some yv.raw:=aoL
def Jd:LSO:=[As 2]
def Jc:LSO:=[Al 3]
def Jb:LSO:=[Aa 6 0,Ai 7 38 6,o1 8 (.s2b (tm 7)),Am 9 8,Ab 10 0]
def Ja:LSO:=[Ak 11 10 9]
def I9:LSO:=[Ao 12 1 8 10,Ac 13 1 12,Aa 5 13]
def I8:LSO:=[Aa 14 5,o1 15 (.bin .eql (tm 14) (.av (.int .u8 32))),Aa 16 15,.grp none 16 true
 [Af 17 16 3,Bo 18 16 17,AZ 19 16 18 0,Af 20 16 19,.grp (some (16,true)) 20 false
 [Ah 21 20 3,Ah 22 20 3,Bh 23 20 22,Cm 24 20 23 1,og 25 20 false (.iaddr 1 (tm 21) (tm 24)),AD 26 20 1 25,Cq 27 20 26]
 28 (tm 27)]
 29 (tm 28)]
def I7:LSO:=[Aa 30 3,Aa 31 5,AM 32 31,AI 33 30 32,Aa 3 33]
def I6:LSO:=[Ag 34 10 1,Aa 10 34]
def I5:LSO:=[Aa 35 3,Am 36 35,A3 37 36 0,Aa 38 37,.grp none 38 true
 [Af 39 38 3,Af 40 38 3,Bo 41 38 40,BS 42 38 41 1,B4 43 38 1 39 42,A6 44 38 1 43,Bw 45 38 44]
 46 (tm 45)]
def I4:LSO:=[Aa 47 3,Aa 48 3,Am 49 48,Bn 50 49 1,o1 51 (.slV 1 (tm 47) none (some (tm 50)) none),Aa 3 51]
def E6:LSO:=[Aa 52 3,AT 53 52,Aa 2 53]
def yu:aQ:=⟨54,(aoC Jd [] (aoC Jc [] (.seq (aoC Jb CR (aoF 0 (aoC Ja [] (.seq (aoG 11 0) (.seq (.block 1 (aoC I9 Cx (.seq (aoC I8 Cy (aoD 29 (.exit 1) .skip)) (.sreg I7 Cz)))) (.sreg I6 Cw)))))) (.seq (aoC I5 Cz (aoD 46 (.sreg I4 C0) .skip)) (aoC E6 Cx .ret))))),[(.tmp 2)]⟩
attribute [push_cast] Jd Jc Jb Ja I9 I8 I7 I6 I5 I4 E6
theorem UE:aoH 95=aoI yu:=aoL
def IA:LSO:=[As 2]
def Iz:LSO:=[Al 3]
def Iy:LSO:=[Ab 4 0]
def Ix:LSO:=[Aa 6 4,Aa 7 0,Aw 8 7,Ak 9 6 8]
def Iw:LSO:=[Aa 12 0,Aa 13 4,AB 14 12 13,Aa 5 14]
def Iv:LSO:=[Aa 15 5,Cp 16 15,Aa 17 16,.grp none 17 true
 [Af 18 17 5,og 19 17 true (.bin .leq (tm 18) (.av (.int .u8 90)))]
 20 (tm 19)]
def Iu:LSO:=[Aa 21 5,o1 22 (.bin .sub (tm 21) (.av (.int .u8 65))),o1 23 (.bin .add (tm 22) (.av (.int .u8 97))),Aa 5 23]
def It:LSO:=[Aa 24 3,Aa 25 5,AM 26 25,AI 27 24 26,Aa 3 27]
def Is:LSO:=[Aa 10 4,Ag 11 10 1,Aa 4 11]
def Ir:LSO:=[Aa 28 3,AT 29 28,Aa 2 29]
def yr:aQ:=⟨30,(aoC IA [] (aoC Iz [] (.seq (aoC Iy [] (aoF 0 (.seq (aoC Ix Cy (aoG 9 0)) (.seq (.block 1 (aoC Iw Cy (.seq (aoC Iv Cy (aoD 20 (.sreg Iu Cy) .skip)) (.sreg It Cz)))) (.sreg Is Cx))))) (aoC Ir Cx .ret)))),[(.tmp 2)]⟩
attribute [push_cast] IA Iz Iy Ix Iw Iv Iu It Is Ir
theorem UC:aoH 39=aoI yr:=aoL
def Iq:LSO:=[As 2]
def Ip:LSO:=[Aa 8 0,Ai 9 39 8,Aa 3 9]
def Io:LSO:=[Al 4]
def Im:LSO:=[Ab 5 0]
def Il:LSO:=[Aa 10 5,Aa 11 3,Aw 12 11,Ak 13 10 12]
def Ik:LSO:=[Ae 6]
def Ij:LSO:=[Aa 16 5,Aa 7 16]
def Ii:LSO:=[Aa 17 7,Aa 18 3,Aw 19 18,Ak 20 17 19,Aa 21 20,.grp none 21 true
 [Af 22 21 6,Bp 23 21 22]
 24 (tm 23)]
def Ih:LSO:=[Aa 27 3,Aa 28 7,AB 29 27 28,o1 30 (.bin .neq (tm 29) (.av (.int .u8 32))),Aa 6 30]
def Ig:LSO:=[Aa 25 7,Ag 26 25 1,Aa 7 26]
def Eu:LSO:=[Aa 31 6,Ay 32 31,Aa 33 32,.grp none 33 false
 [Ah 34 33 3,Ah 35 33 5,Bu 36 33 34 35,Cq 37 33 36,Ah 38 33 37,.grp (some (33,false)) 38 true
 [Af 39 38 4,Bo 40 38 39,AZ 41 38 40 0,Af 42 38 41,.grp (some (38,true)) 42 false
 [Ah 43 42 3,Ah 44 42 5,Cm 45 42 44 1,Bu 46 42 43 45,Cq 47 42 46]
 48 (tm 47)]
 49 (tm 48)]
 50 (tm 49)]
def Et:LSO:=[Aa 51 4,Aa 52 3,Aa 53 5,AB 54 52 53,AM 55 54,AI 56 51 55,Aa 4 56]
def Es:LSO:=[Aa 14 5,Ag 15 14 1,Aa 5 15]
def Er:LSO:=[Aa 57 4,AT 58 57,Aa 2 58]
def yq:aQ:=⟨59,(aoC Iq [] (aoC Ip Cx (aoC Io [] (.seq (aoC Im [] (aoF 0 (.seq (aoC Il Cy (aoG 13 0)) (.seq (.block 1 (aoC Ik [] (.seq (aoC Ij Cw (aoF 2 (.seq (aoC Ii C0 (aoG 24 2)) (.seq (.block 3 (.sreg Ih Cz)) (.sreg Ig Cx))))) (.seq (aoC Eu Cy (aoD 50 (.exit 1) .skip)) (.sreg Et C2))))) (.sreg Es Cx))))) (aoC Er Cx .ret))))),[(.tmp 2)]⟩
attribute [push_cast] Iq Ip Io Im Il Ik Ij Ii Ih Ig Eu Et Es Er
theorem UB:aoH 90=aoI yq:=aoL
def I3:LSO:=[Cr 2,Ae 3]
def I2:LSO:=[Aa 5 0,o1 6 (.bin .geq (tm 5) (.av (.int .u8 48))),Aa 7 6,.grp none 7 true
 [Af 8 7 0,og 9 7 true (.bin .leq (tm 8) (.av (.int .u8 57)))]
 10 (tm 9),Aa 4 10]
def I1:LSO:=[Aa 11 0,BN 12 11,Aa 2 12,Az 3]
def I0:LSO:=[Aa 14 0,o1 15 (.bin .geq (tm 14) (.av (.int .u8 97))),Aa 16 15,.grp none 16 true
 [Af 17 16 0,og 18 16 true (.bin .leq (tm 17) (.av (.int .u8 102)))]
 19 (tm 18),Aa 13 19]
def IZ:LSO:=[Aa 20 0,o1 21 (.bin .sub (tm 20) (.av (.int .u8 97))),o1 22 (.bin .add (tm 21) (.av (.int .u8 10))),Aa 2 22,Az 3]
def IY:LSO:=[Aa 24 0,Cp 25 24,Aa 26 25,.grp none 26 true
 [Af 27 26 0,og 28 26 true (.bin .leq (tm 27) (.av (.int .u8 70)))]
 29 (tm 28),Aa 23 29]
def IX:LSO:=[Aa 30 0,o1 31 (.bin .sub (tm 30) (.av (.int .u8 65))),o1 32 (.bin .add (tm 31) (.av (.int .u8 10))),Aa 2 32,Az 3]
def IW:LSO:=[Cr 2,Ae 3]
def yt:aQ:=⟨33,(aoC I3 [] (.seq (.block 0 (aoC I2 Cz (aoD 4 (aoC I1 CH .ret) (aoC I0 Cz (aoD 13 (aoC IZ C6 .ret) (aoC IY Cz (aoE 23 (.sreg IX C6)))))))) (aoC IW [] .ret))),[(.tmp 2),(.tmp 3)]⟩
attribute [push_cast] I3 I2 I1 I0 IZ IY IX IW
theorem UD:aoH 234=aoI yt:=aoL
def E5:LSO:=[As 2,Ae 3]
def EZ:LSO:=[Aa 10 0,Aw 11 10,BR 12 11 2,An 13 12 1]
def EY:LSO:=[As 2,Ae 3]
def EX:LSO:=[Aa 14 0,Aw 15 14,o1 16 (.bin .quo (tm 15) (iv 2)),o1 17 (.mkslice 1 1 [(.int .u8 0)] (iv 0) (tm 16)),Aa 4 17]
def EW:LSO:=[Ab 5 0]
def EV:LSO:=[Aa 18 5,Aa 19 0,Aw 20 19,Ak 21 18 20]
def EU:LSO:=[Aa 25 0,Aa 26 5,AB 27 25 26,Ai 28 234 27,Aa 24 28,Aq 29 24,Au 30 24,Aa 6 29,Aa 7 30]
def ET:LSO:=[Aa 32 0,Aa 33 5,Ag 34 33 1,AB 35 32 34,Ai 36 234 35,Aa 31 36,Aq 37 31,Au 38 31,Aa 8 37,Aa 9 38]
def ER:LSO:=[Aa 39 7,Ay 40 39,Aa 41 40,.grp none 41 false
 [Ah 42 41 9,Bc 43 41 42]
 44 (tm 43)]
def EP:LSO:=[As 2,Ae 3]
def w8:LSO:=[Aa 45 4,Aa 46 6,o1 47 (.bin .shl (tm 46) (.av (.int .u64 4))),Aa 48 8,o1 49 (.bin .or (tm 47) (tm 48)),AM 50 49,AI 51 45 50,Aa 4 51]
def w7:LSO:=[Aa 22 5,Ag 23 22 2,Aa 5 23]
def wZ:LSO:=[Aa 52 4,AT 53 52,Aa 2 53,Az 3]
def tZ:aQ:=⟨54,(aoC E5 [] (.seq (aoC EZ Cy (aoE 13 (.sreg EY []))) (aoC EX Cz (.seq (aoC EW [] (aoF 0 (.seq (aoC EV Cy (aoG 21 0)) (.seq (.block 1 (aoC EU CI (aoC ET CX (.seq (aoC ER Cy (aoE 44 (.sreg EP []))) (.sreg w8 C4))))) (.sreg w7 Cx))))) (aoC wZ CH .ret))))),[(.tmp 2),(.tmp 3)]⟩
attribute [push_cast] E5 EZ EY EX EW EV EU ET ER EP w8 w7 wZ
theorem Tg:aoH 211=aoI tZ:=aoL
def Ef:LSO:=[Cr 2]
def Ee:LSO:=[Aa 3 0,o1 4 (.bin .lss (tm 3) (.av (.int .u8 10)))]
def Ed:LSO:=[Aa 5 0,o1 6 (.bin .add (.av (.int .u8 48)) (tm 5)),Aa 2 6]
def Ec:LSO:=[Aa 7 0,o1 8 (.bin .add (.av (.int .u8 97)) (tm 7)),o1 9 (.bin .sub (tm 8) (.av (.int .u8 10))),Aa 2 9]
def tW:aQ:=⟨10,(aoC Ef [] (.seq (aoC Ee Cw (aoE 4 (.sreg Ed Cx))) (aoC Ec Cy .ret))),[(.tmp 2)]⟩
attribute [push_cast] Ef Ee Ed Ec
theorem Td:aoH 221=aoI tW:=aoL
def Ep:LSO:=[As 2,Ae 3]
def Eo:LSO:=[Al 4]
def En:LSO:=[Aa 9 0,Ai 10 39 9,Aa 5 10]
def Em:LSO:=[Ab 6 0]
def El:LSO:=[Aa 11 6,Ag 12 11 1,Aa 13 5,Aw 14 13,Ak 15 12 14]
def Ek:LSO:=[Ae 7]
def Ej:LSO:=[Ab 8 0]
def Ei:LSO:=[Aa 18 8,AF 19 18 256,Aa 20 19,.grp none 20 true
 [Af 21 20 7,Bp 22 20 21]
 23 (tm 22)]
def Eh:LSO:=[Aa 26 8,o1 27 (.bin .quo (tm 26) (iv 16)),o1 28 (.conv .u8 (tm 27)),Ai 29 221 28,Aa 30 5,Aa 31 6,AB 32 30 31,AH 33 29 32,Aa 34 33,.grp none 34 true
 [Af 35 34 8,BM 36 34 35 16,og 37 34 true (.conv .u8 (tm 36)),AL 38 34 221 37,Af 39 34 5,Af 40 34 6,Ck 41 34 40 1,AX 42 34 39 41,Ch 43 34 38 42]
 44 (tm 43)]
def Eg:LSO:=[Aa 45 4,Aa 46 8,o1 47 (.conv .u8 (tm 46)),AM 48 47,AI 49 45 48,Aa 4 49]
def wY:LSO:=[Az 7]
def wX:LSO:=[Aa 24 8,Ag 25 24 1,Aa 8 25]
def wW:LSO:=[Aa 50 7,Ay 51 50]
def wV:LSO:=[As 2,Ae 3]
def wU:LSO:=[Aa 16 6,Ag 17 16 2,Aa 6 17]
def wT:LSO:=[Aa 52 0,Aw 53 52,BR 54 53 2,An 55 54 1]
def wS:LSO:=[As 2,Ae 3]
def wR:LSO:=[Aa 56 4,AT 57 56,Aa 2 57,Az 3]
def tX:aQ:=⟨58,(aoC Ep [] (aoC Eo [] (aoC En Cx (.seq (aoC Em [] (aoF 0 (.seq (aoC El Cz (aoG 15 0)) (.seq (.block 1 (aoC Ek [] (.seq (aoC Ej [] (aoF 2 (.seq (aoC Ei Cy (aoG 23 2)) (.seq (.block 3 (.seq (.sdreg Eh [.pure,.pure,.pure,(.read 0 0),.pure,.pure,(.read 0 0),.pure,.pure,.pure,.pure,.pure,(.read 0 0),.pure,.pure,.pure,(.read 0 0)] CK) (aoD 44 (aoC Eg C0 (.sreg wY [])) .skip))) (.sreg wX Cx))))) (aoC wW Cw (aoE 51 (.sreg wV [])))))) (.sreg wU Cx))))) (.seq (aoC wT Cy (aoE 55 (.sreg wS []))) (aoC wR CH .ret)))))),[(.tmp 2),(.tmp 3)]⟩
attribute [push_cast] Ep Eo En Em El Ek Ej Ei Eh Eg wY wX wW wV wU wT wS wR
theorem Te:aoH 189=aoI tX:=aoL
attribute [push_cast] yv yr tZ tX
variable {L:List Blk}{K:alp}
set_option maxHeartbeats 8000000
set_option maxRecDepth 100000
def dP(c:UInt8):UInt8:=if 65<=c.toNat/\c.toNat<=90 then c+32 else c
def af(s:List UInt8):List UInt8:=s.map dP
theorem YA{c:UInt8}(h1:65<=c.toNat)(h2:c.toNat<=90):((dP c).toNat:Int)=(c.toNat:Int)+32:=by rw[dP,if_pos ⟨h1,h2⟩,UInt8.toNat_add];have:(32:UInt8).toNat=32:=rfl;omega
theorem xm{c:UInt8}(h:¬(65<=c.toNat/\c.toNat<=90)):dP c=c:=by rw[dP,if_neg h]
theorem jM(l:List UInt8):(u8s l).all Z3=true:=by simp only[u8s,List.all_map,alC];intro x _;have:=x.toNat_lt;simp[Z3]
theorem hP(l:List UInt8):(u8s l).map UZ=l:=by
 induction l with
 |nil=>rfl
 | cons x l ih =>
   simp only[u8s,alD,al0]at ih⊢;rw[ih];simp[UZ]
theorem UJ(l:List UInt8)(c:UInt8):u8s (l++[c])=u8s l++[.int .u8 c.toNat]:=by simp[u8s]
theorem VN{s:List UInt8}{k:Nat}(h:k<s.length):af (s.take (k+1))=af (s.take k)++[dP (s.getD k 0)]:=by rw[alN h,af,alW];simp[af,h]
theorem cm{s:List UInt8}(hs:(s.length:Int)<=140737488351232)(h:K (.str (af s)) L):alo 39 [.str s] L K:=by
 replace h:=hid h;refine aln UC ?_;refine bF (l:=[]) (n:=0) 3 1 rfl (alU 1).symm ?_;refine ah (λn T' L'=>∃(k:Nat) (v:List AV),n=s.length-k/\k<=s.length/\v=u8s (af (s.take k))/\T'=[(4,.int .i64 (k:Int)),(3,.gsl v k L.length 1),(2,.str []),(0,.str s)]/\L'=L++[.spare k 1]) aoN ⟨0,[],rfl,alw _,rfl,rfl,rfl⟩ ?_;rintro _ _ _ ⟨k,v,rfl,hk,rfl,rfl,rfl⟩;by_cases hlt:k<s.length
 .have h1:(k:Int)<(s.length:Int):=aoJ;have h2:=alm k aoJ;have hsucc:=hid (VN hlt);have e:s.getD k 0=s.getD k 0:=rfl;obtain⟨c,hc⟩:=alj (s.getD k 0);rw[hc]at hsucc;have hc255:=c.toNat_lt;by_cases hu:65<=c.toNat/\c.toNat<=90;have u1:(65:Int)<=(c.toNat:Int):=aoJ;have u2:(c.toNat:Int)<=90:=aoJ;have u3:=hid (YA hu.1 hu.2);have u4:IntKind.u8.wrap ((c.toNat:Int)-65)=(c.toNat:Int)-65:=cV aoJ aoJ;have u5:IntKind.u8.wrap ((c.toNat:Int)-65+97)=(c.toNat:Int)-65+97:=cV aoJ aoJ;clear hu;refine wk ?_;refine aoO aoJ aoN ⟨k+1,_,rfl,hlt,?_,rfl,rfl⟩;rw[hsucc.o,UJ,u3.o];simp only[show(c.toNat:Int)-65+97=c.toNat+32 by omega]
  .have u3:=hid (xm hu);have u4:¬((65:Int)<=(c.toNat:Int)/\(c.toNat:Int)<=90):=aoJ;have u5:(decide ((65:Int)<=(c.toNat:Int))&&decide ((c.toNat:Int)<=90))=false:=(by simp;omega);clear hu;refine wk ?_
   all_goals first
    |omega
    | (refine aoO aoJ (CutS (b := by simp)) ⟨k + 1, _, rfl, hlt, ?_, rfl, rfl⟩
       rw[hsucc.o,UJ,u3.o])
 have hke:k=s.length:=aoJ;subst hke;have h1:¬(s.length:Int)<(s.length:Int):=aoJ;have e1:=jM (af s);have e2:=hP (af s);have e3:s.take s.length=s:=alF;refine wk ?_;exact ab rfl h.o
theorem fv{s:List UInt8}(hs:(s.length:Int)<=140737488351232)(h:K (.str (af s)) L):alo 38 [.str s] L K:=by
 replace h:=hid h;refine aln UF ?_;refine ah (λn T' L'=>∃(k:Nat) (v:List AV),n=s.length-k/\k<=s.length/\v=u8s (af (s.take k)++s.drop k)/\T'=[(10,.int .i64 (k:Int)),(9,.int .i64 s.length),(8,.lsl L.length 0 s.length none 1),(3,.lsl L.length 0 s.length none 1),(2,.str [])]/\L'=L++[.bytes v]) aoN ⟨0,_,rfl,alw _,rfl,rfl,rfl⟩ ?_;rintro _ _ _ ⟨k,v,rfl,hk,hv,rfl,rfl⟩;by_cases hlt:k<s.length
 .have h1:(k:Int)<(s.length:Int):=aoJ;have h2:=alm k aoJ;obtain⟨c,hc⟩:=alj (s.getD k 0);have hd:s.drop k=c::s.drop (k+1):=by rw[ama hlt,<- hc,alR,alH hlt];rfl
  have hlk:(af (s.take k)).length=k:=(by simp[af];omega);have hv1:v=u8s (af (s.take k)) ++ .int .u8 c.toNat::u8s (s.drop (k+1)):=(by rw[hv,hd];simp[u8s]);have hl2:(u8s (af (s.take k))).length=k:=(by simp[u8s,hlk]);have hvl:v.length=s.length:=(by rw[hv];simp[u8s,af];omega);have hvk:k<v.length:=aoJ;have hvg:v.getD k .undef=.int .u8 c.toNat:=(by rw[hv1];simp[alR,alT,hl2]);have hsucc:=VN hlt;rw[hc]at hsucc;have hnew:u8s (af (s.take (k+1))++s.drop (k+1))=u8s (af (s.take k)) ++ .int .u8 (dP c).toNat::u8s (s.drop (k+1)):=(by rw[hsucc];simp[u8s]);have hspl:∀x,v.take k++x::v.drop (k+1)=u8s (af (s.take k))++x::u8s (s.drop (k+1)):=λx=>by rw[hv1,List.take_left' hl2,List.drop_append,hl2,am4 aoJ,show k+1-k=1 by omega];rfl
  clear hv hd hlk hsucc;replace hv1:=hid hv1;replace hnew:=hid hnew;replace hspl:=hid hspl;have hc255:=c.toNat_lt;by_cases hu:65<=c.toNat/\c.toNat<=90;have u1:(65:Int)<=(c.toNat:Int):=aoJ;have u2:(c.toNat:Int)<=90:=aoJ;have u3:=hid (YA hu.1 hu.2);have u4:IntKind.u8.wrap ((c.toNat:Int)+32)=(c.toNat:Int)+32:=cV aoJ aoJ;clear hu;refine wk ?_;refine aoO aoJ aoN ⟨k+1,_,rfl,hlt,?_,rfl,rfl⟩;rw[hnew.o,u3.o];exact hspl.o _
  .have u3:=hid (xm hu);have u5:(decide ((65:Int)<=(c.toNat:Int))&&decide ((c.toNat:Int)<=90))=false:=(by simp;omega);clear hu;refine wk ?_
   all_goals first
    |omega
    | (refine aoO aoJ (CutS (b := by simp)) ⟨k + 1, _, rfl, hlt, ?_, rfl, rfl⟩
       rw[hnew.o,u3.o];exact hv1.o)
 have hke:k=s.length:=aoJ;subst hke;have h1:¬(s.length:Int)<(s.length:Int):=aoJ;have hv1:v=u8s (af s):=by rw[hv];simp
 clear hv;subst hv1;have e1:=jM (af s);have e2:=hP (af s);have e4:(u8s (af s)).length=s.length:=by simp[u8s,af]
 have e5:(u8s (af s)).take s.length=u8s (af s):=by rw[<- e4];exact alF
 refine wk ?_;exact ab rfl h.o
theorem oK{s:List UInt8}(hs:(s.length:Int)<=100000)(h:K (.str (af s)) L):alo 39 [.str s] L K:=cm aoJ h
theorem Kh{s:List UInt8}(hs:(s.length:Int)<=100000)(h:K (.str (af s)) L):alo 38 [.str s] L K:=fv aoJ h
def mq(c:UInt8):Option Nat:=if 48<=c.toNat/\c.toNat<=57 then some (c.toNat-48)else if 97<=c.toNat/\c.toNat<=102 then some (c.toNat-87)else if 65<=c.toNat/\c.toNat<=70 then some (c.toNat-55)else none
theorem K6{c:UInt8}{x:Nat}(h:mq c=some x):x<16:=by unfold mq at h;split at h;cases h;omega;split at h;cases h;omega;split at h;cases h;omega;cases h
theorem abE{c:UInt8}{L:List Blk}{K:alp}(h:K (.tup [.int .u8 ((mq c).getD 0:Nat),.bool (mq c).isSome]) L):alo 234 [.int .u8 c.toNat] L K:=by
 have hc:=c.toNat_lt;obtain⟨n,hn⟩:=alj (c.toNat);unfold mq at h;rw[hn]at h hc⊢;clear hn;refine ac UD (by simp[yt]) ?_;simp only[yt,am];by_cases h1:48<=n/\n<=57;rw[if_pos h1]at h;replace h:=hid h;obtain⟨a1,a2⟩:=h1;have b1:(48:Int)<=(n:Int):=aoJ;have b2:(n:Int)<=57:=aoJ;have b3:IntKind.u8.wrap ((n:Int)-48)=(n:Int)-48:=cV aoJ aoJ;clear a1 a2;refine wk ?_;refine aa ?_;have:=h.o;simpa[show((n-48:Nat):Int)=(n:Int)-48 by omega]using this
 .rw[if_neg h1]at h;have c1:(decide ((48:Int)<=(n:Int))&&decide ((n:Int)<=57))=false:=(by simp;omega);by_cases h2:97<=n/\n<=102;rw[if_pos h2]at h;replace h:=hid h;obtain⟨a1,a2⟩:=h2;have b1:(97:Int)<=(n:Int):=aoJ;have b2:(n:Int)<=102:=aoJ;have b4:IntKind.u8.wrap ((n:Int)-97)=(n:Int)-97:=cV aoJ aoJ;have b5:IntKind.u8.wrap ((n:Int)-97+10)=(n:Int)-97+10:=cV aoJ aoJ;clear a1 a2 h1;refine wk ?_;refine aa ?_;have:=h.o;simpa[show((n-87:Nat):Int)=(n:Int)-97+10 by omega]using this
  .rw[if_neg h2]at h;have c2:(decide ((97:Int)<=(n:Int))&&decide ((n:Int)<=102))=false:=(by simp;omega);by_cases h3:65<=n/\n<=70;rw[if_pos h3]at h;replace h:=hid h;obtain⟨a1,a2⟩:=h3;have b1:(65:Int)<=(n:Int):=aoJ;have b2:(n:Int)<=70:=aoJ;have b4:IntKind.u8.wrap ((n:Int)-65)=(n:Int)-65:=cV aoJ aoJ;have b5:IntKind.u8.wrap ((n:Int)-65+10)=(n:Int)-65+10:=cV aoJ aoJ;clear a1 a2 h1 h2;refine wk ?_;refine aa ?_;have:=h.o;simpa[show((n-55:Nat):Int)=(n:Int)-65+10 by omega]using this
   .rw[if_neg h3]at h;have c3:(decide ((65:Int)<=(n:Int))&&decide ((n:Int)<=70))=false:=(by simp;omega);replace h:=hid h;clear h1 h2 h3
    repeat' first
     |refine bd ?_
     | (first|refine aV aoL ?_|refine aB aoL ?_|refine aE ?_|refine bJ ?_|refine bg (fun _=>?_)|refine ax ?_|refine aY ?_)
       refine sm ?_
     | (first|refine aO aoL ?_|refine aP ?_|refine aD ?_|refine aW ?_|refine bq (aw ?_))
       refine sl ?_
     |exact bh
     |first|apply bj|apply aR|apply bm|apply aS|apply bo|apply aT
     |refine aH ?_
     |refine aC ?_
     |first|refine aF rfl ?_|refine aG rfl ?_|refine ao rfl ?_ ?_|refine aJ rfl (λ_=>?_) (λ_=>?_)|refine aI rfl (λ_=>?_) (λ_=>?_)
     |((first|refine an (λ_=>?_) (λ_=>?_)|refine au (λ_=>?_) (λ_=>?_))<;>try refine sm ?_)
     |refine And.intro trivial ?_
     |refine And.intro aoJ ?_
     |refine aL rfl (λ_=>?_) (λ_=>?_)
     |refine And.intro ?_ ?_
    all_goals first
     |omega
     |(refine aa ?_;simpa using h.o)
def RZ(a b:UInt8):Option UInt8:=match mq a,mq b with
 |some x,some y=>some (UInt8.ofNat (16*x+y))
 |_,_=>none
def Pr(a b:UInt8):AV:=match RZ a b with
 |some c=>.tup [.str [c],.bool true]
 |none=>.tup [.str [],.bool false]
theorem ajF:∀x y:_root_.Fin 16,IntKind.u8.wrap (((BitVec.ofInt IntKind.u8.bits (IntKind.u8.wrap ((x.val:Int)*2^min 4 IntKind.u8.bits)) |||BitVec.ofInt IntKind.u8.bits (y.val:Int)).toNat:Nat):Int)=16*(x.val:Int)+(y.val:Int):=by decide +kernel
theorem ae1{a b:UInt8}(h:K (Pr a b) L):alo 211 [.str [a,b]] L K:=by
 have hl:[a,b].length=2:=rfl;have ha:[a,b].getD 0 0=a:=rfl;have hb:[a,b].getD 1 0=b:=rfl;have d1:IntKind.i64.wrap (Int.tdiv 2 2)=1:=by decide
 have d2:Int.tmod 2 2=0:=by decide
 have d3:eA [AV.int IntKind.u8 0] 1=[AV.int IntKind.u8 0]:=rfl;have d4:IntKind.i64.wrap 1=1:=by decide
 have d5:IntKind.i64.wrap 2=2:=by decide
 replace h:=hid h;refine aln Tg ?_;refine ah (λn T' L'=>(n=1/\T'=[(5,.int .i64 0),(4,.lsl L.length 0 0 (some 1) 1),(0,.str [a,b])]/\L'=L++[.cells [.int .u8 0]])\/(n=0/\∃x y:Nat,Hid (mq a=some x)/\Hid (mq b=some y)/\T'=[(5,.int .i64 2),(4,.lsl (L.length+1) 0 1 none 1),(0,.str [a,b])]/\L'=L++[.dead,.cells [.int .u8 ((16*x+y:Nat):Int)]])) (n0:=1) (T0:=[(5,.int .i64 0),(4,.lsl L.length 0 0 (some 1) 1),(0,.str [a,b])]) (L0:=L++[.cells [.int .u8 0]]) aoN (.inl ⟨rfl,rfl,rfl⟩) ?_;rintro _ _ _ (⟨rfl,rfl,rfl⟩|⟨rfl,x,y,hx,hy,rfl,rfl⟩);rcases hx:mq a with _|x;have h':=h.o;simp only[Pr,RZ,hx]at h';replace h':=hid h';have e1:(mq a).getD 0=0:=by rw[hx];rfl
 have e2:(mq a).isSome=false:=by rw[hx];rfl
 clear hx;have kk1:=@hid _ @abE;refine wk ?_;exact ab rfl h'.o;have e1:(mq a).getD 0=x:=by rw[hx];rfl
 have e2:(mq a).isSome=true:=by rw[hx];rfl
 have hx':=hid hx;rcases hy:mq b with _|y;have h':=h.o;simp only[Pr,RZ,hx,hy]at h';replace h':=hid h';have e3:(mq b).getD 0=0:=by rw[hy];rfl
 have e4:(mq b).isSome=false:=by rw[hy];rfl
 clear hx hy;have kk1:=@hid _ @abE;refine wk ?_;exact ab rfl h'.o;have e3:(mq b).getD 0=y:=by rw[hy];rfl
 have e4:(mq b).isSome=true:=by rw[hy];rfl
 have hy':=hid hy;have e5:=ajF ⟨x,K6 hx⟩ ⟨y,K6 hy⟩;simp only at e5;clear hx hy;have kk1:=@hid _ @abE;refine wk ?_;refine ag 0 _ _ aoJ aoM (.inr ⟨rfl,x,y,hid rfl,hid rfl,rfl,?_⟩)
 first|rfl|rw[e5]
 have h':=h.o;simp only[Pr,RZ,hx.o,hy.o]at h';replace h':=hid h';have lx:=K6 hx.o;have ly:=K6 hy.o;have u1:Z3 (.int .u8 (16*(x:Int)+(y:Int)))=true:=rfl;have u2:UZ (.int .u8 (16*(x:Int)+(y:Int)))=UInt8.ofNat (16*x+y):=by simp only[UZ];rw[show(16*(x:Int)+(y:Int)).toNat=16*x+y by omega]
 refine wk ?_;exact ab rfl h'.o
def xy(b:List UInt8):Bool:=b.isEmpty ||b.getLast? == some 32
def aM(b:List UInt8)(c:UInt8):List UInt8:=if c=32/\xy b=true then b else b++[c]
def bL(s:List UInt8):List UInt8:=s.foldl aM []
def dC(b:List UInt8):List UInt8:=if b.getLast?=some 32 then b.dropLast else b
def bH(s:List UInt8):List UInt8:=dC (bL (af s))
theorem RH(b:List UInt8)(c:UInt8):(aM b c).length<=b.length+1:=by unfold aM;split<;>simp
theorem xS{s:List UInt8}{k:Nat}(h:k<s.length):bL (s.take (k+1))=aM (bL (s.take k)) (s.getD k 0):=by rw[alN h,bL,anu];simp[bL,h]
theorem ru(s:List UInt8):∀k,(bL (s.take k)).length<=k
 |0=>by simp[bL]
 | k+1=>by
   have ih:=ru s k;by_cases h:k<s.length
   .rw[xS h];have:=RH (bL (s.take k)) (s.getD k 0);omega
   .rw[ams aoJ,<- ams (l:=s) (i:=k) aoJ];omega
theorem xR{s:List UInt8}(hs:(s.length:Int)<=100000)(h:K (.str (bH s)) L):alo 95 [.str s] L K:=by
 replace h:=hid h;refine ac UE (by simp[yu]) ?_;simp only[yu,am];obtain⟨t,ht⟩:=alj (af s);have htl:(t.length:Int)<=100000:=by rw[<- ht];simpa[af]using hs
 have kk1:=@aoQ _ _ _ _ (Kh hs);refine wk ?_;refine bF (l:=[]) (n:=0) 3 1 rfl (alU 1).symm ?_;refine ah (λn T' L'=>∃(k:Nat) (b:List UInt8) (v:List AV) (m:Nat),n=t.length-k/\k<=t.length/\b=bL (t.take k)/\v=u8s b/\m=b.length/\T'=[(10,.int .i64 (k:Int)),(9,.int .i64 t.length),(8,.sl (u8s t) t.length none),(3,.gsl v m L.length 1),(2,.str [])]/\L'=L++[.spare m 1]) aoN ⟨0,[],[],0,rfl,alw _,rfl,rfl,rfl,rfl,rfl⟩ ?_;rintro _ _ _ ⟨k,b,v,m,rfl,hk,hb,rfl,rfl,rfl,rfl⟩;replace hb:=hid hb;by_cases hlt:k<t.length;have h1:(k:Int)<(t.length:Int):=aoJ;have h2:=alm k aoJ;have hsucc:=hid (xS hlt);obtain⟨c,hc⟩:=alj (t.getD k 0);have hg:(u8s t).getD k .undef=.int .u8 c.toNat:=by simp[u8s,hlt,<- hc]
 have hlk:k<(u8s t).length:=by simpa[u8s]using hlt
 rw[hc]at hsucc;have hbl:b.length<=k:=by rw[hb.o];exact ru t k
 have hstep:∀b',b'=aM b c->b'=bL (t.take (k+1)):=λb' e=>by rw[hsucc.o,<- hb.o];exact e
 have c32:((c.toNat:Int)=32)↔c=32:=⟨λe=>anc.1 (by have:(32:UInt8).toNat=32:=rfl;omega),λe=>by rw[e];rfl⟩;replace hstep:=hid hstep;replace c32:=hid c32;clear hsucc hb hc;have hub:(u8s b).length=b.length:=by simp[u8s]
 have rest:∀b',b'=aM b c->b'.length<=b.length+1:=λb' e=>by rw[e];exact RH b c
 clear rest;by_cases hc:(c.toNat:Int)=32;rcases anj b with hb0|⟨d,x,hb0⟩;have e0:(b.length:Int)=0:=by rw[hb0];rfl
 have e1:=hid (hstep.o b (by rw[aM,if_pos ⟨c32.o.1 hc,by rw[hb0];rfl⟩]));clear hb0;refine wk ?_;exact aoO aoJ aoN ⟨k+1,b,_,_,rfl,hlt,e1.o,rfl,rfl,rfl,rfl⟩;have e0:¬(b.length:Int)=0:=by rw[hb0];simp;omega
 have e1:IntKind.i64.wrap ((b.length:Int)-1)=(d.length:Int):=by rw[ad aoJ aoJ,hb0];simp
 have e2:(u8s b).getD d.length .undef=.int .u8 x.toNat:=by rw[hb0];simp[u8s,alR]
 have e3:d.length<(u8s b).length:=by rw[hb0];simp[u8s]
 have e4:(d.length:Int)<(b.length:Int):=by rw[hb0];simp;omega
 have x32:x=32↔(x.toNat:Int)=32:=⟨λe=>by rw[e];rfl,λe=>anc.1 (by have:(32:UInt8).toNat=32:=rfl;omega)⟩;have hend:xy b=true↔x=32:=by rw[hb0];simp[xy]
 replace hb0:=hid hb0;replace x32:=hid x32;replace hend:=hid hend;by_cases hx:(x.toNat:Int)=32;have e5:=hid (hstep.o b (by rw[aM,if_pos ⟨c32.o.1 hc,hend.o.2 (x32.o.2 hx)⟩]));refine wk ?_;exact aoO aoJ aoN ⟨k+1,b,_,_,rfl,hlt,e5.o,rfl,rfl,rfl,rfl⟩;have e5:=hid (hstep.o (b++[c]) (by rw[aM,if_neg λe=>hx (x32.o.1 (hend.o.1 e.2))]));refine wk ?_;exact aoO aoJ aoN ⟨k+1,b++[c],_,_,rfl,hlt,e5.o,(by rw[UJ,hc]),aoK,rfl,rfl⟩;have e1:=hid (hstep.o (b++[c]) (by rw[aM,if_neg λe=>hc (c32.o.2 e.1)]));refine wk ?_;exact aoO aoJ aoN ⟨k+1,b++[c],_,_,rfl,hlt,e1.o,(UJ b c).symm,aoK,rfl,rfl⟩
 .have hke:k=t.length:=aoJ;subst hke;have h1:¬(t.length:Int)<(t.length:Int):=aoJ;have hbl:b.length<=t.length:=(by rw[hb.o];exact ru t _);have hub:(u8s b).length=b.length:=(by simp[u8s]);have hfin:dC b=bH s:=(by rw[bH,ht,hb.o,alF]);have e1:=jM b;have e2:=hP b;replace hb:=hid hfin;clear hfin;rcases anj b with hb0|⟨d,x,hb0⟩;have e0:¬(0:Int)<(b.length:Int):=(by rw[hb0];simp);have e3:=hid (show b=bH s by rw[<- hb.o,hb0];rfl);clear hb0;refine wk ?_;refine ab rfl ?_;rw[e3.o];exact h.o
  .have e0:(0:Int)<(b.length:Int):=(by rw[hb0];simp;try omega);have e3:IntKind.i64.wrap ((b.length:Int)-1)=(d.length:Int):=(by rw[ad aoJ aoJ,hb0];simp);have e4:(u8s b).getD d.length .undef=.int .u8 x.toNat:=(by rw[hb0];simp[u8s,alR]);have e5:d.length<(u8s b).length:=(by rw[hb0];simp[u8s]);have e6:(d.length:Int)<(b.length:Int):=(by rw[hb0];simp;omega);have e7:(u8s b).take d.length=u8s d:=(by rw[hb0];simp[u8s]);have e10:(u8s d).length=d.length:=(by simp[u8s]);have e8:=jM d;have e9:=hP d;have x32:x=32↔(x.toNat:Int)=32:=⟨λe=>by rw[e];rfl,λe=>anc.1 (by have:(32:UInt8).toNat=32:=rfl;omega)⟩;have htr:dC b=if x=32 then d else b:=by rw[hb0];simp[dC]
   replace hb0:=hid hb0;replace htr:=hid htr;by_cases hx:(x.toNat:Int)=32;have r:=hid (show d=bH s by rw[<- hb.o,htr.o,if_pos (x32.2 hx)]);replace x32:=hid x32;refine wk ?_;refine ab rfl ?_;rw[r.o];exact h.o;have r:=hid (show b=bH s by rw[<- hb.o,htr.o,if_neg λe=>hx (x32.1 e)]);replace x32:=hid x32;refine wk ?_;refine ab rfl ?_;rw[r.o];exact h.o
end Go.Proofs.YtcmfcpjnhephaaaGreatDoor.Av
set_option maxRecDepth 100000
namespace Go.Proofs.YtcmfcpjnhephaaaGreatDoor.Av
open Go
variable {s typ b:List UInt8}{ip:Nat}{cap:Option Nat}{bl:Bool}{d:UInt8}
def TQ:LSO:=[Ae 2]
def TP:LSO:=[Aa 5 0,B8 6 5,Aa 7 6,.grp none 7 false
 [Ah 8 7 0,Bv 9 7 8,A9 10 7 9 32]
 11 (tm 10),Aa 12 11,.grp none 12 false
 [Ah 13 12 0,Cf 14 12 13 0,og 15 12 false (.conv .i32 (tm 14)),AP 16 12 191 15,Bc 17 12 16]
 18 (tm 17)]
def TO:LSO:=[Ae 2]
def TM:LSO:=[Aa 19 0,o1 20 (.rangeS (tm 19))]
def TK:LSO:=[o1 21 (.nextS (tm 20)),Aq 22 21]
def TJ:LSO:=[Bl 23 21,Aa 4 23]
def TI:LSO:=[Aa 24 4,Ai 25 191 24,Ay 26 25,Aa 27 26,.grp none 27 true
 [Af 28 27 4,og 29 27 true (.bin .lss (tm 28) (.av (.int .i32 48))),Af 30 27 29,.grp (some (27,true)) 30 false
 [Ah 31 30 4,og 32 30 false (.bin .gtr (tm 31) (.av (.int .i32 57)))]
 33 (tm 32)]
 34 (tm 33),Aa 35 34,.grp none 35 true
 [Af 36 35 4,og 37 35 true (.bin .neq (tm 36) (.av (.int .i32 45)))]
 38 (tm 37)]
def TH:LSO:=[Ae 2]
def TG:LSO:=[Az 2]
def Tn:aQ:=⟨39,(aoC TQ [] (.seq (aoC TP C0 (aoE 18 (.sreg TO []))) (.seq (aoC TM Cw (aoF 0 (aoC TK [] (.seq (aoG 22 0) (.block 1 (aoC TJ Cw (aoC TI C2 (aoE 38 (.sreg TH []))))))))) (aoC TG [] .ret)))),[(.tmp 2)]⟩
attribute [push_cast] TQ TP TO TM TK TJ TI TH TG
theorem YZ:aoH 157=aoI Tn:=aoL
def Oz:LSO:=[Ae 2]
def Oy:LSO:=[Aa 3 0,o1 4 (.bin .geq (tm 3) (.av (.int .i32 97))),Aa 5 4,.grp none 5 true
 [Af 6 5 0,og 7 5 true (.bin .leq (tm 6) (.av (.int .i32 122)))]
 8 (tm 7),Aa 9 8,.grp none 9 false
 [Ah 10 9 0,og 11 9 false (.bin .geq (tm 10) (.av (.int .i32 65))),Ah 12 9 11,.grp (some (9,false)) 12 true
 [Af 13 12 0,og 14 12 true (.bin .leq (tm 13) (.av (.int .i32 90)))]
 15 (tm 14)]
 16 (tm 15),Aa 2 16]
def KG:aQ:=⟨17,(aoC Oz [] (aoC Oy C2 .ret)),[(.tmp 2)]⟩
attribute [push_cast] Oz Oy
theorem Wm:aoH 191=aoI KG:=aoL
def Va:LSO:=[A4 3 1,Ae 4]
def U9:LSO:=[Aa 5 0,o1 6 (.mkfn 209 [(tm 3)]),Ar 7 208 5 6,Aa 4 7]
def Wn:aQ:=⟨8,(aoC Va [] (aoC U9 Cy .ret)),[(.tmp 4)]⟩
attribute [push_cast] Va U9
theorem aaD:aoH 175=aoI Wn:=aoL
def Rb:LSO:=[A4 2 0,Ae 3]
def Ra:LSO:=[Ad 4 0 2,Ac 5 1 4,Ai 6 38 5,Ac 7 1 1,Ai 8 38 7,AH 9 6 8,Aa 3 9]
def PK:aQ:=⟨10,(aoC Rb [] (.seq (.sdreg Ra [.pure,(.read 0 0),(.read 0 0),(.read 0 0)] C2) .ret)),[(.tmp 3)]⟩
attribute [push_cast] Rb Ra
theorem WY:aoH 209=aoI PK:=aoL
def Q1:LSO:=[As 2,As 3,Ae 4]
def Q0:LSO:=[Al 5]
def QZ:LSO:=[Ae 6]
def QY:LSO:=[Ab 7 0]
def QX:LSO:=[Aa 11 7,Aa 12 0,Aw 13 12,Ak 14 11 13,Aa 15 14,.grp none 15 true
 [Af 16 15 0,Af 17 15 7,AX 18 15 16 17,og 19 15 true (.bin .neq (tm 18) (.av (.int .u8 44)))]
 20 (tm 19),Aa 21 20,.grp none 21 true
 [Af 22 21 0,Af 23 21 7,AX 24 21 22 23,og 25 21 true (.bin .neq (tm 24) (.av (.int .u8 43)))]
 26 (tm 25)]
def QW:LSO:=[Aa 27 0,Aa 28 7,AB 29 27 28,Aa 8 29]
def QV:LSO:=[Aa 30 8,o1 31 (.bin .eql (tm 30) (.av (.int .u8 32))),Aa 6 31]
def QU:LSO:=[Aa 33 8,o1 34 (.bin .neq (tm 33) (.av (.int .u8 92))),Aa 32 34]
def QT:LSO:=[Aa 35 8,B9 36 35,Aa 37 36,.grp none 37 false
 [Ah 38 37 8,og 39 37 false (.call 210 [(.av (.str [34,59,60,62])),(tm 38)]),BO 40 37 39 0]
 41 (tm 40),Aa 42 41,.grp none 42 false
 [Ah 43 42 5,Bh 44 42 43,AE 45 42 44 0,Ah 46 42 45,.grp (some (42,false)) 46 true
 [Af 47 46 8,Bw 48 46 47,Af 49 46 48,.grp (some (46,true)) 49 false
 [Ah 50 49 8,og 51 49 false (.bin .eql (tm 50) (.av (.int .u8 35)))]
 52 (tm 51)]
 53 (tm 52)]
 54 (tm 53)]
def QS:LSO:=[As 2,As 3,Ae 4]
def Ov:LSO:=[Aa 56 7,Ag 57 56 1,Aa 58 0,Aw 59 58,Ak 60 57 59,Aa 61 60,.grp none 61 true
 [Af 62 61 0,Af 63 61 7,Ck 64 61 63 1,AX 65 61 62 64,og 66 61 true (.call 210 [(.av (.str [34,43,44,59,60,62,92,32,35,61])),(tm 65)]),og 67 61 true (.bin .geq (tm 66) (iv 0))]
 68 (tm 67),Aa 55 68]
def Ou:LSO:=[Aa 69 7,Ag 70 69 1,Aa 7 70]
def Ot:LSO:=[Aa 71 0,Aa 72 7,AB 73 71 72,Aa 8 73]
def Oq:LSO:=[Aa 75 7,Ag 76 75 2,Aa 77 0,Aw 78 77,Ak 79 76 78,Aa 74 79]
def Oo:LSO:=[Aa 81 0,Aa 82 7,Ag 83 82 1,Aa 84 7,Ag 85 84 3,BA 86 81 83 85,Ai 87 211 86,Aa 80 87,Aq 88 80,Au 89 80,Aa 9 88,Aa 10 89]
def On:LSO:=[Aa 90 10,Ay 91 90]
def Om:LSO:=[As 2,As 3,Ae 4]
def Ol:LSO:=[Aa 92 9,B6 93 92 0,Aa 8 93]
def Ok:LSO:=[Aa 94 7,Ag 95 94 2,Aa 7 95]
def Oj:LSO:=[As 2,As 3,Ae 4]
def Oi:LSO:=[Aa 96 5,Aa 97 8,AM 98 97,AI 99 96 98,Aa 5 99]
def Oh:LSO:=[Aa 100 7,Ag 101 100 1,Aa 7 101]
def Og:LSO:=[Aa 102 5,AT 103 102,Aa 104 0,Aa 105 7,BP 106 104 105,Aa 107 6,Ay 108 107,Aa 2 103,Aa 3 106,Aa 4 108]
def PJ:aQ:=⟨109,(aoC Q1 [] (aoC Q0 [] (aoC QZ [] (aoC QY [] (.seq (aoF 0 (.seq (aoC QX C4 (aoG 26 0)) (.block 1 (aoC QW Cy (aoC QV Cx (.seq (.block 2 (aoC QU Cx (aoD 32 (aoC QT C0 (aoE 54 (.sreg QS []))) (aoC Ov C4 (aoD 55 (aoC Ou Cx (.sreg Ot Cy)) (aoC Oq C0 (aoD 74 (aoC Oo Da (.seq (aoC On Cw (aoE 91 (.sreg Om []))) (aoC Ol Cx (.sreg Ok Cx)))) (aoC Oj [] .ret)))))))) (aoC Oi Cz (.sreg Oh Cx)))))))) (.seq (.sdreg Og [.pure,(.read 0 0),.pure,.pure,(.read 0 0),.pure,.pure,.pure,.pure] [true,true,true,false,false,false,false,false,false,false]) .ret)))))),[(.tmp 2),(.tmp 3),(.tmp 4)]⟩
attribute [push_cast] Q1 Q0 QZ QY QX QW QV QU QT QS Ov Ou Ot Oq Oo On Om Ol Ok Oj Oi Oh Og
theorem WX:aoH 176=aoI PJ:=aoL
def RG:LSO:=[Al 2,Ab 3 0]
def RF:LSO:=[Aa 10 0,Aw 11 10,A3 12 11 4096]
def RE:LSO:=[Al 2,Ab 3 5]
def RD:LSO:=[Aa 13 0,B8 14 13]
def RC:LSO:=[Al 2,Ab 3 0]
def RB:LSO:=[Al 4]
def RA:LSO:=[Al 5]
def Rz:LSO:=[Aa 15 4,Am 16 15,An 17 16 32,Aa 18 17,.grp none 18 false
 [Ah 19 18 5,Bh 20 18 19,AE 21 18 20 8]
 22 (tm 21)]
def Ry:LSO:=[Al 2,Ab 3 9]
def Rx:LSO:=[Aa 24 0,o1 25 (.call 174 [(tm 24),(.av (.str [61]))]),Aa 23 25,Aq 26 23,Au 27 23,Bl 28 23,Aa 6 26,Aa 7 27,Aa 8 28]
def O7:LSO:=[Aa 29 8,Ay 30 29,Aa 31 30,.grp none 31 false
 [Ah 32 31 6,AP 33 31 157 32,Bc 34 31 33]
 35 (tm 34)]
def O6:LSO:=[Al 2,Ab 3 4]
def O5:LSO:=[Aa 36 5,Aa 37 6,Ar 38 175 36 37]
def O4:LSO:=[Al 2,Ab 3 21]
def O3:LSO:=[Aa 40 7,Ai 41 176 40,Aa 39 41,Aq 42 39,Au 43 39,Bl 44 39,Aa 9 42,Aa 7 43,Aa 8 44]
def O2:LSO:=[Aa 45 8,Ay 46 45]
def O1:LSO:=[Al 2,Ab 3 4]
def O0:LSO:=[Aa 47 5,Aa 48 6,Aa 49 9,o1 50 (.build [(.str []),(.str [])] [(0,(1,(tm 48))),(1,(1,(tm 49)))]),Cl 51 50,BC 52 47 51,Aa 5 52]
def OZ:LSO:=[Aa 53 7,B8 54 53]
def OY:LSO:=[Aa 55 4,Aa 56 5,BD 57 56,BE 58 55 57,Aa 2 58,Ab 3 0]
def OX:LSO:=[Aa 59 7,B6 60 59 0,o1 61 (.bin .eql (tm 60) (.av (.int .u8 44)))]
def OW:LSO:=[Aa 62 4,Aa 63 5,BD 64 63,BE 65 62 64,Aa 4 65,Al 5]
def OV:LSO:=[Aa 66 7,o1 67 (.slS (tm 66) (some (iv 1)) none),Aa 0 67]
def PN:aQ:=⟨68,(aoC RG [] (.seq (aoC RF Cx (aoE 12 (.sreg RE []))) (.seq (aoC RD Cw (aoE 14 (.sreg RC []))) (aoC RB [] (aoC RA [] (aoF 0 (.block 1 (.seq (aoC Rz Cz (aoE 22 (.sreg Ry []))) (aoC Rx CW (.seq (aoC O7 Cy (aoE 35 (.sreg O6 []))) (.seq (aoC O5 Cx (aoE 38 (.sreg O4 []))) (aoC O3 CW (.seq (aoC O2 Cw (aoE 46 (.sreg O1 []))) (aoC O0 C2 (.seq (aoC OZ Cw (aoE 54 (.sreg OY CT))) (.seq (aoC OX Cx (aoD 61 (.sreg OW CT) .skip)) (.sreg OV Cx))))))))))))))))),[(.tmp 2),(.tmp 3)]⟩
attribute [push_cast] RG RF RE RD RC RB RA Rz Ry Rx O7 O6 O5 O4 O3 O2 O1 O0 OZ OY OX OW OV
theorem W1:aoH 139=aoI PN:=aoL
def J3:LSO:=[As 2]
def J2:LSO:=[Al 3]
def J1:LSO:=[Aa 7 0,o1 8 (.s2b (tm 7)),Am 9 8,Ab 10 0]
def J0:LSO:=[Ak 11 10 9]
def JZ:LSO:=[Aa 12 10,Ao 13 1 8 10,Ac 14 1 13,Aa 4 12,Aa 5 14]
def JY:LSO:=[Aa 15 4,An 16 15 0,Aa 17 16,.grp none 17 true
 [Af 18 17 5,Bw 19 17 18,Af 20 17 19,.grp (some (17,true)) 20 false
 [Ah 21 20 5,og 22 20 false (.bin .eql (tm 21) (.av (.int .u8 35)))]
 23 (tm 22)]
 24 (tm 23),Aa 25 24,.grp none 25 false
 [Ah 26 25 4,Ah 27 25 0,Bv 28 25 27,Cm 29 25 28 1,og 30 25 false (.bin .eql (tm 26) (tm 29)),Ah 31 25 30,.grp (some (25,false)) 31 true
 [Af 32 31 5,Bw 33 31 32]
 34 (tm 33)]
 35 (tm 34),Aa 6 35]
def JW:LSO:=[Aa 37 5,B9 38 37,Aa 36 38]
def JV:LSO:=[Aa 39 3,o1 40 (.app 1 1 1 [(.int .u8 0)] (tm 39) (.av (.str [92,48,48]))),Aa 3 40]
def JU:LSO:=[Aa 42 6,Aa 43 42,.grp none 43 false
 [Ah 44 43 5,og 45 43 false (.call 210 [(.av (.str [34,43,44,59,60,62,92])),(tm 44)]),BO 46 43 45 0]
 47 (tm 46),Aa 41 47]
def JT:LSO:=[Aa 48 3,o1 49 (.bslice false 1 1 [(.int .u8 0)] [(0,(1,(.av (.int .u8 92))))]),AI 50 48 49,Aa 3 50]
def FY:LSO:=[Aa 51 3,Aa 52 5,AM 53 52,AI 54 51 53,Aa 3 54]
def FX:LSO:=[Ag 55 10 1,Aa 10 55]
def FW:LSO:=[Aa 56 3,AT 57 56,Aa 2 57]
def yz:aQ:=⟨58,(aoC J3 [] (aoC J2 [] (.seq (aoC J1 CF (aoF 0 (aoC J0 [] (.seq (aoG 11 0) (.seq (.block 1 (aoC JZ C6 (aoC JY C2 (.seq (.block 2 (aoC JW Cx (aoD 36 (aoC JV Cx (.exit 1)) (aoC JU Cy (aoD 41 (.sreg JT Cy) .skip))))) (.sreg FY Cz))))) (.sreg FX Cw)))))) (aoC FW Cx .ret)))),[(.tmp 2)]⟩
attribute [push_cast] J3 J2 J1 J0 JZ JY JW JV JU JT FY FX FW
theorem UI:aoH 213=aoI yz:=aoL
def Rm:LSO:=[Ab 2 0]
def Rl:LSO:=[Aa 7 0,Am 8 7,Ab 9 0]
def Rk:LSO:=[Ak 10 9 8]
def Rj:LSO:=[Aa 11 9,Ao 12 1 7 9,Ac 13 1 12,Aa 3 11,Aa 4 13]
def Ri:LSO:=[Aa 15 3,An 16 15 32,Aa 14 16]
def Rh:LSO:=[Ab 2 9]
def Rg:LSO:=[Aa 18 4,Am 19 18,An 20 19 0,Aa 17 20]
def Rf:LSO:=[Ab 2 2]
def Re:LSO:=[Aa 21 4,Am 22 21,Ab 23 0]
def Rc:LSO:=[Ak 24 23 22]
def OK:LSO:=[Aa 25 23,Ao 26 2 21 23,Ap 27 2 26,Bi 6,Aa 5 25,Aj 2 6 27]
def OJ:LSO:=[Aa 29 5,An 30 29 8,Aa 28 30]
def OI:LSO:=[Ab 2 9]
def OH:LSO:=[Ad 32 0 6,Ac 33 1 32,Ai 34 157 33,Ay 35 34,Aa 31 35]
def OG:LSO:=[Ab 2 20]
def OE:LSO:=[Aa 37 4,Aa 38 5,Co 39 37 38,Ad 40 0 6,Ac 41 1 40,Ar 42 175 39 41,Aa 36 42]
def OD:LSO:=[Ab 2 21]
def OC:LSO:=[Ag 43 23 1,Aa 23 43]
def OB:LSO:=[Ag 44 9 1,Aa 9 44]
def OA:LSO:=[Ab 2 0]
def PL:aQ:=⟨45,(aoC Rm [] (.seq (aoC Rl [] (aoF 0 (aoC Rk [] (.seq (aoG 10 0) (.seq (.block 1 (aoC Rj C6 (.seq (.block 2 (aoC Ri Cx (aoD 14 (aoC Rh [] .ret) (aoC Rg Cy (aoE 17 (.sreg Rf [])))))) (aoC Re [] (aoF 3 (aoC Rc [] (.seq (aoG 24 3) (.seq (.block 4 (aoC OK C6 (.block 5 (aoC OJ Cx (aoD 28 (aoC OI [] .ret) (aoC OH Cz (aoD 31 (aoC OG [] .ret) (.seq (.sdreg OE [.pure,.pure,(.read 0 0),.pure,(.read 0 0)] C2) (aoE 36 (.sreg OD [])))))))))) (.sreg OC Cw))))))))) (.sreg OB Cw)))))) (aoC OA [] .ret))),[(.tmp 2)]⟩
attribute [push_cast] Rm Rl Rk Rj Ri Rh Rg Rf Re Rc OK OJ OI OH OG OE OD OC OB OA
theorem WZ:aoH 212=aoI PL:=aoL
def Rw:LSO:=[As 2,Ab 3 0]
def Rv:LSO:=[Aa 11 0,Ai 12 212 11,Aa 4 12]
def Ru:LSO:=[Aa 13 4,AC 14 13 0]
def Rt:LSO:=[Aa 15 4,As 2,Aa 3 15]
def Rs:LSO:=[Ab 5 0]
def Rr:LSO:=[Aa 16 0,Am 17 16,Ab 18 0]
def Rq:LSO:=[Ak 19 18 17]
def Rp:LSO:=[Ao 20 1 16 18,Ac 21 1 20,Aa 7 21]
def Ro:LSO:=[Aa 22 7,Am 23 22,Ab 24 0]
def Rn:LSO:=[Ak 25 24 23]
def OU:LSO:=[Ao 26 2 22 24,Ap 27 2 26,Bi 9,Aj 2 9 27]
def OT:LSO:=[Ad 28 1 9,Ac 29 1 28,Aw 30 29,A3 31 30 4096]
def OS:LSO:=[As 2,Ab 3 5]
def OR:LSO:=[Aa 32 5,Ag 33 32 1,Aa 5 33]
def OQ:LSO:=[Ag 34 24 1,Aa 24 34]
def OP:LSO:=[Ag 35 18 1,Aa 18 35]
def OO:LSO:=[Aa 36 0,o1 37 (.call 178 [(tm 36),(.av (.bool false))]),Aa 10 37]
def ON:LSO:=[Aa 38 10,Aw 39 38,A3 40 39 4096]
def OM:LSO:=[As 2,Ab 3 5]
def OL:LSO:=[Aa 41 10,Aa 2 41,Ab 3 0]
def PM:aQ:=⟨42,(aoC Rw [] (.seq (aoC Rv Cx (aoC Ru Cw (aoE 14 (.sreg Rt C3)))) (aoC Rs [] (.seq (aoC Rr [] (aoF 0 (aoC Rq [] (.seq (aoG 19 0) (.seq (.block 1 (aoC Rp Cx (aoC Ro [] (aoF 2 (aoC Rn [] (.seq (aoG 25 2) (.seq (.block 3 (aoC OU Cx (.seq (aoC OT Cy (aoE 31 (.sreg OS []))) (.sreg OR Cx)))) (.sreg OQ Cw)))))))) (.sreg OP Cw)))))) (aoC OO Cx (.seq (aoC ON Cx (aoE 40 (.sreg OM []))) (aoC OL C3 .ret))))))),[(.tmp 2),(.tmp 3)]⟩
attribute [push_cast] Rw Rv Ru Rt Rs Rr Rq Rp Ro Rn OU OT OS OR OQ OP OO ON OM OL
theorem W0:aoH 177=aoI PM:=aoL
def TX:LSO:=[As 2,Ab 3 0]
def TW:LSO:=[Aa 7 0,Ai 8 177 7,Aa 6 8,Aq 9 6,Au 10 6,Aa 4 9,Aa 5 10]
def TV:LSO:=[Aa 11 5,AC 12 11 0]
def TU:LSO:=[Aa 13 5,As 2,Aa 3 13]
def TT:LSO:=[Aa 14 0,o1 15 (.call 178 [(tm 14),(.av (.bool true))]),Aa 2 15,Ab 3 0]
def To:aQ:=⟨16,(aoC TX [] (.seq (aoC TW C2 (aoC TV Cw (aoE 12 (.sreg TU C3)))) (aoC TT CH .ret))),[(.tmp 2),(.tmp 3)]⟩
attribute [push_cast] TX TW TV TU TT
theorem Y0:aoH 140=aoI To:=aoL
def Vf:LSO:=[As 2,Ab 3 0]
def Ve:LSO:=[Aa 7 0,Ai 8 139 7,Aa 6 8,Aq 9 6,Au 10 6,Aa 4 9,Aa 5 10]
def Vd:LSO:=[Aa 11 5,AC 12 11 0]
def Vc:LSO:=[Aa 13 5,As 2,Aa 3 13]
def Vb:LSO:=[Aa 14 4,Ai 15 140 14,Aq 16 15,Au 17 15,Aa 2 16,Aa 3 17]
def Wo:aQ:=⟨18,(aoC Vf [] (aoC Ve CL (.seq (aoC Vd Cw (aoE 12 (.sreg Vc C3))) (aoC Vb CT .ret)))),[(.tmp 2),(.tmp 3)]⟩
attribute [push_cast] Vf Ve Vd Vc Vb
theorem aaE:aoH 100=aoI Wo:=aoL
def dq:LSO:=[Ae 4]
def dp:LSO:=[Aa 5 0,Aa 6 1,Ar 7 233 5 6,Bg 8 7 0,Aa 4 8]
def cv:aQ:=⟨9,(aoC dq [] (aoC dp Cz .ret)),[(.tmp 4)]⟩
attribute [push_cast] dq dp
theorem ga:aoH 208=aoI cv:=aoL
def dO:LSO:=[Ab 4 0]
def dN:LSO:=[Aa 6 0,Am 7 6,Ab 8 0]
def dM:LSO:=[Ak 9 8 7]
def dL:LSO:=[Aa 10 8,Aa 5 10]
def dK:LSO:=[Aa 11 1,Aa 12 0,Aa 13 5,Ao 14 2 12 13,Ap 15 2 14,Bt 16 11 15]
def dJ:LSO:=[Aa 17 5,Aa 4 17]
def dI:LSO:=[Ag 18 8 1,Aa 8 18]
def dH:LSO:=[Ab 4 (-1)]
def cU:aQ:=⟨19,(aoC dO [] (.seq (aoC dN C3 (aoF 0 (aoC dM [] (.seq (aoG 9 0) (.seq (.block 1 (aoC dL Cw (aoC dK C0 (aoE 16 (.sreg dJ Cw))))) (.sreg dI Cw)))))) (aoC dH [] .ret))),[(.tmp 4)]⟩
attribute [push_cast] dO dN dM dL dK dJ dI dH
theorem gF:aoH 233=aoI cU:=aoL
def yX:LSO:=[As 4,As 5,Ae 6]
def yW:LSO:=[Aa 7 0,Aa 8 1,Ar 9 207 7 8,Aq 10 9,Au 11 9,Bl 12 9,Aa 4 10,Aa 5 11,Aa 6 12]
def iI:aQ:=⟨13,(aoC yX [] (aoC yW CW .ret)),[(.tmp 4),(.tmp 5),(.tmp 6)]⟩
attribute [push_cast] yX yW
theorem xB:aoH 174=aoI iI:=aoL
def fR:LSO:=[As 4,As 5,Ae 6]
def fQ:LSO:=[Aa 8 0,Aa 9 1,Ar 10 159 8 9,Aa 7 10]
def fP:LSO:=[Aa 11 7,Bg 12 11 0]
def fO:LSO:=[Aa 13 0,Aa 14 7,o1 15 (.slS (tm 13) none (some (tm 14))),Aa 16 0,Aa 17 7,Aa 18 1,Aw 19 18,AO 20 17 19,BP 21 16 20,Aa 4 15,Aa 5 21,Az 6]
def fN:LSO:=[Aa 22 0,Aa 4 22,As 5,Ae 6]
def cq:aQ:=⟨23,(aoC fR [] (.seq (aoC fQ Cy (aoC fP Cw (aoE 12 (.sdreg fO [.pure,.pure,(.read 0 0),.pure,.pure,.pure,(.read 0 0),.pure,(.read 0 0),.pure] CZ)))) (aoC fN CF .ret))),[(.tmp 4),(.tmp 5),(.tmp 6)]⟩
attribute [push_cast] fR fQ fP fO fN
theorem ft:aoH 207=aoI cq:=aoL
attribute [push_cast] KG Wn PJ yz PL PM To Wo cv cU iI
set_option maxHeartbeats 8000000
set_option maxRecDepth 100000
theorem UX{n:Int}(h0 : -2147483648<=n)(h1:n<2147483648):IntKind.i32.wrap n=n:=by simp only[IntKind.wrap,IntKind.bits,IntKind.signed];simp;omega
theorem VZ{p:Nat}(h:p<s.length)(ha:(s.getD p 0).toNat<128):Up s p=((s.getD p 0).toNat,1):=by
 have e:s.getD p 0=s[p]:=by simp[h]
 rw[e]at ha⊢;exact decode_ascii ⟨⟨s⟩⟩ p h ha
theorem X3{p:Nat}(h:p<s.length)(ha:128<=(s.getD p 0).toNat):128<=(Up s p).1:=by
 have e:s.getD p 0=s[p]:=by simp[h]
 rw[e]at ha;exact(decode_high ⟨⟨s⟩⟩ p h ha).1
def qf(x:Int):Bool:=(decide (97<=x)&&decide (x<=122)) ||(decide (65<=x)&&decide (x<=90))
theorem qe{x:Int}{L:List Blk}{K:alp}(h:K (.bool (qf x)) L):alo 191 [.int .i32 x] L K:=by
 refine aln Wm ?_
 all_goals (first|refine ab rfl (Kto h ?_)|refine aa (Kto h ?_)|refine ab (by simp only[AV.refs,AV.refsL, *];rfl) (Kto h ?_)|refine bu (ab rfl (Kto h ?_))|(trace_state;fail))
 all_goals (first|(simp[qf, *];done)|(simp[qf, *];omega)|(simp[qf, *];intros;omega)|(simp_all[Hid,qf];done)|(simp_all[Hid,qf];omega))
def PZ(x:Int):Bool:=qf x ||(decide (48<=x)&&decide (x<=57)) ||decide (x=45)
def gh(s:List UInt8):Bool:=decide (1<=s.length)&&decide (s.length<=32)&&qf ((s.getD 0 0).toNat:Int)&&s.all λc=>PZ (c.toNat:Int)
theorem Xb{x:Int}(h:128<=x):PZ x=false:=by simp only[PZ,qf,an0,anJ,decide_eq_false_iff_not];omega
theorem Yk{s:List UInt8}{L:List Blk}{K:alp}(h:K (.bool (gh s)) L):alo 157 [.str s] L K:=by
 have no:gh s=false->K (.bool false) L:=λe=>by rw[<- e];exact h
 replace no:=hid no;replace h:=hid h;refine ac YZ (by simp[Tn]) ?_;simp only[Tn,am];by_cases h0:s=[];subst h0;refine wk ?_;exact aa (no.o rfl);have hlen:0<s.length:=amH.2 h0;by_cases h1:(32:Int)<(s.length:Int);refine wk ?_;exact aa (no.o (by simp[gh];omega));obtain⟨c0,hc0⟩:=alj (s.getD 0 0);have hr:=c0.toNat_lt;have w0:IntKind.i32.wrap (c0.toNat:Int)=(c0.toNat:Int):=UX aoJ aoJ;cases hl0:qf (c0.toNat:Int)with
 | false =>
   have kk1:=@hid _ @qe;refine wk ?_;refine aa (no.o ?_);simp only[gh,hc0,hl0,Bool.and_false,amL]
 | true =>
   have kk1:=@hid _ @qe;refine wk ?_;refine ah (λn T' L'=>∃p,n=s.length-p/\p<=s.length/\Hid (∀c∈s.take p,PZ (c.toNat:Int)=true)/\T'=[(20,.ptr L.length 0)]/\L'=L++[.siter s p]) aoN ⟨0,rfl,alw _,hid aoK,rfl,rfl⟩ ?_;rintro _ _ _ ⟨p,rfl,hp,hall,rfl,rfl⟩;by_cases hlt:p<s.length
   .obtain⟨c,hc⟩:=alj (s.getD p 0);have hmem:c∈s:=(by rw[<- hc];simp[hlt]);have htk:s.take (p+1)=s.take p++[c]:=(by rw[alN hlt,<- hc];simp[hlt]);replace htk:=hid htk;have bad:PZ (c.toNat:Int)=false->K (.bool false) L:=λe=>no.o (by have:(s.all λc=>PZ (c.toNat:Int))=false:=List.all_eq_false.2 ⟨c,hmem,by rw[e];simp⟩;simp only[gh,this,Bool.and_false])
    replace bad:=hid bad;by_cases ha:c.toNat<128
    .have hd:=VZ hlt (by rw[hc];exact ha);rw[hc]at hd;obtain⟨x,hx⟩:∃x:Nat,c.toNat=x:=⟨_,rfl⟩;rw[hx]at hd bad;have hx':=hid hx;clear hx hc hmem ha hr w0;cases hxl:qf (x:Int)with
     | true =>
       have kk1:=@hid _ @qe;refine wk ?_;refine aoO aoJ aoN ⟨p+1,rfl,hlt,hid λd hd'=>?_,rfl,rfl⟩;rw[htk.o]at hd';rcases alv.1 hd' with h|h
       .exact hall.o d h
       .rw[alM.1 h,hx'.o,PZ,hxl];rfl
     | false =>
       repeat' first
        |refine bd ?_
        | (first|refine aV aoL ?_|refine aB aoL ?_|refine aE ?_|refine bJ ?_|refine bg (fun _=>?_)|refine ax ?_|refine aY ?_|refine qe ?_|refine aU (qe ⟨rfl,rfl⟩) (qe ⟨rfl,rfl⟩) ?_|refine aA (qe ⟨rfl,rfl⟩) ?_)
          refine sm ?_
        | (first|refine aO aoL ?_|refine aP ?_|refine aD ?_|refine aW ?_|refine bq (aw ?_))
          refine sl ?_
        |exact bh
        |first|apply bj|apply aR|apply bm|apply aS|apply bo|apply aT
        |refine aH ?_
        |refine aC ?_
        |first|refine aF rfl ?_|refine aG rfl ?_|refine ao rfl ?_ ?_|refine aJ rfl (λ_=>?_) (λ_=>?_)|refine aI rfl (λ_=>?_) (λ_=>?_)
        |((first|refine an (λ_=>?_) (λ_=>?_)|refine au (λ_=>?_) (λ_=>?_))<;>try refine sm ?_)
        |refine And.intro trivial ?_
        |refine And.intro aoJ ?_
        |refine aL rfl (λ_=>?_) (λ_=>?_)
        |refine And.intro ?_ ?_
       .rename_i hb;refine ab rfl (bad.o ?_);simp only[PZ,hxl,amY,an0,anJ,decide_eq_false_iff_not];omega
       .rename_i hb;refine aoO aoJ aoN ⟨p+1,rfl,hlt,hid λd hd'=>?_,rfl,rfl⟩;rw[htk.o]at hd';rcases alv.1 hd' with h|h
        .exact hall.o d h
        .rw[alM.1 h,hx'.o];simp only[PZ,hxl,amY,al9,alx,decide_eq_true_eq];omega
    .have hh:=X3 hlt (by rw[hc];omega);obtain⟨⟨x,wd⟩,hd⟩:∃q,Up s p=q:=⟨_,rfl⟩;rw[hd]at hh;simp only at hh;have bad':=hid (bad.o (Xb (show(128:Int)<=(c.toNat:Int)by omega)));have hxl:qf (x:Int)=false:=by have:=Xb (show(128:Int)<=(x:Int)by omega);simp only[PZ,an0]at this;exact this.1.1
     have f1:¬(x:Int)<48:=aoJ;have f2:(57:Int)<(x:Int):=aoJ;have f3:¬(x:Int)=45:=aoJ;clear hc hmem hr w0;have kk1:=@hid _ @qe;refine wk ?_;exact ab rfl bad'.o
   .have hke:p=s.length:=aoJ;subst hke;have h':=h.o;have e:gh s=true:=by
     have e1:(s.all λc=>PZ (c.toNat:Int))=true:=alC.2 λc hcm=>hall.o c (by rw[alF];exact hcm)
     simp only[gh,e1,hc0,hl0,anD];simp;omega
    rw[e]at h';replace h':=hid h';clear e;refine wk ?_;exact ab rfl h'.o
variable {L:List Blk}{K:alp}
abbrev Ava:=List UInt8×List UInt8
variable {r:List Ava}
def sD(a:Ava):List AV:=[.str a.1,.str a.2]
def bb(r:List Ava):List AV:=r.flatMap sD
abbrev aa8(r:List Ava)(cap:Option Nat):AV:=.sl (bb r) r.length cap
def mH(r:List Ava)(typ:List UInt8):Bool:=r.any λa=>decide (af a.1=af typ)
theorem aj2{a:Ava}(h1:(a.1.length:Int)<=100000)(h2:(typ.length:Int)<=100000)(hL:L[ip]?=some (.cells [.str typ]))(h:K (.bool (decide (af a.1=af typ))) L):
  alo 209 [.agg (sD a),.ptr ip 0] L K:=by
 obtain⟨t,v⟩:=a;replace h:=hid h;have hip:ip<L.length:=(alq.1 hL).1;have g1:(L++[Blk.cells [.str t,.str v]])[ip]?=some (.cells [.str typ]):=by rw[aly hip];exact hL
 simp only[sD];refine ac WY (by simp[PK]) ?_;simp only[PK,am];have kk1:=@aoQ _ _ _ _ (Kh h1);have kk2:=@aoQ _ _ _ _ (Kh h2);refine wk ?_;exact ab rfl h.o
theorem dW(r:List Ava):(bb r).length=r.length*2:=by
 induction r with
 |nil=>rfl
 |cons a r ih=>simp only[bb,amv,alJ,sD,alA,amg]at ih⊢;omega
theorem gy:∀{r:List Ava}{k:Nat},k<r.length->((bb r).drop (k*2)).take 2=sD (r.getD k ([],[]))
 |a::r,0,_=>rfl
 |a::r,k+1,h=>by have ih:=@gy r k (by simpa using h);rw[show(k+1)*2=k*2+1+1 by omega];simpa[bb,sD]using ih
theorem ago(hn:r.length<=100000)(h1:∀a∈r,(a.1.length:Int)<=100000)(h2:(typ.length:Int)<=100000)(hL:L[ip]?=some (.cells [.str typ]))(hno:mH r typ=false->K (.int .i64 (-1)) L)(hyes:∀k:Nat,mH r typ=true->K (.int .i64 k) L):alo 233 [aa8 r cap,.func 209 [.ptr ip 0]] L K:=by
 replace hno:=hid hno;replace hyes:=hid hyes;replace h1:=hid h1;refine aln gF ?_;refine ah (λn T' L'=>∃(k:Nat),n=r.length-k/\k<=r.length/\Hid (mH (r.take k) typ=false)/\T'=[(8,.int .i64 (k:Int)),(7,.int .i64 r.length),(0,aa8 r cap),(1,.func 209 [.ptr ip 0])]/\L=L') (CutS (b:=alr _)) ⟨0,rfl,alw _,hid rfl,rfl,rfl⟩ ?_;rintro _ _ _ ⟨k,rfl,hk,hf,rfl,rfl⟩;by_cases hlt:k<r.length;have g1:(k:Int)<(r.length:Int):=aoJ;have g2:=alm k aoJ;have e1:=gy hlt;have e2:k*2+2<=(bb r).length:=by rw[dW];omega
 obtain⟨a,ha⟩:=alj (r.getD k ([],[]));have ham:a∈r:=by rw[<- ha];simp[hlt]
 have htk:r.take (k+1)=r.take k++[a]:=by rw[alN hlt,<- ha];simp[hlt]
 rw[ha]at e1;have hs:mH (r.take (k+1)) typ=decide (af a.1=af typ):=by have:=hf.o;simp only[mH]at this⊢;rw[htk,aoh,this];simp
 have hall:decide (af a.1=af typ)=true->mH r typ=true:=λe=>anb.2 ⟨a,ham,e⟩
 replace hall:=hid hall;replace hs:=hid hs;replace htk:=hid htk;have ha1:=hid (h1.o a ham);clear ha ham;refine wk ?_;refine aj2 ha1.o h2 hL ?_;refine sk ?_;cases hd:decide (af a.1=af typ)with
 | true =>
   have hy:=hid (hyes.o k (hall.o hd));replace hd:=hid hd;refine wk ?_;exact aa hy.o
 | false =>
   replace hd:=hid hd;refine wk ?_;exact aoO aoJ (CutS (b:=alr _)) ⟨k+1,rfl,hlt,hid (by rw[hs.o,hd.o]),rfl,rfl⟩
 have hke:k=r.length:=aoJ;subst hke;have g1:¬(r.length:Int)<(r.length:Int):=aoJ;have hn':=hf.o;rw[alF]at hn';have hy:=hid (hno.o hn');clear hn';refine wk ?_;exact aa hy.o
theorem aax(hn:r.length<=100000)(h1:∀a∈r,(a.1.length:Int)<=100000)(h2:(typ.length:Int)<=100000)(hL:L[ip]?=some (.cells [.str typ]))(h:K (.bool (mH r typ)) L):
  alo 208 [aa8 r cap,.func 209 [.ptr ip 0]] L K:=by
 replace h:=hid h;refine aln ga ?_;refine ago hn h1 h2 hL (λe=>?_) (λk e=>?_);have h':=h.o;rw[e]at h';replace h':=hid h';refine aoR ?_;exact aa h'.o;have h':=h.o;rw[e]at h';replace h':=hid h';have g:(0:Int)<=(k:Int):=aoJ;refine aoR ?_;exact aa h'.o
theorem ajl(hn:r.length<=100000)(h1:∀a∈r,(a.1.length:Int)<=100000)(h2:(typ.length:Int)<=100000)(h:K (.bool (mH r typ)) L):
  alo 175 [aa8 r cap,.str typ] L K:=by
 replace h:=hid h;refine aln aaD ?_;refine aax hn h1 h2 aoK ?_;refine aoR ?_;exact ab rfl h.o
theorem fT{a:List UInt8}{c:UInt8}{L:List Blk}{K:alp}(h:K (.int .i64 (Lib.indexByte a c)) L):alo 210 [.str a,.int .u8 c.toNat] L K :=
 cH Tryz.func210 rfl aoL (λw0 S0 E w vs hR hv=>by simp only[VRL,VR]at hv;obtain⟨_,_,rfl,rfl,_,_,rfl,rfl,rfl⟩:=hv;exact(Tryz.strings_IndexByte ⟨⟨a⟩⟩ c.toNat w).mono λe w' ⟨he,hw⟩=>⟨_,he,by simp[VR],by subst hw;exact sx.refl _⟩) h
theorem rx(a:List UInt8)(c:UInt8):(0<=Lib.indexByte a c)↔c∈a:=by
 induction a with
 |nil=>simp[Lib.indexByte]
 | cons b l ih =>
   have hge:=Lib.indexByte_ge l c;unfold Lib.indexByte;by_cases hb:b=c
   .simp[hb]
   .have e1:(b == c)=false:=(by simpa using hb);rw[e1];simp only[alG,if_false];have e2:c∈b::l↔c∈l:=(by simp[Ne.symm hb]);rw[e2,<- ih];split
    .rename_i h;simp at h;omega
    .rename_i h;simp at h;omega
theorem bz(c d:UInt8):(c.toNat:Int)=(d.toNat:Int)↔c=d:=by constructor;intro h;exact anc.1 aoJ;rintro rfl;rfl
def wrB(i n:Nat)(c:UInt8):List UInt8 :=
 if c=0 then[92,48,48]else if(i=0/\(c=32\/c=35))\/(i+1=n/\c=32)\/c∈[34,43,44,59,60,62,92]then[92,c]else[c]
def wrL(n:Nat):Nat->List UInt8->List UInt8
 |_,[]=>[]
 |i,c::s=>wrB i n c++wrL n (i+1) s
def fa(s:List UInt8):List UInt8:=wrL s.length 0 s
theorem ahN(i n:Nat)(c:UInt8):(wrB i n c).length<=3:=by unfold wrB;split;simp;split<;>simp
theorem fV(hs:s.length<=100000)(h:K (.str (fa s)) L):alo 213 [.str s] L K:=by
 replace h:=hid h;have g0:IntKind.i64.wrap ((s.length:Int)-1)=(s.length:Int)-1:=ad aoJ aoJ;refine aln UI ?_;refine bF (l:=[]) (n:=0) 3 1 rfl (alU 1).symm ?_;refine ah (λn T' L'=>∃(i m:Nat) (b:List UInt8),n=s.length-i/\i<=s.length/\m<=3*i/\Hid (m=b.length/\b++wrL s.length i (s.drop i)=fa s)/\T'=[(10,.int .i64 (i:Int)),(9,.int .i64 s.length),(8,.sl (u8s s) s.length none),(3,.gsl (u8s b) m L.length 1),(0,.str s)]/\L'=L++[.spare m 1]) aoN ⟨0,0,[],rfl,alw _,aoJ,hid ⟨rfl,rfl⟩,rfl,rfl⟩ ?_;rintro _ _ _ ⟨i,m,b,rfl,hi,hm,hb,rfl,rfl⟩;by_cases hlt:i<s.length
 .have g1:(i:Int)<(s.length:Int):=aoJ;have g2:=alm i aoJ;obtain⟨c,hc⟩:=alj (s.getD i 0);have g3:(u8s s).getD i .undef=.int .u8 c.toNat:=(by rw[<- hc];simp[u8s,hlt]);have hdr:s.drop i=c::s.drop (i+1):=(by rw[ama hlt,<- hc];simp[hlt]);have hb2:=hb.o.2;rw[hdr]at hb2;simp only[wrL]at hb2;have g4:=jM;have g5:(u8s s).length=s.length:=(by simp[u8s]);clear hc hdr;replace hb2:=hid hb2
  repeat' first
   |refine bd ?_
   | (first|refine aV aoL ?_|refine aB aoL ?_|refine aE ?_|refine bJ ?_|refine bg (fun _=>?_)|refine ax ?_|refine aY ?_|refine fT ?_|refine aU (fT ⟨rfl,rfl⟩) (fT ⟨rfl,rfl⟩) ?_|refine aA (fT ⟨rfl,rfl⟩) ?_)
     refine sm ?_
   | (first|refine aO aoL ?_|refine aP ?_|refine aD ?_|refine aW ?_|refine bq (aw ?_))
     refine sl ?_
   |exact bh
   |first|apply bj|apply aR|apply bm|apply aS|apply bo|apply aT
   |refine aH ?_
   |refine aC ?_
   |first|refine aF rfl ?_|refine aG rfl ?_|refine ao rfl ?_ ?_|refine aJ rfl (λ_=>?_) (λ_=>?_)|refine aI rfl (λ_=>?_) (λ_=>?_)
   |((first|refine an (λ_=>?_) (λ_=>?_)|refine au (λ_=>?_) (λ_=>?_))<;>try refine sm ?_)
   |refine And.intro trivial ?_
   |refine And.intro aoJ ?_
   |refine aL rfl (λ_=>?_) (λ_=>?_)
   |refine And.intro ?_ ?_
  rfl;omega;rename_i h0;have hc0:=(bz c 0).1 h0;rw[show u8s b++AV.frzL (u8s [92,48,48])=u8s (b++[92,48,48])by simp[u8s,AV.frzL,AV.frz]];refine aoO aoJ aoM ⟨i+1,m+3,b++[92,48,48],rfl,hlt,aoJ,hid ⟨by simp[hb.o.1],?_⟩,rfl,rfl⟩;rw[<- hb2.o,wrB,if_pos hc0,alI];rename_i h0 h1;have hc0:¬c=0:=λe=>h0 ((bz c 0).2 e)
  have hq:(i=0/\(c=32\/c=35))\/(i+1=s.length/\c=32)\/c∈[34,43,44,59,60,62,92]:=by rcases h1 with(⟨e1,e2⟩|⟨e1,e2⟩)|e;exact .inl ⟨aoJ,e2.imp (bz c 32).1 (bz c 35).1⟩;exact .inr (.inl ⟨aoJ,(bz c 32).1 e2⟩);exact .inr (.inr ((rx _ _).1 e))
  rw[show u8s b++[AV.int IntKind.u8 92,AV.int IntKind.u8 (c.toNat:Int)]=u8s (b++[92,c])by simp[u8s]];refine aoO aoJ aoM ⟨i+1,m+1+1,b++[92,c],rfl,hlt,aoJ,hid ⟨by simp[hb.o.1],?_⟩,rfl,rfl⟩;rw[<- hb2.o,wrB,if_neg hc0,if_pos hq,alI];rename_i h0 h1;have hc0:¬c=0:=λe=>h0 ((bz c 0).2 e)
  have hq:¬((i=0/\(c=32\/c=35))\/(i+1=s.length/\c=32)\/c∈[34,43,44,59,60,62,92]):=λhq=>h1 (by rcases hq with⟨e1,e2⟩|⟨e1,e2⟩|e;exact .inl (.inl ⟨aoJ,e2.imp (bz c 32).2 (bz c 35).2⟩);exact .inl (.inr ⟨aoJ,(bz c 32).2 e2⟩);exact .inr ((rx _ _).2 e))
  rw[show u8s b++[AV.int IntKind.u8 (c.toNat:Int)]=u8s (b++[c])by simp[u8s]];refine aoO aoJ aoM ⟨i+1,m+1,b++[c],rfl,hlt,aoJ,hid ⟨by simp[hb.o.1],?_⟩,rfl,rfl⟩;rw[<- hb2.o,wrB,if_neg hc0,if_neg hq,alI]
 have hke:i=s.length:=aoJ;subst hke;have g1:¬(s.length:Int)<(s.length:Int):=aoJ;have e1:=jM b;have e2:=hP b;have e:=hb.o.2;rw[al6,wrL,alY]at e;have h':=h.o;rw[<- e]at h';replace h':=hid h';clear e;refine wk ?_;exact ab rfl h'.o
abbrev rD:List UInt8:=[34,43,44,59,60,62,92,32,35,61]
def gf:List UInt8->Bool->List UInt8->Option (List UInt8×List UInt8×Bool)
 |b,bl,[]=>some (b,[], !bl)
 | b,bl,c::s=>if c=44\/c=43 then some (b,c::s, !bl)
   else if c≠92 then(if c=0\/c∈([34,59,60,62]:List UInt8)\/(b=[]/\(c=32\/c=35))then none else gf (b++[c]) (decide (c=32)) s)
   else match s with
    |[]=>none
    | d::s1=>if d∈rD then gf (b++[d]) false s1 else match s1 with
      |[]=>none
      | e::s2=>match RZ d e with
        |none=>none
        |some x=>gf (b++[x]) false s2
def ac5(o:Option (List UInt8×List UInt8×Bool)):AV:=match o with
 |none=>.tup [.str [],.str [],.bool false]
 |some (v,r,f)=>.tup [.str v,.str r,.bool f]
theorem oQ  :gf b bl []=some (b,[], !bl):=by rw[gf.eq_def]
theorem rq{c:UInt8}(h:c=44\/c=43):gf b bl (c::s)=some (b,c::s, !bl):=by rw[gf.eq_def];simp only[if_pos h]
theorem ox{c:UInt8}(h:¬(c=44\/c=43))(h2:c≠92):gf b bl (c::s)=if c=0\/c∈([34,59,60,62]:List UInt8)\/(b=[]/\(c=32\/c=35))then none else gf (b++[c]) (decide (c=32)) s:=by rw[gf.eq_def];simp only[if_neg h,if_pos h2]
theorem KT  :gf b bl [92]=none:=by rw[gf.eq_def];rfl
theorem ue(h:d∈rD):gf b bl (92::d::s)=gf (b++[d]) false s:=by rw[gf.eq_def];simp only[show ¬((92:UInt8)=44\/(92:UInt8)=43)by decide,if_false,ne_eq,not_true_eq_false,if_pos h]
theorem KR(h:¬d∈rD):gf b bl [92,d]=none:=by rw[gf.eq_def];simp only[show ¬((92:UInt8)=44\/(92:UInt8)=43)by decide,if_false,ne_eq,not_true_eq_false,if_neg h]
theorem Gf{e:UInt8}(h:¬d∈rD):gf b bl (92::d::e::s)=match RZ d e with|none=>none|some x=>gf (b++[x]) false s:=by rw[gf.eq_def];simp only[show ¬((92:UInt8)=44\/(92:UInt8)=43)by decide,if_false,ne_eq,not_true_eq_false,if_neg h]
theorem ot{i:Nat}(h:i<s.length):s.drop i=s.getD i 0::s.drop (i+1):=by rw[ama h];simp[h]
theorem ahO(hs:s.length<=100000)(h:K (ac5 (gf [] false s)) L):alo 176 [.str s] L K:=by
 replace h:=hid h;refine aln WX ?_;refine bF (l:=[]) (n:=0) 5 1 rfl (alU 1).symm ?_;refine ah (λn T' L'=>∃(i m:Nat) (b:List UInt8) (bl:Bool),n=s.length-i/\i<=s.length/\m<=i/\Hid (m=b.length/\gf b bl (s.drop i)=gf [] false s)/\T'=[(7,.int .i64 (i:Int)),(6,.bool bl),(5,.gsl (u8s b) m L.length 1),(0,.str s)]/\L'=L++[.spare m 1]) aoN ⟨0,0,[],false,rfl,alw _,aoJ,hid ⟨rfl,rfl⟩,rfl,rfl⟩ ?_;rintro _ _ _ ⟨i,m,b,bl,rfl,hi,hm,hb,rfl,rfl⟩;have e1:=jM b;have e2:=hP b;by_cases hlt:i<s.length
 .have g1:(i:Int)<(s.length:Int):=aoJ;have g2:=alm i aoJ;obtain⟨c,hc⟩:=alj (s.getD i 0);have hdr:=ot hlt;rw[hc]at hdr;have hb2:=hb.o.2;rw[hdr]at hb2;have hds:(s.drop i).take (s.length-i)=s.drop i:=ams aoK;have hl1:(i:Int)<=(s.length:Int):=aoJ;by_cases hcc:c=44\/c=43;rw[rq hcc]at hb2;have h':=h.o;rw[<- hb2]at h';simp only[ac5]at h';rw[<- hdr]at h';replace h':=hid h';have k1:((c.toNat:Int)=44)\/((c.toNat:Int)=43):=hcc.imp (bz c 44).2 (bz c 43).2;clear hb2 hcc hdr;rcases k1 with k1|k1;refine wk ?_;exact ab rfl h'.o;refine wk ?_;exact ab rfl h'.o
  .have k1:¬(c.toNat:Int)=44:=λe=>hcc (.inl ((bz c 44).1 e))
   have k2:¬(c.toNat:Int)=43:=λe=>hcc (.inr ((bz c 43).1 e))
   by_cases h92:c=92;subst h92;have g3:IntKind.i64.wrap ((i:Int)+2)=(i:Int)+2:=ad aoJ aoJ;have g4:IntKind.i64.wrap ((i:Int)+3)=(i:Int)+3:=ad aoJ aoJ;have g5:IntKind.i64.wrap ((i:Int)+1+1)=(i:Int)+1+1:=ad aoJ aoJ;have g6:IntKind.i64.wrap ((i:Int)+2+1)=(i:Int)+2+1:=ad aoJ aoJ;have t1:((i:Int)+1).toNat=i+1:=aoJ;have t3:((i:Int)+3).toNat=i+3:=aoJ;by_cases h1:i+1<s.length;have f1:(i:Int)+1<(s.length:Int):=aoJ;obtain⟨d,hd⟩:=alj (s.getD (i+1) 0);have hdr1:=ot h1;rw[hd]at hdr1;rw[hdr1]at hb2;by_cases hsp:d∈rD;rw[ue hsp]at hb2;have f2:=(rx rD d).2 hsp;clear hdr hdr1;replace hb2:=hid hb2;have kk1:=@hid _ @fT;refine wk ?_;rw[show u8s b++[AV.int IntKind.u8 (d.toNat:Int)]=u8s (b++[d])by simp[u8s],show decide (((UInt8.toNat 92:Nat):Int)=32)=false from rfl];refine aoO aoJ aoM ⟨i+1+1,m+1,b++[d],false,rfl,h1,aoJ,hid ⟨by simp[hb.o.1],hb2.o⟩,rfl,rfl⟩;have f2:¬0<=Lib.indexByte rD d:=λe=>hsp ((rx rD d).1 e)
   by_cases h2:i+2<s.length;have f3:(i:Int)+2<(s.length:Int):=aoJ;have f4:(i:Int)+1<=(i:Int)+3:=aoJ;have f5:(i:Int)+3<=(s.length:Int):=aoJ;have f6:(0:Int)<=(i:Int)+1:=aoJ;obtain⟨e,he⟩:=alj (s.getD (i+2) 0);have hdr2:=ot h2;rw[he]at hdr2;rw[hdr2,Gf hsp]at hb2;have hcut:(s.drop (i+1)).take (i+3-(i+1))=[d,e]:=by rw[hdr1,hdr2,show i+3-(i+1)=2 by omega];rfl
   clear hdr hdr1 hdr2;replace hb2:=hid hb2;have kk1:=@hid _ @fT;refine wk ?_;refine ae1 ?_;rcases hx:RZ d e with _|x;rw[show Pr d e=.tup [.str [],.bool false]by simp only[Pr,hx]];have h':=h.o;rw[<- hb2.o,hx]at h';simp only[ac5]at h';replace h':=hid h';clear hx;refine aoR ?_;exact ab rfl h'.o;rw[show Pr d e=.tup [.str [x],.bool true]by simp only[Pr,hx]];have hb3:=hb2.o;rw[hx]at hb3;simp only at hb3;replace hb3:=hid hb3;have q1:[x].getD 0 0=x:=rfl;clear hx hb2;refine aoR ?_;rw[show u8s b++[AV.int IntKind.u8 (x.toNat:Int)]=u8s (b++[x])by simp[u8s],show decide (((UInt8.toNat 92:Nat):Int)=32)=false from rfl];refine aoO aoJ aoM ⟨i+2+1,m+1,b++[x],false,rfl,h2,aoJ,hid ⟨by simp[hb.o.1],hb3.o⟩,rfl,rfl⟩;have f3:¬(i:Int)+2<(s.length:Int):=aoJ;have hnil:s.drop (i+1+1)=[]:=am4 aoJ;rw[hnil,KR hsp]at hb2;have h':=h.o;rw[<- hb2]at h';replace h':=hid h';clear hdr hdr1 hb2;have kk1:=@hid _ @fT;refine wk ?_;exact ab rfl h'.o;have f1:¬(i:Int)+1<(s.length:Int):=aoJ;have f3:¬(i:Int)+2<(s.length:Int):=aoJ;have hnil:s.drop (i+1)=[]:=am4 aoJ;rw[hnil,KT]at hb2;have h':=h.o;rw[<- hb2]at h';replace h':=hid h';clear hdr hb2;have kk1:=@hid _ @fT;refine wk ?_;exact ab rfl h'.o
   .rw[ox hcc h92]at hb2;have k3:¬(c.toNat:Int)=92:=λe=>h92 ((bz c 92).1 e)
    clear hdr;replace hb2:=hid hb2
    repeat' first
     |refine bd ?_
     | (first|refine aV aoL ?_|refine aB aoL ?_|refine aE ?_|refine bJ ?_|refine bg (fun _=>?_)|refine ax ?_|refine aY ?_|refine fT ?_|refine aU (fT ⟨rfl,rfl⟩) (fT ⟨rfl,rfl⟩) ?_|refine aA (fT ⟨rfl,rfl⟩) ?_)
       refine sm ?_
     | (first|refine aO aoL ?_|refine aP ?_|refine aD ?_|refine aW ?_|refine bq (aw ?_))
       refine sl ?_
     |exact bh
     |first|apply bj|apply aR|apply bm|apply aS|apply bo|apply aT
     |refine aH ?_
     |refine aC ?_
     |first|refine aF rfl ?_|refine aG rfl ?_|refine ao rfl ?_ ?_|refine aJ rfl (λ_=>?_) (λ_=>?_)|refine aI rfl (λ_=>?_) (λ_=>?_)
     |((first|refine an (λ_=>?_) (λ_=>?_)|refine au (λ_=>?_) (λ_=>?_))<;>try refine sm ?_)
     |refine And.intro trivial ?_
     |refine And.intro aoJ ?_
     |refine aL rfl (λ_=>?_) (λ_=>?_)
     |refine And.intro ?_ ?_
    rename_i hx;have hbad:c=0\/c∈([34,59,60,62]:List UInt8)\/(b=[]/\(c=32\/c=35)):=by rcases hx with(e|e)|⟨e,e'⟩;exact .inl ((bz c 0).1 e);exact .inr (.inl ((rx _ _).1 e));refine .inr (.inr ⟨al1.1 ?_,e'.imp (bz c 32).1 (bz c 35).1⟩);have:=hb.o.1;omega
    have h':=h.o;rw[<- hb2.o,if_pos hbad]at h';exact ab rfl h';rename_i hx;have hbad:¬(c=0\/c∈([34,59,60,62]:List UInt8)\/(b=[]/\(c=32\/c=35))):=λe=>hx (by rcases e with e|e|⟨e,e'⟩;exact .inl (.inl ((bz c 0).2 e));exact .inl (.inr ((rx _ _).2 e));refine .inr ⟨?_,e'.imp (bz c 32).2 (bz c 35).2⟩;have:=hb.o.1;rw[e]at this;simp at this;omega)
    have hc32:decide ((c.toNat:Int)=32)=decide (c=32):=by have:=bz c 32;simp only[decide_eq_decide];exact this
    rw[show u8s b++[AV.int IntKind.u8 (c.toNat:Int)]=u8s (b++[c])by simp[u8s],hc32];refine aoO aoJ aoM ⟨i+1,m+1,b++[c],decide (c=32),rfl,hlt,aoJ,hid ⟨by simp[hb.o.1],?_⟩,rfl,rfl⟩;rw[<- hb2.o,if_neg hbad]
 have hke:i=s.length:=aoJ;subst hke;have g1:¬(s.length:Int)<(s.length:Int):=aoJ;have h':=h.o;rw[<- hb.o.2,al6,oQ]at h';simp only[ac5]at h';replace h':=hid h';have hds:(s.drop s.length).take (s.length-s.length)=[]:=aoK;refine wk ?_;exact ab rfl h'.o
def mu:List UInt8->Option (List UInt8×List UInt8)
 |[]=>none
 | c::s=>if c=61 then some ([],s) else match mu s with
   |none=>none
   |some (a,b)=>some (c::a,b)
theorem V1:∀s:List UInt8,(Lib.indexByte s 61=-1/\mu s=none)\/∃n:Nat,n<s.length/\Lib.indexByte s 61=(n:Int)/\mu s=some (s.take n,s.drop (n+1))
 |[]=>.inl ⟨rfl,rfl⟩
 | c::s=>by
   by_cases hc:c=61
   .subst hc;exact .inr ⟨0,aoK,by simp[Lib.indexByte],by simp[mu]⟩
   .have e1:(c == 61)=false:=(by simpa using hc);unfold Lib.indexByte;rw[e1];simp only[alG,if_false,mu,if_neg hc];rcases V1 s with⟨h1,h2⟩|⟨n,h0,h1,h2⟩
    .exact .inl ⟨by rw[h1];rfl,by rw[h2]⟩
    .refine .inr ⟨n+1,by simp;omega,?_,by rw[h2];simp⟩;rw[h1];have:((n:Int) == -1)=false:=aoK;rw[this];simp
def V0(s:List UInt8):AV:=match mu s with
 |some (a,b)=>.tup [.str a,.str b,.bool true]
 |none=>.tup [.str s,.str [],.bool false]
theorem Z9{a:List UInt8}{c:UInt8}{L:List Blk}{K:alp}(h:K (.int .i64 (Lib.indexByte a c)) L):alo 159 [.str a,.str [c]] L K :=
 cH Tryz.func159 rfl aoL (λw0 S0 E w vs hR hv=>by simp only[VRL,VR]at hv;obtain⟨_,_,rfl,rfl,_,_,rfl,rfl,rfl⟩:=hv;exact(Tryz.stringslite_Index_one ⟨⟨a⟩⟩ c w).mono λe w' ⟨he,hw⟩=>⟨_,he,by simp[VR],by subst hw;exact sx.refl _⟩) h
theorem ag2(hs:s.length<=100000)(h:K (V0 s) L):alo 207 [.str s,.str [61]] L K:=by have hl:[(61:UInt8)].length=1:=rfl;rcases V1 s with⟨h1,h2⟩|⟨n,h0,h1,h2⟩;simp only[V0,h2]at h;replace h:=hid h;clear h2;refine ac ft (by simp[cq]) ?_;simp only[cq,am];have kk1:=@hid _ @Z9;refine wk ?_;exact aa h.o;simp only[V0,h2]at h;replace h:=hid h;have g1:(0:Int)<=(n:Int):=aoJ;have g2:=alm n aoJ;have g3:(n:Int)<=(s.length:Int):=aoJ;have g4:(n:Int)+1<=(s.length:Int):=aoJ;have g5:(0:Int)<=(n:Int)+1:=aoJ;have g6:((n:Int)+1).toNat=n+1:=aoJ;have g7:(s.drop (n+1)).take (s.length-(n+1))=s.drop (n+1):=ams aoK;clear h2;refine ac ft (by simp[cq]) ?_;simp only[cq,am];have kk1:=@hid _ @Z9;refine wk ?_;exact aa h.o
theorem akP(hs:s.length<=100000)(h:K (V0 s) L):alo 174 [.str s,.str [61]] L K:=by
 rcases hc:mu s with _|⟨a,b⟩
 all_goals
  simp only[V0,hc]at h;replace h:=hid h
 refine aln xB ?_;refine ag2 hs ?_;simp only[V0,hc];refine aoR ?_;exact aa h.o;refine aln xB ?_;refine ag2 hs ?_;simp only[V0,hc];refine aoR ?_;exact aa h.o
abbrev Rdn:=List Ava
abbrev cL(r:Rdn):AV:=aa8 r none
def sA:Nat->List Rdn->Rdn->List UInt8->List Rdn×Int
 |0,_,_,_=>([],4)
 | f+1,out,now,s=>if out.length=32\/now.length=8 then ([],9) else match mu s with
   |none=>([],4)
   | some (typ,rest)=>if gh typ=false then ([],4) else if mH now typ=true then ([],21) else match gf [] false rest with
     |none=>([],4)
     | some (v,r2,ok)=>if ok=false then ([],4) else match r2 with
       |[]=>(out++[now++[(typ,v)]],0)
       |c::s'=>if c=44 then sA f (out++[now++[(typ,v)]]) [] s' else sA f out (now++[(typ,v)]) s'
def xh(s:List UInt8):List Rdn×Int:=if 4096<s.length then([],5)else if s=[]then([],0)else sA (s.length+1) [] [] s
def abf(p:List Rdn×Int):AV:=.tup [.sl (p.1.map cL) p.1.length none,.int .i64 p.2]
theorem aav:∀{s a b:List UInt8},mu s=some (a,b)->b.length<s.length/\a.length<=s.length
 |[],a,b,h=>by simp[mu]at h
 | c::s,a,b,h=>by
   simp only[mu]at h;split at h
   .simp only[als,alE]at h;obtain⟨rfl,rfl⟩:=h;simp
   .split at h
    .cases h
    .rename_i a' b' hc;simp only[als,alE]at h;obtain⟨rfl,rfl⟩:=h;have:=aav hc;simp;omega
theorem ae0:∀(n:Nat){s b:List UInt8}{bl:Bool}{v r:List UInt8}{ok:Bool},s.length<=n->gf b bl s=some (v,r,ok)->r.length<=s.length:=by
 intro n;induction n with
 | zero =>
   intro s b bl v r ok hn h;obtain rfl:=al1.1 (Nat.le_zero.1 hn);rw[oQ]at h;cases h;simp
 | succ n ih =>
   intro s b bl v r ok hn h;cases s with
   |nil=>rw[oQ]at h;cases h;simp
   | cons c s =>
     simp only[alA]at hn;by_cases hc:c=44\/c=43
     .rw[rq hc]at h;cases h;simp
     by_cases h92:c=92
     .subst h92;cases s with
      |nil=>rw[KT]at h;cases h
      | cons d s =>
        by_cases hd:d∈rD
        .rw[ue hd]at h;have:=ih (by simp at hn;omega) h;simp;omega
        .cases s with
         |nil=>rw[KR hd]at h;cases h
         | cons e s =>
           rw[Gf hd]at h;split at h
           .cases h
           .have:=ih (by simp at hn;omega) h;simp;omega
     .rw[ox hc h92]at h;split at h
      .cases h
      .have:=ih aoJ h;simp;omega
section
variable {P:Program}{N:Nat}{own:Nat->Nat->Nat}{Q:Exit->Tm->List Blk->Prop}{T:Tm}{L:List Blk}
theorem Zd{lc:b9}(t sz B:Nat){l:List AV}{n:Nat}{v:AV}(ht:aq T t=some v)(hB:B<L.length)(hv:(v=.sl [] 0 (some 0)/\l=[]/\n=0)\/∃i,B<i/\v=.gsl l n i sz/\L[i]?=some (.spare n sz))(h:∀i X,B<i->(L++X)[i]?=some (.spare n sz)->AW P N own lc Q ((t,.gsl l n i sz)::T) (L++X)):AW P N own lc Q T L:=by
 rcases hv with⟨rfl,rfl,rfl⟩|⟨i,hBi,rfl,hi⟩;exact bF t sz ht aoK (h L.length [.spare 0 sz] hB aoK);have h':=h i [] hBi (by simpa using hi);rw[alY]at h';refine h'.weakT λt' v' e=>?_
 simp only[aq]at e;split at e;rename_i e1;subst e1;cases e;exact ht;exact e
end
variable {L:List Blk}{K:alp}
set_option maxHeartbeats 8000000
set_option maxRecDepth 100000
def akl(B:Nat)(r:Rdn)(v:AV)(L:List Blk):Prop:=(v=.sl [] 0 (some 0)/\bb r=[]/\r.length=0)\/∃i,B<i/\v=.gsl (bb r) r.length i 2/\L[i]?=some (.spare r.length 2)
theorem Yd(r:Rdn)(t v:List UInt8):bb (r++[(t,v)])=bb r++[.str t,.str v]:=by simp[bb,sD]
theorem jH(r:Rdn):AV.frzL (bb r)=bb r:=by
 induction r with
 |nil=>rfl
 |cons a r ih=>simpa[bb,sD,AV.frzL,AV.frz]using ih
theorem gD{L0 X:List Blk}{e:Int}{K:alp}(h:K (abf ([],e)) L0):Fin L0 (.tup [.sl [] 0 (some 0),.int .i64 e]) (L0++X) K:=bu (ab rfl h)
theorem uk(d:List Rdn):AV.frzL (d.map cL)=d.map cL:=by
 rw[AV.frzL_eq,al0];refine am5 λr _=>?_
 simp only[Function.comp,AV.frz,jH]
theorem aey(q:Nat->Bool)(r:Rdn):AV.refsL q (bb r)=true:=by
 induction r with
 |nil=>rfl
 |cons a r ih=>simpa[bb,sD,AV.refsL,AV.refs]using ih
theorem KZ(q:Nat->Bool):∀d:List Rdn,AV.refsL q (d.map cL)=true
 |[]=>rfl
 |r::d=>by simp only[alD,AV.refsL,AV.refs,aey,KZ q d,amr]
theorem uf(h:gh s=true):s.length<=32:=by simp only[gh,alx,decide_eq_true_eq]at h;exact h.1.1.2
theorem aj1{r:Rdn}{i n:Nat}(hr:r.length=n)(hn:n<=8)(h1:∀a∈r,a.1.length<=32)(h2:typ.length<=4096)(h:K (.bool (mH r typ)) L):
  alo 175 [.gsl (bb r) n i 2,.str typ] L K:=by
 subst hr;exact eY (by simpa only[AV.frzL,AV.frz,jH]using ajl (cap:=none) aoJ (λa ha=>by have:=h1 a ha;omega) aoJ h)
theorem aik(h:K (abf (xh s)) L):alo 139 [.str s] L K:=by
 refine ac W1 (by simp[PN]) ?_;simp only[PN,am];by_cases h1:4096<s.length;have f1:(4096:Int)<(s.length:Int):=aoJ;rw[xh,if_pos h1]at h;replace h:=hid h;clear h1;refine wk ?_;exact bu (aa h.o);have f1:¬(4096:Int)<(s.length:Int):=aoJ;rw[xh,if_neg h1]at h;by_cases h2:s=[];rw[if_pos h2]at h;replace h:=hid h;refine wk ?_;exact bu (aa h.o);rw[if_neg h2]at h;replace h:=hid h;have hs:=hid (show s.length<=4096 by omega);clear h1;obtain⟨R,hR⟩:=alj (sA (s.length+1) [] [] s);rw[hR]at h;refine wk ?_;refine bF (l:=[]) (n:=0) 4 1 rfl (alU 1).symm ?_;refine ah (λn T' L'=>∃(f m:Nat) (out:List Rdn) (now:Rdn) (u:List UInt8) (v:AV) (X:List Blk),f=n/\u.length<=4096/\m=out.length/\m<=32/\now.length<=8/\Hid (u.length<f/\sA f out now u=R/\(∀a∈now,a.1.length<=32)/\akl L.length now v L')/\L'[L.length]?=some (.spare m 1)/\T'=[(5,v),(4,.gsl (out.map cL) m L.length 1),(0,.str u)]/\L'=L++X) aoN ⟨s.length+1,0,[],[],s,_,[.spare 0 1],rfl,hs.o,rfl,aoJ,aoK,hid ⟨aoJ,hR,aoK,.inl ⟨rfl,rfl,rfl⟩⟩,aoK,rfl,rfl⟩ ?_;clear h2;clear hs;rintro _ _ _ ⟨f,m,out,now,u,v,X,rfl,hu,hm,hm32,hn8,hI,ho,rfl,rfl⟩;obtain⟨hf,hp,ht,hv⟩:=hI.o;clear hI;clear hR;obtain⟨f,rfl⟩:∃g,f=g+1:=⟨f-1,aoJ⟩;have hB:L.length<(L++X).length:=(alq.1 ho).1;refine Zd 5 2 L.length rfl hB hv λi Y hBi hi=>?_
 rw[alI]at hi⊢;have ho2:(L++(X++Y))[L.length]?=some (.spare m 1):=by rw[<- alI,aly hB];exact ho
 generalize X++Y=Z at hi ho2⊢;clear ho hB hv;have s5:∀A,(L++Z).set i A=L++Z.set (i-L.length) A:=λA=>amd _ _ aoJ
 have s4:∀(W:List Blk) A,(L++W).set L.length A=L++W.set 0 A:=λW A=>by rw[amd _ _ (alr _),amK]
 have hz:i-L.length≠0:=aoJ;have s54:∀A,(L++Z.set (i-L.length) A)[L.length]?=some (.spare m 1):=λA=>by rw[<- s5,alP aoJ];exact ho2
 have s55:∀A,(L++Z.set (i-L.length) A)[i]?=some A:=λA=>by rw[<- s5,alO,if_pos rfl,if_pos (alq.1 hi).1]
 have hul:=hu;obtain⟨c,hc⟩:∃c:Nat,now.length=c:=⟨_,rfl⟩;rw[sA]at hp;rw[hc]at hp hi hn8⊢;by_cases hlim:out.length=32\/c=8;rw[if_pos hlim]at hp;have h':=h.o;rw[<- hp]at h';replace h':=hid h';have k:(m:Int)=32\/(m:Int)≠32/\(c:Int)=8:=aoJ;clear hp hlim;clear hm;rcases k with k|⟨k,k'⟩;refine wk ?_;exact gD h'.o;refine wk ?_;exact gD h'.o;rw[if_neg hlim]at hp;have k1:¬(m:Int)=32:=aoJ;have k2:¬(c:Int)=8:=aoJ;replace hm:=hid hm;clear hlim;replace hp:=hid hp;replace ht:=hid ht;refine wk ?_;refine akP aoJ ?_;rcases hcut:mu u with _|⟨typ,rest⟩;rw[show V0 u=.tup [.str u,.str [],.bool false]by simp only[V0,hcut]];have h':=h.o;rw[<- hp.o,hcut]at h';simp only at h';replace h':=hid h';refine aoR ?_;exact gD h'.o;rw[show V0 u=.tup [.str typ,.str rest,.bool true]by simp only[V0,hcut]];have hp2:=hp.o;rw[hcut]at hp2;simp only at hp2;have hlen:=aav hcut;replace hp2:=hid hp2;clear hcut hp;refine sk ?_;cases hty:gh typ with
 | false =>
   have h':=h.o;rw[<- hp2.o,if_pos hty]at h';replace h':=hid h';have kk1:=@hid _ @Yk;refine wk ?_;exact gD h'.o
 | true =>
   have hp3:=hp2.o;rw[if_neg (by rw[hty];simp)]at hp3;replace hp3:=hid hp3;clear hp2;have kk1:=@hid _ @Yk;refine wk ?_;refine aj1 hc hn8 ht.o aoJ ?_;cases hha:mH now typ with
   | true =>
     have h':=h.o;rw[<- hp3.o,if_pos hha]at h';replace h':=hid h';refine aoR ?_;exact gD h'.o
   | false =>
     have hp4:=hp3.o;rw[if_neg (by rw[hha];simp)]at hp4;replace hp4:=hid hp4;clear hp3;refine aoR ?_;refine ahO aoJ ?_;rcases hvl:gf [] false rest with _|⟨w,r2,okk⟩
     .have h':=h.o;rw[<- hp4.o,hvl]at h';simp only at h';replace h':=hid h';simp only[ac5];refine aoR ?_;exact gD h'.o
     .have hp5:=hp4.o;rw[hvl]at hp5;simp only at hp5;have hl2:=ae0 _ (alr _) hvl;replace hp5:=hid hp5;clear hp4 hvl;simp only[ac5];refine sk ?_;cases okk with
      | false =>
        have h':=h.o;rw[<- hp5.o,if_pos rfl]at h';replace h':=hid h';refine wk ?_;exact gD h'.o
      | true =>
        have hp6:=hp5.o;rw[if_neg aoK]at hp6;replace hp6:=hid hp6;clear hp5;have q1:(c+1)*32<=140737488355328:=aoJ;have q2:c+1<=140737488355328:=aoJ;have q3:(m+1)*24<=140737488355328:=aoJ;have q4:m+1<=140737488355328:=aoJ;have e1:bb now++[AV.str typ,AV.str w]=bb (now++[(typ,w)]):=(Yd _ _ _).symm;have e2:out.map cL++[AV.sl (AV.frzL (bb now++[AV.str typ,AV.str w])) (c+1) none]=(out++[now++[(typ,w)]]).map cL:=by rw[e1,jH,alW];simp[hc]
        have e3:(out++[now++[(typ,w)]]).length=m+1:=(by simp[hm.o]);have e4:(now++[(typ,w)]).length=c+1:=(by simp[hc]);have e5:∀a∈now++[(typ,w)],a.1.length<=32:=λa ha=>by
         rcases alv.1 ha with h|h
         .exact ht.o a h
         .rw[alM.1 h];exact uf hty
        replace e1:=hid e1;replace e2:=hid e2;replace e3:=hid e3;replace e4:=hid e4;replace e5:=hid e5;cases r2 with
        | nil =>
          have h':=h.o;rw[<- hp6.o]at h';simp only at h';replace h':=hid h';refine wk ?_;rw[e2.o];refine bu (ab ?_ ?_)
          .simp only[AV.frz,AV.frzL,uk,AV.refs,AV.refsL,KZ,amr]
          .simp only[AV.frz,AV.frzL,uk];have:=h'.o;simp only[abf,e3.o]at this;exact this
        | cons x s' =>
          simp only at hp6;have q5:¬(x::s'=[]):=aoK;have q7:((s'.length:Int)+1).toNat-1=s'.length:=aoJ;have q8:s'.take (((s'.length:Int)+1).toNat-1)=s':=(by rw[q7,alF]);simp only[alA]at hl2;clear q7;replace q8:=hid q8;by_cases hx:x=44
          .subst hx;refine wk ?_;rw[q8.o,e2.o];refine aoO ?_ (CutS (b:=?_)) ⟨f,m+1,out++[now++[(typ,w)]],[],s',.sl [] 0 (some 0),_,rfl,aoJ,e3.o.symm,aoJ,aoK,hid ⟨aoJ,?_,aoK,.inl ⟨rfl,rfl,rfl⟩⟩,?_,rfl,rfl⟩
           .omega
           .have:=(alq.1 ho2).1;simp at this⊢;omega
           .rw[<- hp6.o,if_pos rfl]
           .have:=(alq.1 ho2).1;rw[<- s4,alO,if_pos rfl,if_pos (by simp at this⊢;omega)]
          .have q6:¬(x.toNat:Int)=44:=λe=>hx ((bz x 44).1 e)
           refine wk ?_;rw[q8.o,e1.o];refine aoO ?_ (CutS (b:=?_)) ⟨f,m,out,now++[(typ,w)],s',.gsl (bb (now++[(typ,w)])) (c+1) i 2,_,rfl,aoJ,hm.o,hm32,by rw[e4.o];omega,hid ⟨aoJ,?_,e5.o,.inr ⟨i,hBi,by rw[e4.o],by rw[e4.o];exact s55 _⟩⟩,s54 _,rfl,rfl⟩
           .omega
           .have:=(alq.1 ho2).1;simp at this⊢;omega
           .rw[<- hp6.o,if_neg hx]
def ek:Rdn->Rdn->Int
 |_,[]=>0
 |done,a::t=>if done.length=8 then 9 else if gh a.1=false then 20 else if mH done a.1=true then 21 else ek (done++[a]) t
def mI:Nat->List Rdn->Int
 |_,[]=>0
 |i,r::t=>if i=32 then 9 else if r=[]then 2 else if ek [] r≠0 then ek [] r else mI (i+1) t
theorem Pi{d:List Rdn}{k:Nat}(h:k<d.length):(d.map cL).getD k .undef=cL (d.getD k []):=by simp[h]
theorem Tp{r:Rdn}{k:Nat}:(bb r).take (k*2)=bb (r.take k):=by
 induction r generalizing k with
 |nil=>simp[bb]
 | cons a r ih =>
   cases k with
   |zero=>simp[bb]
   | succ k =>
     have:=@ih k;simp only[bb]at this;rw[show(k+1)*2=k*2+1+1 by omega];simp[bb,sD,this]
theorem aj0{r:Rdn}{n:Nat}(hr:r.length=n)(hn:n<=8)(h1:∀a∈r,a.1.length<=32)(h2:typ.length<=32)(h:K (.bool (mH r typ)) L):
  alo 175 [.sl (bb r) n cap,.str typ] L K:=by
 subst hr;exact ajl aoJ (λa ha=>by have:=h1 a ha;omega) aoJ h
theorem aiT{d:List Rdn}(hn:d.length<=1100000)(hr:∀r∈d,r.length<=1100000)(h:K (.int .i64 (mI 0 d)) L):alo 212 [.sl (d.map cL) d.length cap] L K:=by
 replace h:=hid h;have hat:=hid (λk=>@Pi d k);replace hr:=hid hr;refine aln WZ ?_;refine ah (λn T' L'=>∃(i:Nat) (X:List Blk),n=d.length-i/\i<=d.length/\i<=32/\Hid (mI i (d.drop i)=mI 0 d)/\T'=[(9,.int .i64 (i:Int)),(8,.int .i64 d.length),(7,.sl (d.map cL) d.length cap)]/\L'=L++X) aoN ⟨0,[],rfl,alw _,aoJ,hid rfl,rfl,aoK⟩ ?_;rintro _ _ _ ⟨i,X,rfl,hi,hi32,he,rfl,rfl⟩;by_cases hlt:i<d.length
 .have g1:(i:Int)<(d.length:Int):=aoJ;have g2:=alm i aoJ;have e2:=hat.o i hlt;have hrl:=hr.o (d.getD i []) (by rw[alR,alH hlt];exact amu _);obtain⟨r,hri⟩:=alj (d.getD i []);have hdr:d.drop i=r::d.drop (i+1):=(by rw[ama hlt,<- hri];simp[hlt]);rw[hri]at e2 hrl;have he2:=he.o;rw[hdr,mI]at he2;clear hdr hri;by_cases h32:i=32;rw[if_pos h32]at he2;have h':=h.o;rw[<- he2]at h';replace h':=hid h';have k1:(i:Int)=32:=aoJ;have g1':(32:Int)<(d.length:Int):=aoJ;clear h32 he2;refine wk ?_;exact ab rfl h'.o;rw[if_neg h32]at he2;have k1:¬(i:Int)=32:=aoJ;by_cases hr0:r=[];rw[if_pos hr0]at he2;subst hr0;have h':=h.o;rw[<- he2]at h';replace h':=hid h';clear h32 he2;refine wk ?_;exact ab rfl h'.o;rw[if_neg hr0]at he2;have k2:¬(r.length:Int)=0:=(by have:=amH.2 hr0;omega);have herr:∀e:Int,ek [] r=e->e≠0->K (.int .i64 e) L:=λe a1 a2=>by rw[if_pos (by rw[a1];exact a2),a1]at he2;rw[he2];exact h.o
  replace herr:=hid herr;replace he2:=hid he2;clear h32;refine wk ?_;refine ah (λn T' L'=>∃(k:Nat) (Y:List Blk),n=r.length-k/\k<=r.length/\k<=8/\Hid (ek (r.take k) (r.drop k)=ek [] r/\∀a∈r.take k,a.1.length<=32)/\T'=[(23,.int .i64 (k:Int)),(22,.int .i64 r.length),(21,cL r),(4,cL r),(9,.int .i64 (i:Int)),(8,.int .i64 d.length),(7,.sl (d.map cL) d.length cap)]/\L'=L++(X++Y)) aoN ⟨0,[],rfl,alw _,aoJ,hid ⟨rfl,aoK⟩,rfl,aoK⟩ ?_;rintro _ _ _ ⟨k,Y,rfl,hk,hk8,hrow,rfl,rfl⟩;by_cases hkl:k<r.length
  .have g3:(k:Int)<(r.length:Int):=aoJ;have g4:=alm k aoJ;have e3:=gy hkl;have e4:k*2+2<=(bb r).length:=(by rw[dW];omega);obtain⟨⟨ty,va⟩,ha⟩:∃a,r.getD k ([],[])=a:=⟨_,rfl⟩;have hdk:r.drop k=(ty,va)::r.drop (k+1):=(by rw[ama hkl,<- ha];simp[hkl]);have htk:r.take (k+1)=r.take k++[(ty,va)]:=(by rw[alN hkl,<- ha];simp[hkl]);rw[ha]at e3;simp only[sD]at e3;obtain⟨hr1,hr2⟩:=hrow.o;rw[hdk,ek]at hr1;have hlk:(r.take k).length=k:=(by simp;omega);rw[hlk]at hr1;clear hdk ha hrow;have e5:(bb r).take (k*2)=bb (r.take k):=Tp;have g5:(k:Int)<=(r.length:Int):=aoJ;replace hr1:=hid hr1;replace hr2:=hid hr2;replace htk:=hid htk;have e6:=hid hlk;clear hlk
   repeat' first
    |refine bd ?_
    | (first|refine aV aoL ?_|refine aB aoL ?_|refine aE ?_|refine bJ ?_|refine bg (fun _=>?_)|refine ax ?_|refine aY ?_)
      refine sm ?_
    | (first|refine aO aoL ?_|refine aP ?_|refine aD ?_|refine aW ?_|refine bq (aw ?_))
      refine sl ?_
    |exact bh
    |first|apply bj|apply aR|apply bm|apply aS|apply bo|apply aT
    |refine aH ?_
    |refine aC ?_
    |first|refine aF rfl ?_|refine aG rfl ?_|refine ao rfl ?_ ?_|refine aJ rfl (λ_=>?_) (λ_=>?_)|refine aI rfl (λ_=>?_) (λ_=>?_)
    |((first|refine an (λ_=>?_) (λ_=>?_)|refine au (λ_=>?_) (λ_=>?_))<;>try refine sm ?_)
    |refine And.intro trivial ?_
    |refine And.intro aoJ ?_
    |refine aL rfl (λ_=>?_) (λ_=>?_)
    |refine And.intro ?_ ?_
   rename_i h8;have h':=herr.o 9 (by rw[<- hr1.o,if_pos aoJ]) (by decide);exact ab rfl h';rename_i h8;have hr3:=hr1.o;rw[if_neg aoJ]at hr3;refine Yk ?_;cases hty:gh ty with
   | false =>
     have h':=hid (herr.o 20 (by rw[<- hr3,if_pos hty]) (by decide));clear hr3;refine aoR ?_;exact ab rfl h'.o
   | true =>
     rw[if_neg (by rw[hty];simp)]at hr3;replace hr3:=hid hr3;have htl:=uf hty;refine aoR ?_;refine aA (aj0 e6.o aoJ hr2.o htl ⟨rfl,rfl⟩) ?_;cases hha:mH (r.take k) ty with
     | true =>
       have h':=hid (herr.o 21 (by rw[<- hr3.o,if_pos hha]) (by decide));refine aoR ?_;exact ab rfl h'.o
     | false =>
       have hr4:=hr3.o;rw[if_neg (by rw[hha];simp),<- htk.o]at hr4;replace hr4:=hid hr4;clear hr3;refine aoR ?_;refine aoO aoJ aoN ⟨k+1,Y++[.cells [.str ty,.str va]],rfl,hkl,aoJ,hid ⟨hr4.o,λa ha=>?_⟩,rfl,aoK⟩;rw[htk.o]at ha;rcases alv.1 ha with h|h
       .exact hr2.o a h
       .rw[alM.1 h];exact htl
  have hke:k=r.length:=aoJ;subst hke;have g3:¬(r.length:Int)<(r.length:Int):=aoJ;have hz:=hrow.o.1;rw[al6,ek]at hz;have he3:=he2.o;rw[<- hz]at he3;simp only[ne_eq,not_true_eq_false,if_false]at he3;replace he3:=hid he3;clear hz;refine wk ?_;exact aoO aoJ aoN ⟨i+1,X++Y,rfl,hlt,aoJ,hid he3.o,rfl,rfl⟩
 have hke:i=d.length:=aoJ;subst hke;have g1:¬(d.length:Int)<(d.length:Int):=aoJ;have h':=h.o;rw[<- he.o,al6,mI]at h';replace h':=hid h';refine wk ?_;exact ab rfl h'.o
end Go.Proofs.YtcmfcpjnhephaaaGreatDoor.Av
namespace Go.Proofs
open Go.Shelf
def Tryz.lays190_ren:Go.Shelf.Ren:=⟨λ|190=>214|125=>149|258=>235|128=>187|129=>188|302=>243|303=>244|304=>245|305=>246|306=>247|307=>248|308=>249|309=>250|310=>251|333=>254|329=>217|330=>218|334=>255|335=>256|336=>257|344=>260|n=>n,λ|31=>22|9=>9|3=>3|46=>176|0=>0|51=>76|53=>232|4=>4|183=>240|182=>239|131=>133|5=>5|218=>265|222=>125|228=>288|229=>156|n=>n,λ|n=>n⟩
theorem Tryz.lays190:Go.Proofs.Lays.n190 Tryz.prog Tryz.lays190_ren:={
 mixed:=by kernel_rfl
 f125:=Tryz.func149.trans (congrArg some (by kernel_rfl))
 f128:=Tryz.func187.trans (congrArg some (by kernel_rfl))
 f129:=Tryz.func188.trans (congrArg some (by kernel_rfl))
 f190:=Tryz.func214.trans (congrArg some (by kernel_rfl))
 f258:=Tryz.func235.trans (congrArg some (by kernel_rfl))
 f302:=Tryz.func243.trans (congrArg some (by kernel_rfl))
 f303:=Tryz.func244.trans (congrArg some (by kernel_rfl))
 f304:=Tryz.func245.trans (congrArg some (by kernel_rfl))
 f305:=Tryz.func246.trans (congrArg some (by kernel_rfl))
 f306:=Tryz.func247.trans (congrArg some (by kernel_rfl))
 f307:=Tryz.func248.trans (congrArg some (by kernel_rfl))
 f308:=Tryz.func249.trans (congrArg some (by kernel_rfl))
 f309:=Tryz.func250.trans (congrArg some (by kernel_rfl))
 f310:=Tryz.func251.trans (congrArg some (by kernel_rfl))
 f329:=Tryz.func217.trans (congrArg some (by kernel_rfl))
 f330:=Tryz.func218.trans (congrArg some (by kernel_rfl))
 f333:=Tryz.func254.trans (congrArg some (by kernel_rfl))
 f334:=Tryz.func255.trans (congrArg some (by kernel_rfl))
 f335:=Tryz.func256.trans (congrArg some (by kernel_rfl))
 f336:=Tryz.func257.trans (congrArg some (by kernel_rfl))
 f344:=Tryz.func260.trans (congrArg some (by kernel_rfl))
 t0:=Tryz.underlying0
 a0:=Tryz.isAgg0
 z0:=Tryz.sizeOf0
 v0:=Tryz.zeroValue0
 t3:=Tryz.underlying3
 a3:=Tryz.isAgg3
 z3:=Tryz.sizeOf3
 v3:=Tryz.zeroValue3
 t4:=Tryz.underlying4
 a4:=Tryz.isAgg4
 z4:=Tryz.sizeOf4
 v4:=Tryz.zeroValue4
 t5:=Tryz.underlying5
 a5:=Tryz.isAgg5
 z5:=Tryz.sizeOf5
 v5:=Tryz.zeroValue5
 t9:=Tryz.underlying9
 a9:=Tryz.isAgg9
 z9:=Tryz.sizeOf9
 v9:=Tryz.zeroValue9
 t31:=Tryz.underlying22
 a31:=Tryz.isAgg22
 z31:=Tryz.sizeOf22
 v31:=Tryz.zeroValue22
 t46:=Tryz.underlying176
 a46:=Tryz.isAgg176
 z46:=Tryz.sizeOf176
 v46:=Tryz.zeroValue176
 t51:=Tryz.underlying76
 a51:=Tryz.isAgg76
 z51:=Tryz.sizeOf76
 v51:=Tryz.zeroValue76
 t53:=Tryz.underlying232
 a53:=Tryz.isAgg232
 z53:=Tryz.sizeOf232
 v53:=Tryz.zeroValue232
 t131:=Tryz.underlying133
 a131:=Tryz.isAgg133
 z131:=Tryz.sizeOf133
 v131:=Tryz.zeroValue133
 t182:=Tryz.underlying239
 a182:=Tryz.isAgg239
 z182:=Tryz.sizeOf239
 v182:=Tryz.zeroValue239
 t183:=Tryz.underlying240
 a183:=Tryz.isAgg240
 z183:=Tryz.sizeOf240
 v183:=Tryz.zeroValue240
 t218:=Tryz.underlying265
 a218:=Tryz.isAgg265
 z218:=Tryz.sizeOf265
 v218:=Tryz.zeroValue265
 t222:=Tryz.underlying125
 a222:=Tryz.isAgg125
 z222:=Tryz.sizeOf125
 v222:=Tryz.zeroValue125
 t228:=Tryz.underlying288
 a228:=Tryz.isAgg288
 z228:=Tryz.sizeOf288
 v228:=Tryz.zeroValue288
 t229:=Tryz.underlying156
 a229:=Tryz.isAgg156
 z229:=Tryz.sizeOf156
 v229:=Tryz.zeroValue156}
open Go.Sort Go.RowKit in
theorem Tryz.slices_Sort_string(blk off cap:Nat)(ss:List (List UInt8))(w:World)(hH:Holds encStr w blk off ss.toArray)(hblk:blk<w.heap.size)(hsz:ss.length<4611686018427387904):
 Calls Tryz.prog 214 #[.slice (some ⟨blk,off,none⟩) ss.length cap] w λe w' =>
  e=.returned (.tuple #[])/\∃n os,w'=grow (putRow encStr (Sort.ahead w n) blk off (ss.mergeSort λx y=>decide (x<=y)).toArray) os:=Any.slices_Sort_string Tryz.lays190 blk off cap ss w hH hblk hsz
open Go.RowKit Go.Sort in
theorem Tryz.slices_Sort_string_none(p:Option Addr)(cap:Nat)(w:World):
 Calls Tryz.prog 214 #[.slice p 0 cap] w λe w'=>e=.returned (.tuple #[])/\w'=w:=Any.slices_Sort_string_none Tryz.lays190 p cap w
end Go.Proofs
