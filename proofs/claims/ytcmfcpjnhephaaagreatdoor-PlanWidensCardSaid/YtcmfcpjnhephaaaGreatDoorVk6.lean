/- Joined texts of the walk, made small by a program. -/
import Derived.Test.YtcmfcpjnhephaaaGreatDoorVk4
import Derived.Test.YtcmfcpjnhephaaaGreatDoorRows
import Derived.KernelRfl
import Derived.Test.YtcmfcpjnhephaaaGreatDoorVk5
import Derived.Laws.RangeAny
import Derived.Laws.RangeString
import Derived.Shelf.Strings.Builder1
import Derived.Shelf.Strings.Builder2
import Derived.Shelf.Strings.OnBuilder
import Derived.Shelf.Small.Bits
import Derived.Shelf.Small.Strs
import Derived.Shelf.Strconv.Itoa0
import Derived.Shelf.Strconv.Itoa1
import Derived.Shelf.LaysM
import Derived.Shelf.Strconv.Itoa2
import Derived.Shelf.Strconv.Itoa3
import Derived.Shelf.Strconv.Itoa4
import Derived.Shelf.Strconv.ParseIntEmpty
import Derived.Shelf.Strconv.Clone
import Derived.Shelf.Strconv.SyntaxError
import Derived.Shelf.LaysC
import Derived.Shelf.Strconv.ToError
import Derived.Shelf.Strconv.Lower
import Derived.Shelf.Strconv.ParseUint10
import Derived.Shelf.Strconv.ParseUint10Empty
import Derived.Shelf.Strconv.ParseUint10Any
import Derived.Shelf.Strconv.ParseInt10
import Derived.Shelf.Strconv.RangeError
import Derived.Shelf.Strconv.ToErrorRange
import Derived.Shelf.Strconv.ParseUintEmpty
import Derived.Shelf.Strconv.ParseUint10b64
import Derived.Shelf.Strconv.ParseUint10b32
import Derived.Shelf.Strconv.ParseUint10b16
import Derived.Shelf.Strconv.ParseUint10b8
import Derived.Shelf.Strconv.ParseUint10At
import Derived.Shelf.Strconv.ParseInt10At64
import Derived.Shelf.Strconv.ParseInt10At32
import Derived.Shelf.Strconv.ParseInt10At16
import Derived.Shelf.Strconv.ParseInt10At8
import Derived.Shelf.Strconv.ParseInt10All
import Derived.Shelf.Strconv.ParseIntPublic10
import Derived.Shelf.Strconv.ErrVarParseInt
import Derived.Shelf.Strings.Search1
import Derived.Shelf.Strings.Search2
import Derived.Shelf.Strings.Search3
import Derived.Shelf.Strings.Cut
import Derived.Shelf.Strings.Shaped
import Derived.Shelf.Sort.Plain
import Derived.Shelf.GgClosure.StringsIndexFunc
import Derived.Ground.GgwProg
import Derived.Shelf.GgClosure.StringsIndexFuncTop
import Derived.Shelf.GgClosure.StringsRunes
import Derived.Shelf.Strings.Prefix
import Derived.Shelf.Slices.In.SortNone
import Derived.Test.YtcmfcpjnhephaaaGreatDoorProg
set_option linter.unusedSimpArgs false
set_option linter.unusedVariables false
set_option maxRecDepth 100000
namespace Go.Proofs.YtcmfcpjnhephaaaGreatDoor.Av
open Go
def G6:LSO:=[Ao 2]
def G5:LSO:=[Aa 6 0,o1 7 (.s2bO (tm 6)),Aa 3 7]
def G4:LSO:=[Aa 8 3,Am 9 8,Ac 10 0]
def G3:LSO:=[Al 11 10 9]
def G2:LSO:=[Aa 12 10,An 13 1 8 10,Ab 14 1 13,Aa 4 12,Aa 5 14]
def G1:LSO:=[Aa 15 5,Cf 16 15,Aa 17 16,.grp none 17 true
 [Ae 18 17 5,og 19 17 true (.bin .leq (tm 18) (.av (.int .u8 90)))]
 20 (tm 19)]
def G0:LSO:=[Aa 21 3,Aa 22 4,Aa 23 5,o1 24 (.bin .add (tm 23) (.av (.int .u8 32))),An 25 1 21 22,Ai 1 25 24]
def GZ:LSO:=[Ag 26 10 1,Aa 10 26]
def GY:LSO:=[Aa 27 3,AN 28 27,Aa 2 28]
def wh:aO:=⟨29,(akg G6 [] (akg G5 Cr (.seq (akg G4 [] (akj 0 (akg G3 [] (.seq (akk 11 0) (.seq (.block 1 (akg G2 Cz (akg G1 Cs (akh 20 (.sreg G0 C0) .skip)))) (.sreg GZ Cq)))))) (akg GY Cr .ret)))),[(.tmp 2)]⟩
attribute [push_cast] G6 G5 G4 G3 G2 G1 G0 GZ GY
theorem Qp:aR Tryz.prog (λr i=>if r=1/\i=1 then 2 else 1) 38=some wh.raw:=by kernel_rfl
def GX:LSO:=[Ao 2]
def GW:LSO:=[Aj 3]
def GV:LSO:=[Aa 6 0,Ak 7 38 6,o1 8 (.s2b (tm 7)),Am 9 8,Ac 10 0]
def GU:LSO:=[Al 11 10 9]
def GT:LSO:=[An 12 1 8 10,Ab 13 1 12,Aa 5 13]
def GR:LSO:=[Aa 14 5,o1 15 (.bin .eql (tm 14) (.av (.int .u8 32))),Aa 16 15,.grp none 16 true
 [Ae 17 16 3,AT 18 16 17,Bb 19 16 18 0,Ae 20 16 19,.grp (some (16,true)) 20 false
 [Ah 21 20 3,Ah 22 20 3,Bf 23 20 22,Cd 24 20 23 1,og 25 20 false (.iaddr 1 (tm 21) (tm 24)),AI 26 20 1 25,Cg 27 20 26]
 28 (tm 27)]
 29 (tm 28)]
def GP:LSO:=[Aa 30 3,Aa 31 5,AK 32 31,AD 33 30 32,Aa 3 33]
def GN:LSO:=[Ag 34 10 1,Aa 10 34]
def GM:LSO:=[Aa 35 3,Am 36 35,A3 37 36 0,Aa 38 37,.grp none 38 true
 [Ae 39 38 3,Ae 40 38 3,AT 41 38 40,BJ 42 38 41 1,BD 43 38 1 39 42,A7 44 38 1 43,Br 45 38 44]
 46 (tm 45)]
def GK:LSO:=[Aa 47 3,Aa 48 3,Am 49 48,Bi 50 49 1,o1 51 (.slV 1 (tm 47) none (some (tm 50)) none),Aa 3 51]
def zL:LSO:=[Aa 52 3,AN 53 52,Aa 2 53]
def wg:aO:=⟨54,(akg GX [] (akg GW [] (.seq (akg GV CL (akj 0 (akg GU [] (.seq (akk 11 0) (.seq (.block 1 (akg GT Cr (.seq (akg GR Cs (akh 29 (.exit 1) .skip)) (.sreg GP Ct)))) (.sreg GN Cq)))))) (.seq (akg GM Ct (akh 46 (.sreg GK Cu) .skip)) (akg zL Cr .ret))))),[(.tmp 2)]⟩
attribute [push_cast] GX GW GV GU GT GR GP GN GM GK zL
theorem Qo:akl 95=akm wg:=by kernel_rfl
def Gf:LSO:=[Ao 2]
def Ge:LSO:=[Aj 3]
def Gd:LSO:=[Ac 4 0]
def Gc:LSO:=[Aa 6 4,Aa 7 0,Au 8 7,Al 9 6 8]
def Gb:LSO:=[Aa 12 0,Aa 13 4,AA 14 12 13,Aa 5 14]
def Ga:LSO:=[Aa 15 5,Cf 16 15,Aa 17 16,.grp none 17 true
 [Ae 18 17 5,og 19 17 true (.bin .leq (tm 18) (.av (.int .u8 90)))]
 20 (tm 19)]
def F9:LSO:=[Aa 21 5,o1 22 (.bin .sub (tm 21) (.av (.int .u8 65))),o1 23 (.bin .add (tm 22) (.av (.int .u8 97))),Aa 5 23]
def F8:LSO:=[Aa 24 3,Aa 25 5,AK 26 25,AD 27 24 26,Aa 3 27]
def F7:LSO:=[Aa 10 4,Ag 11 10 1,Aa 4 11]
def F6:LSO:=[Aa 28 3,AN 29 28,Aa 2 29]
def wb:aO:=⟨30,(akg Gf [] (akg Ge [] (.seq (akg Gd [] (akj 0 (.seq (akg Gc Cs (akk 9 0)) (.seq (.block 1 (akg Gb Cs (.seq (akg Ga Cs (akh 20 (.sreg F9 Cs) .skip)) (.sreg F8 Ct)))) (.sreg F7 Cr))))) (akg F6 Cr .ret)))),[(.tmp 2)]⟩
attribute [push_cast] Gf Ge Gd Gc Gb Ga F9 F8 F7 F6
theorem Qm:akl 39=akm wb:=by kernel_rfl
def F5:LSO:=[Ao 2]
def F4:LSO:=[Aa 8 0,Ak 9 39 8,Aa 3 9]
def F3:LSO:=[Aj 4]
def F2:LSO:=[Ac 5 0]
def F1:LSO:=[Aa 10 5,Aa 11 3,Au 12 11,Al 13 10 12]
def F0:LSO:=[Af 6]
def FZ:LSO:=[Aa 16 5,Aa 7 16]
def FY:LSO:=[Aa 17 7,Aa 18 3,Au 19 18,Al 20 17 19,Aa 21 20,.grp none 21 true
 [Ae 22 21 6,B9 23 21 22]
 24 (tm 23)]
def FX:LSO:=[Aa 27 3,Aa 28 7,AA 29 27 28,o1 30 (.bin .neq (tm 29) (.av (.int .u8 32))),Aa 6 30]
def FW:LSO:=[Aa 25 7,Ag 26 25 1,Aa 7 26]
def zd:LSO:=[Aa 31 6,Ay 32 31,Aa 33 32,.grp none 33 false
 [Ah 34 33 3,Ah 35 33 5,Bp 36 33 34 35,Cg 37 33 36,Ah 38 33 37,.grp (some (33,false)) 38 true
 [Ae 39 38 4,AT 40 38 39,Bb 41 38 40 0,Ae 42 38 41,.grp (some (38,true)) 42 false
 [Ah 43 42 3,Ah 44 42 5,Cd 45 42 44 1,Bp 46 42 43 45,Cg 47 42 46]
 48 (tm 47)]
 49 (tm 48)]
 50 (tm 49)]
def zc:LSO:=[Aa 51 4,Aa 52 3,Aa 53 5,AA 54 52 53,AK 55 54,AD 56 51 55,Aa 4 56]
def zb:LSO:=[Aa 14 5,Ag 15 14 1,Aa 5 15]
def za:LSO:=[Aa 57 4,AN 58 57,Aa 2 58]
def wa:aO:=⟨59,(akg F5 [] (akg F4 Cr (akg F3 [] (.seq (akg F2 [] (akj 0 (.seq (akg F1 Cs (akk 13 0)) (.seq (.block 1 (akg F0 [] (.seq (akg FZ Cq (akj 2 (.seq (akg FY Cu (akk 24 2)) (.seq (.block 3 (.sreg FX Ct)) (.sreg FW Cr))))) (.seq (akg zd Cs (akh 50 (.exit 1) .skip)) (.sreg zc Cw))))) (.sreg zb Cr))))) (akg za Cr .ret))))),[(.tmp 2)]⟩
attribute [push_cast] F5 F4 F3 F2 F1 F0 FZ FY FX FW zd zc zb za
theorem Ql:akl 90=akm wa:=by kernel_rfl
def GJ:LSO:=[Ch 2,Af 3]
def GI:LSO:=[Aa 5 0,o1 6 (.bin .geq (tm 5) (.av (.int .u8 48))),Aa 7 6,.grp none 7 true
 [Ae 8 7 0,og 9 7 true (.bin .leq (tm 8) (.av (.int .u8 57)))]
 10 (tm 9),Aa 4 10]
def GH:LSO:=[Aa 11 0,BG 12 11,Aa 2 12,A0 3]
def GF:LSO:=[Aa 14 0,o1 15 (.bin .geq (tm 14) (.av (.int .u8 97))),Aa 16 15,.grp none 16 true
 [Ae 17 16 0,og 18 16 true (.bin .leq (tm 17) (.av (.int .u8 102)))]
 19 (tm 18),Aa 13 19]
def GE:LSO:=[Aa 20 0,o1 21 (.bin .sub (tm 20) (.av (.int .u8 97))),o1 22 (.bin .add (tm 21) (.av (.int .u8 10))),Aa 2 22,A0 3]
def GD:LSO:=[Aa 24 0,Cf 25 24,Aa 26 25,.grp none 26 true
 [Ae 27 26 0,og 28 26 true (.bin .leq (tm 27) (.av (.int .u8 70)))]
 29 (tm 28),Aa 23 29]
def GC:LSO:=[Aa 30 0,o1 31 (.bin .sub (tm 30) (.av (.int .u8 65))),o1 32 (.bin .add (tm 31) (.av (.int .u8 10))),Aa 2 32,A0 3]
def GB:LSO:=[Ch 2,Af 3]
def wc:aO:=⟨33,(akg GJ [] (.seq (.block 0 (akg GI Ct (akh 4 (akg GH C7 .ret) (akg GF Ct (akh 13 (akg GE Cz .ret) (akg GD Ct (aki 23 (.sreg GC Cz)))))))) (akg GB [] .ret))),[(.tmp 2),(.tmp 3)]⟩
attribute [push_cast] GJ GI GH GF GE GD GC GB
theorem Qn:akl 234=akm wc:=by kernel_rfl
def zK:LSO:=[Ao 2,Af 3]
def zJ:LSO:=[Aa 10 0,Au 11 10,o1 12 (.bin .rem (tm 11) (iv 2)),Aq 13 12 1]
def zI:LSO:=[Ao 2,Af 3]
def zH:LSO:=[Aa 14 0,Au 15 14,o1 16 (.bin .quo (tm 15) (iv 2)),o1 17 (.mkslice 1 1 [(.int .u8 0)] (iv 0) (tm 16)),Aa 4 17]
def zG:LSO:=[Ac 5 0]
def zF:LSO:=[Aa 18 5,Aa 19 0,Au 20 19,Al 21 18 20]
def zE:LSO:=[Aa 25 0,Aa 26 5,AA 27 25 26,Ak 28 234 27,Aa 24 28,Ar 29 24,Aw 30 24,Aa 6 29,Aa 7 30]
def zD:LSO:=[Aa 32 0,Aa 33 5,Ag 34 33 1,AA 35 32 34,Ak 36 234 35,Aa 31 36,Ar 37 31,Aw 38 31,Aa 8 37,Aa 9 38]
def zC:LSO:=[Aa 39 7,Ay 40 39,Aa 41 40,.grp none 41 false
 [Ah 42 41 9,Bk 43 41 42]
 44 (tm 43)]
def zB:LSO:=[Ao 2,Af 3]
def uS:LSO:=[Aa 45 4,Aa 46 6,o1 47 (.bin .shl (tm 46) (.av (.int .u64 4))),Aa 48 8,o1 49 (.bin .or (tm 47) (tm 48)),AK 50 49,AD 51 45 50,Aa 4 51]
def uR:LSO:=[Aa 22 5,Ag 23 22 2,Aa 5 23]
def uQ:LSO:=[Aa 52 4,AN 53 52,Aa 2 53,A0 3]
def rM:aO:=⟨54,(akg zK [] (.seq (akg zJ Cs (aki 13 (.sreg zI []))) (akg zH Ct (.seq (akg zG [] (akj 0 (.seq (akg zF Cs (akk 21 0)) (.seq (.block 1 (akg zE CF (akg zD CN (.seq (akg zC Cs (aki 44 (.sreg zB []))) (.sreg uS Cx))))) (.sreg uR Cr))))) (akg uQ C7 .ret))))),[(.tmp 2),(.tmp 3)]⟩
attribute [push_cast] zK zJ zI zH zG zF zE zD zC zB uS uR uQ
theorem O8:akl 211=akm rM:=by kernel_rfl
def yV:LSO:=[Ch 2]
def yU:LSO:=[Aa 3 0,o1 4 (.bin .lss (tm 3) (.av (.int .u8 10)))]
def yT:LSO:=[Aa 5 0,o1 6 (.bin .add (.av (.int .u8 48)) (tm 5)),Aa 2 6]
def yS:LSO:=[Aa 7 0,o1 8 (.bin .add (.av (.int .u8 97)) (tm 7)),o1 9 (.bin .sub (tm 8) (.av (.int .u8 10))),Aa 2 9]
def rJ:aO:=⟨10,(akg yV [] (.seq (akg yU Cq (aki 4 (.sreg yT Cr))) (akg yS Cs .ret))),[(.tmp 2)]⟩
attribute [push_cast] yV yU yT yS
theorem O5:akl 221=akm rJ:=by kernel_rfl
def y9:LSO:=[Ao 2,Af 3]
def y8:LSO:=[Aj 4]
def y7:LSO:=[Aa 9 0,Ak 10 39 9,Aa 5 10]
def y6:LSO:=[Ac 6 0]
def y5:LSO:=[Aa 11 6,Ag 12 11 1,Aa 13 5,Au 14 13,Al 15 12 14]
def y0:LSO:=[Af 7]
def yZ:LSO:=[Ac 8 0]
def yY:LSO:=[Aa 18 8,AH 19 18 256,Aa 20 19,.grp none 20 true
 [Ae 21 20 7,B9 22 20 21]
 23 (tm 22)]
def yX:LSO:=[Aa 26 8,o1 27 (.bin .quo (tm 26) (iv 16)),o1 28 (.conv .u8 (tm 27)),Ak 29 221 28,Aa 30 5,Aa 31 6,AA 32 30 31,AC 33 29 32,Aa 34 33,.grp none 34 true
 [Ae 35 34 8,BF 36 34 35 16,og 37 34 true (.conv .u8 (tm 36)),AJ 38 34 221 37,Ae 39 34 5,Ae 40 34 6,Cb 41 34 40 1,AS 42 34 39 41,BW 43 34 38 42]
 44 (tm 43)]
def yW:LSO:=[Aa 45 4,Aa 46 8,o1 47 (.conv .u8 (tm 46)),AK 48 47,AD 49 45 48,Aa 4 49]
def uP:LSO:=[A0 7]
def uO:LSO:=[Aa 24 8,Ag 25 24 1,Aa 8 25]
def uN:LSO:=[Aa 50 7,Ay 51 50]
def uM:LSO:=[Ao 2,Af 3]
def uL:LSO:=[Aa 16 6,Ag 17 16 2,Aa 6 17]
def uK:LSO:=[Aa 52 0,Au 53 52,o1 54 (.bin .rem (tm 53) (iv 2)),Aq 55 54 1]
def uJ:LSO:=[Ao 2,Af 3]
def uI:LSO:=[Aa 56 4,AN 57 56,Aa 2 57,A0 3]
def rK:aO:=⟨58,(akg y9 [] (akg y8 [] (akg y7 Cr (.seq (akg y6 [] (akj 0 (.seq (akg y5 Ct (akk 15 0)) (.seq (.block 1 (akg y0 [] (.seq (akg yZ [] (akj 2 (.seq (akg yY Cs (akk 23 2)) (.seq (.block 3 (.seq (.sdreg yX [.pure,.pure,.pure,(.read 0 0),.pure,.pure,(.read 0 0),.pure,.pure,.pure,.pure,.pure,(.read 0 0),.pure,.pure,.pure,(.read 0 0)] CD) (akh 44 (akg yW Cu (.sreg uP [])) .skip))) (.sreg uO Cr))))) (akg uN Cq (aki 51 (.sreg uM [])))))) (.sreg uL Cr))))) (.seq (akg uK Cs (aki 55 (.sreg uJ []))) (akg uI C7 .ret)))))),[(.tmp 2),(.tmp 3)]⟩
attribute [push_cast] y9 y8 y7 y6 y5 y0 yZ yY yX yW uP uO uN uM uL uK uJ uI
theorem O6:akl 189=akm rK:=by kernel_rfl
attribute [push_cast] wh wb rM rK
variable {L:List Blk}{K:ag7}
set_option maxHeartbeats 8000000
set_option maxRecDepth 100000
def dN(c:UInt8):UInt8:=if 65<=c.toNat/\c.toNat<=90 then c+32 else c
def af(s:List UInt8):List UInt8:=s.map dN
theorem UD{c:UInt8}(h1:65<=c.toNat)(h2:c.toNat<=90):((dN c).toNat:Int)=(c.toNat:Int)+32:=by rw[dN,if_pos ⟨h1,h2⟩,UInt8.toNat_add];have:(32:UInt8).toNat=32:=rfl;omega
theorem vf{c:UInt8}(h:¬(65<=c.toNat/\c.toNat<=90)):dN c=c:=by rw[dN,if_neg h]
theorem iZ(l:List UInt8):(u8s l).all UI=true:=by simp only[u8s,List.all_map,ahk];intro x _;have:=x.toNat_lt;simp[UI]
theorem gw(l:List UInt8):(u8s l).map On=l:=by
 induction l with
 |nil=>rfl
 | cons x l ih =>
   simp only[u8s,ahl,ahK]at ih⊢;rw[ih];simp[On]
theorem Qt(l:List UInt8)(c:UInt8):u8s (l++[c])=u8s l++[.int .u8 c.toNat]:=by simp[u8s]
theorem RF{s:List UInt8}{k:Nat}(h:k<s.length):af (s.take (k+1))=af (s.take k)++[dN (s.getD k 0)]:=by rw[ahw h,af,ahE];simp[af,h]
theorem ce{s:List UInt8}(hs:(s.length:Int)<=140737488351232)(h:K (.str (af s)) L):ag6 39 [.str s] L K:=by
 replace h:=hid h;refine ag5 Qm ?_;refine bX (l:=[]) (n:=0) 3 1 rfl (ahD 1).symm ?_;refine ak (λn T' L'=>∃(k:Nat) (v:List AV),n=s.length-k/\k<=s.length/\v=u8s (af (s.take k))/\T'=[(4,.int .i64 (k:Int)),(3,.gsl v k L.length 1),(2,.str []),(0,.str s)]/\L'=L++[.spare k 1]) (CutS (b:=by simp)) ⟨0,[],rfl,ahf _,rfl,rfl,rfl⟩ ?_;rintro _ _ _ ⟨k,v,rfl,hk,rfl,rfl,rfl⟩;by_cases hlt:k<s.length
 .have h1:(k:Int)<(s.length:Int):=(by omega);have h2:=ag4 k (by omega);have hsucc:=hid (RF hlt);have e:s.getD k 0=s.getD k 0:=rfl;obtain⟨c,hc⟩:=ag2 (s.getD k 0);rw[hc]at hsucc;have hc255:=c.toNat_lt;by_cases hu:65<=c.toNat/\c.toNat<=90;have u1:(65:Int)<=(c.toNat:Int):=(by omega);have u2:(c.toNat:Int)<=90:=(by omega);have u3:=hid (UD hu.1 hu.2);have u4:IntKind.u8.wrap ((c.toNat:Int)-65)=(c.toNat:Int)-65:=cD (by omega) (by omega);have u5:IntKind.u8.wrap ((c.toNat:Int)-65+97)=(c.toNat:Int)-65+97:=cD (by omega) (by omega);clear hu;refine wk ?_;refine ah _ _ _ (by omega) (CutS (b:=by simp)) ⟨k+1,_,rfl,hlt,?_,rfl,rfl⟩;rw[hsucc.out,Qt,u3.out];simp only[show(c.toNat:Int)-65+97=c.toNat+32 by omega]
  .have u3:=hid (vf hu);have u4:¬((65:Int)<=(c.toNat:Int)/\(c.toNat:Int)<=90):=(by omega);have u5:(decide ((65:Int)<=(c.toNat:Int))&&decide ((c.toNat:Int)<=90))=false:=(by simp;omega);clear hu;refine wk ?_
   all_goals first
    |omega
    | (refine ah _ _ _ (by omega) (CutS (b := by simp)) ⟨k + 1, _, rfl, hlt, ?_, rfl, rfl⟩
       rw[hsucc.out,Qt,u3.out])
 have hke:k=s.length:=by omega
 subst hke;have h1:¬(s.length:Int)<(s.length:Int):=by omega
 have e1:=iZ (af s);have e2:=gw (af s);have e3:s.take s.length=s:=ahr;refine wk ?_;exact ae rfl h.out
theorem fC{s:List UInt8}(hs:(s.length:Int)<=140737488351232)(h:K (.str (af s)) L):ag6 38 [.str s] L K:=by
 replace h:=hid h;refine ag5 Qp ?_;refine ak (λn T' L'=>∃(k:Nat) (v:List AV),n=s.length-k/\k<=s.length/\v=u8s (af (s.take k)++s.drop k)/\T'=[(10,.int .i64 (k:Int)),(9,.int .i64 s.length),(8,.lsl L.length 0 s.length none 1),(3,.lsl L.length 0 s.length none 1),(2,.str [])]/\L'=L++[.bytes v]) (CutS (b:=by simp)) ⟨0,_,rfl,ahf _,rfl,rfl,rfl⟩ ?_;rintro _ _ _ ⟨k,v,rfl,hk,hv,rfl,rfl⟩;by_cases hlt:k<s.length
 .have h1:(k:Int)<(s.length:Int):=(by omega);have h2:=ag4 k (by omega);obtain⟨c,hc⟩:=ag2 (s.getD k 0);have hd:s.drop k=c::s.drop (k+1):=by rw[ahV hlt,<- hc,ahz,ahn hlt];rfl
  have hlk:(af (s.take k)).length=k:=(by simp[af];omega);have hv1:v=u8s (af (s.take k)) ++ .int .u8 c.toNat::u8s (s.drop (k+1)):=(by rw[hv,hd];simp[u8s]);have hl2:(u8s (af (s.take k))).length=k:=(by simp[u8s,hlk]);have hvl:v.length=s.length:=(by rw[hv];simp[u8s,af];omega);have hvk:k<v.length:=(by omega);have hvg:v.getD k .undef=.int .u8 c.toNat:=(by rw[hv1];simp[ahz,ahB,hl2]);have hsucc:=RF hlt;rw[hc]at hsucc;have hnew:u8s (af (s.take (k+1))++s.drop (k+1))=u8s (af (s.take k)) ++ .int .u8 (dN c).toNat::u8s (s.drop (k+1)):=(by rw[hsucc];simp[u8s]);have hspl:∀x,v.take k++x::v.drop (k+1)=u8s (af (s.take k))++x::u8s (s.drop (k+1)):=λx=>by rw[hv1,List.take_left' hl2,List.drop_append,hl2,aiN (by omega),show k+1-k=1 by omega];rfl
  clear hv hd hlk hsucc;replace hv1:=hid hv1;replace hnew:=hid hnew;replace hspl:=hid hspl;have hc255:=c.toNat_lt;by_cases hu:65<=c.toNat/\c.toNat<=90;have u1:(65:Int)<=(c.toNat:Int):=(by omega);have u2:(c.toNat:Int)<=90:=(by omega);have u3:=hid (UD hu.1 hu.2);have u4:IntKind.u8.wrap ((c.toNat:Int)+32)=(c.toNat:Int)+32:=cD (by omega) (by omega);clear hu;refine wk ?_;refine ah _ _ _ (by omega) (CutS (b:=by simp)) ⟨k+1,_,rfl,hlt,?_,rfl,rfl⟩;rw[hnew.out,u3.out];exact hspl.out _
  .have u3:=hid (vf hu);have u5:(decide ((65:Int)<=(c.toNat:Int))&&decide ((c.toNat:Int)<=90))=false:=(by simp;omega);clear hu;refine wk ?_
   all_goals first
    |omega
    | (refine ah _ _ _ (by omega) (CutS (b := by simp)) ⟨k + 1, _, rfl, hlt, ?_, rfl, rfl⟩
       rw[hnew.out,u3.out];exact hv1.out)
 have hke:k=s.length:=by omega
 subst hke;have h1:¬(s.length:Int)<(s.length:Int):=by omega
 have hv1:v=u8s (af s):=by rw[hv];simp
 clear hv;subst hv1;have e1:=iZ (af s);have e2:=gw (af s);have e4:(u8s (af s)).length=s.length:=by simp[u8s,af]
 have e5:(u8s (af s)).take s.length=u8s (af s):=by rw[<- e4];exact ahr
 refine wk ?_;exact ae rfl h.out
theorem mP{s:List UInt8}(hs:(s.length:Int)<=100000)(h:K (.str (af s)) L):ag6 39 [.str s] L K:=ce (by omega) h
theorem HZ{s:List UInt8}(hs:(s.length:Int)<=100000)(h:K (.str (af s)) L):ag6 38 [.str s] L K:=fC (by omega) h
def kU(c:UInt8):Option Nat:=if 48<=c.toNat/\c.toNat<=57 then some (c.toNat-48)else if 97<=c.toNat/\c.toNat<=102 then some (c.toNat-87)else if 65<=c.toNat/\c.toNat<=70 then some (c.toNat-55)else none
theorem IF{c:UInt8}{x:Nat}(h:kU c=some x):x<16:=by unfold kU at h;split at h;cases h;omega;split at h;cases h;omega;split at h;cases h;omega;cases h
theorem Xq{c:UInt8}{L:List Blk}{K:ag7}(h:K (.tup [.int .u8 ((kU c).getD 0:Nat),.bool (kU c).isSome]) L):ag6 234 [.int .u8 c.toNat] L K:=by
 have hc:=c.toNat_lt;obtain⟨n,hn⟩:=ag2 (c.toNat);unfold kU at h;rw[hn]at h hc⊢;clear hn;refine ad Qn (by simp[wc]) ?_;simp only[wc,am];by_cases h1:48<=n/\n<=57;rw[if_pos h1]at h;replace h:=hid h;obtain⟨a1,a2⟩:=h1;have b1:(48:Int)<=(n:Int):=by omega
 have b2:(n:Int)<=57:=by omega
 have b3:IntKind.u8.wrap ((n:Int)-48)=(n:Int)-48:=cD (by omega) (by omega);clear a1 a2;refine wk ?_;refine aa ?_;have:=h.out;simpa[show((n-48:Nat):Int)=(n:Int)-48 by omega]using this
 .rw[if_neg h1]at h;have c1:(decide ((48:Int)<=(n:Int))&&decide ((n:Int)<=57))=false:=(by simp;omega);by_cases h2:97<=n/\n<=102;rw[if_pos h2]at h;replace h:=hid h;obtain⟨a1,a2⟩:=h2;have b1:(97:Int)<=(n:Int):=(by omega);have b2:(n:Int)<=102:=(by omega);have b4:IntKind.u8.wrap ((n:Int)-97)=(n:Int)-97:=cD (by omega) (by omega);have b5:IntKind.u8.wrap ((n:Int)-97+10)=(n:Int)-97+10:=cD (by omega) (by omega);clear a1 a2 h1;refine wk ?_;refine aa ?_;have:=h.out;simpa[show((n-87:Nat):Int)=(n:Int)-97+10 by omega]using this
  .rw[if_neg h2]at h;have c2:(decide ((97:Int)<=(n:Int))&&decide ((n:Int)<=102))=false:=(by simp;omega);by_cases h3:65<=n/\n<=70;rw[if_pos h3]at h;replace h:=hid h;obtain⟨a1,a2⟩:=h3;have b1:(65:Int)<=(n:Int):=(by omega);have b2:(n:Int)<=70:=(by omega);have b4:IntKind.u8.wrap ((n:Int)-65)=(n:Int)-65:=cD (by omega) (by omega);have b5:IntKind.u8.wrap ((n:Int)-65+10)=(n:Int)-65+10:=cD (by omega) (by omega);clear a1 a2 h1 h2;refine wk ?_;refine aa ?_;have:=h.out;simpa[show((n-55:Nat):Int)=(n:Int)-65+10 by omega]using this
   .rw[if_neg h3]at h;have c3:(decide ((65:Int)<=(n:Int))&&decide ((n:Int)<=70))=false:=(by simp;omega);replace h:=hid h;clear h1 h2 h3
    repeat' first
     |refine br ?_
     | (first|refine bh (by kernel_rfl) ?_|refine aH (by kernel_rfl) ?_|refine aK ?_|refine cO ?_|refine bB (fun _=>?_)|refine aB ?_|refine bm ?_)
       refine sm ?_
     | (first|refine a8 (by kernel_rfl) ?_|refine bc ?_|refine aJ ?_|refine bj ?_|refine bG (aA ?_))
       refine sl ?_
     |exact bC
     |first|apply bD|apply be|apply bE|apply bf|apply bF|apply bg
     |refine aN ?_
     |refine aI ?_
     |first|refine aL rfl ?_|refine aM rfl ?_|refine aw rfl ?_ ?_|refine aQ rfl (λ_=>?_) (λ_=>?_)|refine aP rfl (λ_=>?_) (λ_=>?_)
     |((first|refine au (λ_=>?_) (λ_=>?_)|refine az (λ_=>?_) (λ_=>?_))<;>try refine sm ?_)
     |refine And.intro trivial ?_
     |refine And.intro (by omega) ?_
     |refine aU rfl (λ_=>?_) (λ_=>?_)
     |refine And.intro ?_ ?_
    all_goals first
     |omega
     |(refine aa ?_;simpa using h.out)
def N1(a b:UInt8):Option UInt8:=match kU a,kU b with
 |some x,some y=>some (UInt8.ofNat (16*x+y))
 |_,_=>none
def LR(a b:UInt8):AV:=match N1 a b with
 |some c=>.tup [.str [c],.bool true]
 |none=>.tup [.str [],.bool false]
theorem afk:∀x y:_root_.Fin 16,IntKind.u8.wrap (((BitVec.ofInt IntKind.u8.bits (IntKind.u8.wrap ((x.val:Int)*2^min 4 IntKind.u8.bits)) |||BitVec.ofInt IntKind.u8.bits (y.val:Int)).toNat:Nat):Int)=16*(x.val:Int)+(y.val:Int):=by decide +kernel
theorem aaK{a b:UInt8}(h:K (LR a b) L):ag6 211 [.str [a,b]] L K:=by
 have hl:[a,b].length=2:=rfl;have ha:[a,b].getD 0 0=a:=rfl;have hb:[a,b].getD 1 0=b:=rfl;have d1:IntKind.i64.wrap (Int.tdiv 2 2)=1:=by decide
 have d2:Int.tmod 2 2=0:=by decide
 have d3:dP [AV.int IntKind.u8 0] 1=[AV.int IntKind.u8 0]:=rfl;have d4:IntKind.i64.wrap 1=1:=by decide
 have d5:IntKind.i64.wrap 2=2:=by decide
 replace h:=hid h;refine ag5 O8 ?_;refine ak (λn T' L'=>(n=1/\T'=[(5,.int .i64 0),(4,.lsl L.length 0 0 (some 1) 1),(0,.str [a,b])]/\L'=L++[.cells [.int .u8 0]])\/(n=0/\∃x y:Nat,Hid (kU a=some x)/\Hid (kU b=some y)/\T'=[(5,.int .i64 2),(4,.lsl (L.length+1) 0 1 none 1),(0,.str [a,b])]/\L'=L++[.dead,.cells [.int .u8 ((16*x+y:Nat):Int)]])) (n0:=1) (T0:=[(5,.int .i64 0),(4,.lsl L.length 0 0 (some 1) 1),(0,.str [a,b])]) (L0:=L++[.cells [.int .u8 0]]) (CutS (b:=by simp)) (.inl ⟨rfl,rfl,rfl⟩) ?_;rintro _ _ _ (⟨rfl,rfl,rfl⟩|⟨rfl,x,y,hx,hy,rfl,rfl⟩);rcases hx:kU a with _|x;have h':=h.out;simp only[LR,N1,hx]at h';replace h':=hid h';have e1:(kU a).getD 0=0:=by rw[hx];rfl
 have e2:(kU a).isSome=false:=by rw[hx];rfl
 clear hx;have kk1:=@hid _ @Xq;refine wk ?_;exact ae rfl h'.out;have e1:(kU a).getD 0=x:=by rw[hx];rfl
 have e2:(kU a).isSome=true:=by rw[hx];rfl
 have hx':=hid hx;rcases hy:kU b with _|y;have h':=h.out;simp only[LR,N1,hx,hy]at h';replace h':=hid h';have e3:(kU b).getD 0=0:=by rw[hy];rfl
 have e4:(kU b).isSome=false:=by rw[hy];rfl
 clear hx hy;have kk1:=@hid _ @Xq;refine wk ?_;exact ae rfl h'.out;have e3:(kU b).getD 0=y:=by rw[hy];rfl
 have e4:(kU b).isSome=true:=by rw[hy];rfl
 have hy':=hid hy;have e5:=afk ⟨x,IF hx⟩ ⟨y,IF hy⟩;simp only at e5;clear hx hy;have kk1:=@hid _ @Xq;refine wk ?_;refine ah 0 _ _ (by omega) (CutL (b:=by simp)) (.inr ⟨rfl,x,y,hid rfl,hid rfl,rfl,?_⟩)
 first|rfl|rw[e5]
 have h':=h.out;simp only[LR,N1,hx.out,hy.out]at h';replace h':=hid h';have lx:=IF hx.out;have ly:=IF hy.out;have u1:UI (.int .u8 (16*(x:Int)+(y:Int)))=true:=rfl;have u2:On (.int .u8 (16*(x:Int)+(y:Int)))=UInt8.ofNat (16*x+y):=by simp only[On];rw[show(16*(x:Int)+(y:Int)).toNat=16*x+y by omega]
 refine wk ?_;exact ae rfl h'.out
def vq(b:List UInt8):Bool:=b.isEmpty ||b.getLast? == some 32
def ax(b:List UInt8)(c:UInt8):List UInt8:=if c=32/\vq b=true then b else b++[c]
def bI(s:List UInt8):List UInt8:=s.foldl ax []
def dk(b:List UInt8):List UInt8:=if b.getLast?=some 32 then b.dropLast else b
def bz(s:List UInt8):List UInt8:=dk (bI (af s))
theorem NN(b:List UInt8)(c:UInt8):(ax b c).length<=b.length+1:=by unfold ax;split<;>simp
theorem vF{s:List UInt8}{k:Nat}(h:k<s.length):bI (s.take (k+1))=ax (bI (s.take k)) (s.getD k 0):=by rw[ahw h,bI,ai7];simp[bI,h]
theorem pM(s:List UInt8):∀k,(bI (s.take k)).length<=k
 |0=>by simp[bI]
 | k+1=>by
   have ih:=pM s k;by_cases h:k<s.length
   .rw[vF h];have:=NN (bI (s.take k)) (s.getD k 0);omega
   .rw[aib (by omega),<- aib (l:=s) (i:=k) (by omega)];omega
theorem vE{s:List UInt8}(hs:(s.length:Int)<=100000)(h:K (.str (bz s)) L):ag6 95 [.str s] L K:=by
 replace h:=hid h;refine ad Qo (by simp[wg]) ?_;simp only[wg,am];obtain⟨t,ht⟩:=ag2 (af s);have htl:(t.length:Int)<=100000:=by rw[<- ht];simpa[af]using hs
 have kk1:=@hid _ (λL K=>HZ hs (L:=L) (K:=K));refine wk ?_;refine bX (l:=[]) (n:=0) 3 1 rfl (ahD 1).symm ?_;refine ak (λn T' L'=>∃(k:Nat) (b:List UInt8) (v:List AV) (m:Nat),n=t.length-k/\k<=t.length/\b=bI (t.take k)/\v=u8s b/\m=b.length/\T'=[(10,.int .i64 (k:Int)),(9,.int .i64 t.length),(8,.sl (u8s t) t.length none),(3,.gsl v m L.length 1),(2,.str [])]/\L'=L++[.spare m 1]) (CutS (b:=by simp)) ⟨0,[],[],0,rfl,ahf _,rfl,rfl,rfl,rfl,rfl⟩ ?_;rintro _ _ _ ⟨k,b,v,m,rfl,hk,hb,rfl,rfl,rfl,rfl⟩;replace hb:=hid hb;by_cases hlt:k<t.length;have h1:(k:Int)<(t.length:Int):=by omega
 have h2:=ag4 k (by omega);have hsucc:=hid (vF hlt);obtain⟨c,hc⟩:=ag2 (t.getD k 0);have hg:(u8s t).getD k .undef=.int .u8 c.toNat:=by simp[u8s,hlt,<- hc]
 have hlk:k<(u8s t).length:=by simpa[u8s]using hlt
 rw[hc]at hsucc;have hbl:b.length<=k:=by rw[hb.out];exact pM t k
 have hstep:∀b',b'=ax b c->b'=bI (t.take (k+1)):=λb' e=>by rw[hsucc.out,<- hb.out];exact e
 have c32:((c.toNat:Int)=32)↔c=32:=⟨λe=>aiS.1 (by have:(32:UInt8).toNat=32:=rfl;omega),λe=>by rw[e];rfl⟩;replace hstep:=hid hstep;replace c32:=hid c32;clear hsucc hb hc;have hub:(u8s b).length=b.length:=by simp[u8s]
 have rest:∀b',b'=ax b c->b'.length<=b.length+1:=λb' e=>by rw[e];exact NN b c
 clear rest;by_cases hc:(c.toNat:Int)=32;rcases aiZ b with hb0|⟨d,x,hb0⟩;have e0:(b.length:Int)=0:=by rw[hb0];rfl
 have e1:=hid (hstep.out b (by rw[ax,if_pos ⟨c32.out.1 hc,by rw[hb0];rfl⟩]));clear hb0;refine wk ?_;exact ah _ _ _ (by omega) (CutS (b:=by simp)) ⟨k+1,b,_,_,rfl,hlt,e1.out,rfl,rfl,rfl,rfl⟩;have e0:¬(b.length:Int)=0:=by rw[hb0];simp;omega
 have e1:IntKind.i64.wrap ((b.length:Int)-1)=(d.length:Int):=by rw[ac (by omega) (by omega),hb0];simp
 have e2:(u8s b).getD d.length .undef=.int .u8 x.toNat:=by rw[hb0];simp[u8s,ahz]
 have e3:d.length<(u8s b).length:=by rw[hb0];simp[u8s]
 have e4:(d.length:Int)<(b.length:Int):=by rw[hb0];simp;omega
 have x32:x=32↔(x.toNat:Int)=32:=⟨λe=>by rw[e];rfl,λe=>aiS.1 (by have:(32:UInt8).toNat=32:=rfl;omega)⟩;have hend:vq b=true↔x=32:=by rw[hb0];simp[vq]
 replace hb0:=hid hb0;replace x32:=hid x32;replace hend:=hid hend;by_cases hx:(x.toNat:Int)=32;have e5:=hid (hstep.out b (by rw[ax,if_pos ⟨c32.out.1 hc,hend.out.2 (x32.out.2 hx)⟩]));refine wk ?_;exact ah _ _ _ (by omega) (CutS (b:=by simp)) ⟨k+1,b,_,_,rfl,hlt,e5.out,rfl,rfl,rfl,rfl⟩;have e5:=hid (hstep.out (b++[c]) (by rw[ax,if_neg λe=>hx (x32.out.1 (hend.out.1 e.2))]));refine wk ?_;exact ah _ _ _ (by omega) (CutS (b:=by simp)) ⟨k+1,b++[c],_,_,rfl,hlt,e5.out,(by rw[Qt,hc]),(by simp),rfl,rfl⟩;have e1:=hid (hstep.out (b++[c]) (by rw[ax,if_neg λe=>hc (c32.out.2 e.1)]));refine wk ?_;exact ah _ _ _ (by omega) (CutS (b:=by simp)) ⟨k+1,b++[c],_,_,rfl,hlt,e1.out,(Qt b c).symm,(by simp),rfl,rfl⟩
 .have hke:k=t.length:=(by omega);subst hke;have h1:¬(t.length:Int)<(t.length:Int):=(by omega);have hbl:b.length<=t.length:=(by rw[hb.out];exact pM t _);have hub:(u8s b).length=b.length:=(by simp[u8s]);have hfin:dk b=bz s:=(by rw[bz,ht,hb.out,ahr]);have e1:=iZ b;have e2:=gw b;replace hb:=hid hfin;clear hfin;rcases aiZ b with hb0|⟨d,x,hb0⟩;have e0:¬(0:Int)<(b.length:Int):=(by rw[hb0];simp);have e3:=hid (show b=bz s by rw[<- hb.out,hb0];rfl);clear hb0;refine wk ?_;refine ae rfl ?_;rw[e3.out];exact h.out
  .have e0:(0:Int)<(b.length:Int):=(by rw[hb0];simp;try omega);have e3:IntKind.i64.wrap ((b.length:Int)-1)=(d.length:Int):=(by rw[ac (by omega) (by omega),hb0];simp);have e4:(u8s b).getD d.length .undef=.int .u8 x.toNat:=(by rw[hb0];simp[u8s,ahz]);have e5:d.length<(u8s b).length:=(by rw[hb0];simp[u8s]);have e6:(d.length:Int)<(b.length:Int):=(by rw[hb0];simp;omega);have e7:(u8s b).take d.length=u8s d:=(by rw[hb0];simp[u8s]);have e10:(u8s d).length=d.length:=(by simp[u8s]);have e8:=iZ d;have e9:=gw d;have x32:x=32↔(x.toNat:Int)=32:=⟨λe=>by rw[e];rfl,λe=>aiS.1 (by have:(32:UInt8).toNat=32:=rfl;omega)⟩;have htr:dk b=if x=32 then d else b:=by rw[hb0];simp[dk]
   replace hb0:=hid hb0;replace htr:=hid htr;by_cases hx:(x.toNat:Int)=32;have r:=hid (show d=bz s by rw[<- hb.out,htr.out,if_pos (x32.2 hx)]);replace x32:=hid x32;refine wk ?_;refine ae rfl ?_;rw[r.out];exact h.out;have r:=hid (show b=bz s by rw[<- hb.out,htr.out,if_neg λe=>hx (x32.1 e)]);replace x32:=hid x32;refine wk ?_;refine ae rfl ?_;rw[r.out];exact h.out
end Go.Proofs.YtcmfcpjnhephaaaGreatDoor.Av
set_option maxRecDepth 100000
namespace Go.Proofs.YtcmfcpjnhephaaaGreatDoor.Av
open Go
variable {s typ b:List UInt8}{ip:Nat}{cap:Option Nat}{bl:Bool}{d:UInt8}
def PF:LSO:=[Af 2]
def PE:LSO:=[Aa 5 0,Bz 6 5,Aa 7 6,.grp none 7 false
 [Ah 8 7 0,Bq 9 7 8,A9 10 7 9 32]
 11 (tm 10),Aa 12 11,.grp none 12 false
 [Ah 13 12 0,BS 14 12 13 0,og 15 12 false (.conv .i32 (tm 14)),AZ 16 12 191 15,Bk 17 12 16]
 18 (tm 17)]
def PD:LSO:=[Af 2]
def PC:LSO:=[Aa 19 0,o1 20 (.rangeS (tm 19))]
def PB:LSO:=[o1 21 (.nextS (tm 20)),Ar 22 21]
def PA:LSO:=[Bo 23 21,Aa 4 23]
def Pz:LSO:=[Aa 24 4,Ak 25 191 24,Ay 26 25,Aa 27 26,.grp none 27 true
 [Ae 28 27 4,og 29 27 true (.bin .lss (tm 28) (.av (.int .i32 48))),Ae 30 27 29,.grp (some (27,true)) 30 false
 [Ah 31 30 4,og 32 30 false (.bin .gtr (tm 31) (.av (.int .i32 57)))]
 33 (tm 32)]
 34 (tm 33),Aa 35 34,.grp none 35 true
 [Ae 36 35 4,og 37 35 true (.bin .neq (tm 36) (.av (.int .i32 45)))]
 38 (tm 37)]
def Py:LSO:=[Af 2]
def Px:LSO:=[A0 2]
def Pf:aO:=⟨39,(akg PF [] (.seq (akg PE Cu (aki 18 (.sreg PD []))) (.seq (akg PC Cq (akj 0 (akg PB [] (.seq (akk 22 0) (.block 1 (akg PA Cq (akg Pz Cw (aki 38 (.sreg Py []))))))))) (akg Px [] .ret)))),[(.tmp 2)]⟩
attribute [push_cast] PF PE PD PC PB PA Pz Py Px
theorem UZ:akl 157=akm Pf:=by kernel_rfl
def KY:LSO:=[Af 2]
def KX:LSO:=[Aa 3 0,o1 4 (.bin .geq (tm 3) (.av (.int .i32 97))),Aa 5 4,.grp none 5 true
 [Ae 6 5 0,og 7 5 true (.bin .leq (tm 6) (.av (.int .i32 122)))]
 8 (tm 7),Aa 9 8,.grp none 9 false
 [Ah 10 9 0,og 11 9 false (.bin .geq (tm 10) (.av (.int .i32 65))),Ah 12 9 11,.grp (some (9,false)) 12 true
 [Ae 13 12 0,og 14 12 true (.bin .leq (tm 13) (.av (.int .i32 90)))]
 15 (tm 14)]
 16 (tm 15),Aa 2 16]
def Ij:aO:=⟨17,(akg KY [] (akg KX Cw .ret)),[(.tmp 2)]⟩
attribute [push_cast] KY KX
theorem Sc:akl 191=akm Ij:=by kernel_rfl
def Q1:LSO:=[A4 3 1,Af 4]
def Q0:LSO:=[Aa 5 0,o1 6 (.mkfn 209 [(tm 3)]),Ax 7 208 5 6,Aa 4 7]
def Sd:aO:=⟨8,(akg Q1 [] (akg Q0 Cs .ret)),[(.tmp 4)]⟩
attribute [push_cast] Q1 Q0
theorem Wp:akl 175=akm Sd:=by kernel_rfl
def Ng:LSO:=[A4 2 0,Af 3]
def Nf:LSO:=[Ad 4 0 2,Ab 5 1 4,Ak 6 38 5,Ab 7 1 1,Ak 8 38 7,AC 9 6 8,Aa 3 9]
def Mc:aO:=⟨10,(akg Ng [] (.seq (.sdreg Nf [.pure,(.read 0 0),(.read 0 0),(.read 0 0)] Cw) .ret)),[(.tmp 3)]⟩
attribute [push_cast] Ng Nf
theorem SQ:akl 209=akm Mc:=by kernel_rfl
def M5:LSO:=[Ao 2,Ao 3,Af 4]
def M4:LSO:=[Aj 5]
def M3:LSO:=[Af 6]
def M2:LSO:=[Ac 7 0]
def M1:LSO:=[Aa 11 7,Aa 12 0,Au 13 12,Al 14 11 13,Aa 15 14,.grp none 15 true
 [Ae 16 15 0,Ae 17 15 7,AS 18 15 16 17,og 19 15 true (.bin .neq (tm 18) (.av (.int .u8 44)))]
 20 (tm 19),Aa 21 20,.grp none 21 true
 [Ae 22 21 0,Ae 23 21 7,AS 24 21 22 23,og 25 21 true (.bin .neq (tm 24) (.av (.int .u8 43)))]
 26 (tm 25)]
def M0:LSO:=[Aa 27 0,Aa 28 7,AA 29 27 28,Aa 8 29]
def MZ:LSO:=[Aa 30 8,o1 31 (.bin .eql (tm 30) (.av (.int .u8 32))),Aa 6 31]
def MY:LSO:=[Aa 33 8,o1 34 (.bin .neq (tm 33) (.av (.int .u8 92))),Aa 32 34]
def MX:LSO:=[Aa 35 8,B4 36 35,Aa 37 36,.grp none 37 false
 [Ah 38 37 8,og 39 37 false (.call 210 [(.av (.str [34,59,60,62])),(tm 38)]),BH 40 37 39 0]
 41 (tm 40),Aa 42 41,.grp none 42 false
 [Ah 43 42 5,Bf 44 42 43,AM 45 42 44 0,Ah 46 42 45,.grp (some (42,false)) 46 true
 [Ae 47 46 8,Br 48 46 47,Ae 49 46 48,.grp (some (46,true)) 49 false
 [Ah 50 49 8,og 51 49 false (.bin .eql (tm 50) (.av (.int .u8 35)))]
 52 (tm 51)]
 53 (tm 52)]
 54 (tm 53)]
def MW:LSO:=[Ao 2,Ao 3,Af 4]
def KU:LSO:=[Aa 56 7,Ag 57 56 1,Aa 58 0,Au 59 58,Al 60 57 59,Aa 61 60,.grp none 61 true
 [Ae 62 61 0,Ae 63 61 7,Cb 64 61 63 1,AS 65 61 62 64,og 66 61 true (.call 210 [(.av (.str [34,43,44,59,60,62,92,32,35,61])),(tm 65)]),og 67 61 true (.bin .geq (tm 66) (iv 0))]
 68 (tm 67),Aa 55 68]
def KT:LSO:=[Aa 69 7,Ag 70 69 1,Aa 7 70]
def KR:LSO:=[Aa 71 0,Aa 72 7,AA 73 71 72,Aa 8 73]
def KQ:LSO:=[Aa 75 7,Ag 76 75 2,Aa 77 0,Au 78 77,Al 79 76 78,Aa 74 79]
def KP:LSO:=[Aa 81 0,Aa 82 7,Ag 83 82 1,Aa 84 7,Ag 85 84 3,B5 86 81 83 85,Ak 87 211 86,Aa 80 87,Ar 88 80,Aw 89 80,Aa 9 88,Aa 10 89]
def KO:LSO:=[Aa 90 10,Ay 91 90]
def KN:LSO:=[Ao 2,Ao 3,Af 4]
def KM:LSO:=[Aa 92 9,Bx 93 92 0,Aa 8 93]
def KL:LSO:=[Aa 94 7,Ag 95 94 2,Aa 7 95]
def KK:LSO:=[Ao 2,Ao 3,Af 4]
def KJ:LSO:=[Aa 96 5,Aa 97 8,AK 98 97,AD 99 96 98,Aa 5 99]
def KI:LSO:=[Aa 100 7,Ag 101 100 1,Aa 7 101]
def KH:LSO:=[Aa 102 5,AN 103 102,Aa 104 0,Aa 105 7,BX 106 104 105,Aa 107 6,Ay 108 107,Aa 2 103,Aa 3 106,Aa 4 108]
def Mb:aO:=⟨109,(akg M5 [] (akg M4 [] (akg M3 [] (akg M2 [] (.seq (akj 0 (.seq (akg M1 Cx (akk 26 0)) (.block 1 (akg M0 Cs (akg MZ Cr (.seq (.block 2 (akg MY Cr (akh 32 (akg MX Cu (aki 54 (.sreg MW []))) (akg KU Cx (akh 55 (akg KT Cr (.sreg KR Cs)) (akg KQ Cu (akh 74 (akg KP CT (.seq (akg KO Cq (aki 91 (.sreg KN []))) (akg KM Cr (.sreg KL Cr)))) (akg KK [] .ret)))))))) (akg KJ Ct (.sreg KI Cr)))))))) (.seq (.sdreg KH [.pure,(.read 0 0),.pure,.pure,(.read 0 0),.pure,.pure,.pure,.pure] [true,true,true,false,false,false,false,false,false,false]) .ret)))))),[(.tmp 2),(.tmp 3),(.tmp 4)]⟩
attribute [push_cast] M5 M4 M3 M2 M1 M0 MZ MY MX MW KU KT KR KQ KP KO KN KM KL KK KJ KI KH
theorem SP:akl 176=akm Mb:=by kernel_rfl
def NM:LSO:=[Aj 2,Ac 3 0]
def NL:LSO:=[Aa 10 0,Au 11 10,A3 12 11 4096]
def NK:LSO:=[Aj 2,Ac 3 5]
def NJ:LSO:=[Aa 13 0,Bz 14 13]
def NI:LSO:=[Aj 2,Ac 3 0]
def NH:LSO:=[Aj 4]
def NG:LSO:=[Aj 5]
def NF:LSO:=[Aa 15 4,Am 16 15,Aq 17 16 32,Aa 18 17,.grp none 18 false
 [Ah 19 18 5,Bf 20 18 19,AM 21 18 20 8]
 22 (tm 21)]
def NE:LSO:=[Aj 2,Ac 3 9]
def ND:LSO:=[Aa 24 0,o1 25 (.call 174 [(tm 24),(.av (.str [61]))]),Aa 23 25,Ar 26 23,Aw 27 23,Bo 28 23,Aa 6 26,Aa 7 27,Aa 8 28]
def Lw:LSO:=[Aa 29 8,Ay 30 29,Aa 31 30,.grp none 31 false
 [Ah 32 31 6,AZ 33 31 157 32,Bk 34 31 33]
 35 (tm 34)]
def Lv:LSO:=[Aj 2,Ac 3 4]
def Lu:LSO:=[Aa 36 5,Aa 37 6,Ax 38 175 36 37]
def Lt:LSO:=[Aj 2,Ac 3 21]
def Lr:LSO:=[Aa 40 7,Ak 41 176 40,Aa 39 41,Ar 42 39,Aw 43 39,Bo 44 39,Aa 9 42,Aa 7 43,Aa 8 44]
def Lq:LSO:=[Aa 45 8,Ay 46 45]
def Lp:LSO:=[Aj 2,Ac 3 4]
def Lo:LSO:=[Aa 47 5,Aa 48 6,Aa 49 9,o1 50 (.build [(.str []),(.str [])] [(0,(1,(tm 48))),(1,(1,(tm 49)))]),Cc 51 50,B6 52 47 51,Aa 5 52]
def Ln:LSO:=[Aa 53 7,Bz 54 53]
def Lm:LSO:=[Aa 55 4,Aa 56 5,B7 57 56,B8 58 55 57,Aa 2 58,Ac 3 0]
def Ll:LSO:=[Aa 59 7,Bx 60 59 0,o1 61 (.bin .eql (tm 60) (.av (.int .u8 44)))]
def Lk:LSO:=[Aa 62 4,Aa 63 5,B7 64 63,B8 65 62 64,Aa 4 65,Aj 5]
def Lj:LSO:=[Aa 66 7,o1 67 (.slS (tm 66) (some (iv 1)) none),Aa 0 67]
def Mf:aO:=⟨68,(akg NM [] (.seq (akg NL Cr (aki 12 (.sreg NK []))) (.seq (akg NJ Cq (aki 14 (.sreg NI []))) (akg NH [] (akg NG [] (akj 0 (.block 1 (.seq (akg NF Ct (aki 22 (.sreg NE []))) (akg ND CM (.seq (akg Lw Cs (aki 35 (.sreg Lv []))) (.seq (akg Lu Cr (aki 38 (.sreg Lt []))) (akg Lr CM (.seq (akg Lq Cq (aki 46 (.sreg Lp []))) (akg Lo Cw (.seq (akg Ln Cq (aki 54 (.sreg Lm CI))) (.seq (akg Ll Cr (akh 61 (.sreg Lk CI) .skip)) (.sreg Lj Cr))))))))))))))))),[(.tmp 2),(.tmp 3)]⟩
attribute [push_cast] NM NL NK NJ NI NH NG NF NE ND Lw Lv Lu Lt Lr Lq Lp Lo Ln Lm Ll Lk Lj
theorem ST:akl 139=akm Mf:=by kernel_rfl
def HM:LSO:=[Ao 2]
def HL:LSO:=[Aj 3]
def HK:LSO:=[Aa 7 0,o1 8 (.s2b (tm 7)),Am 9 8,Ac 10 0]
def HJ:LSO:=[Al 11 10 9]
def HI:LSO:=[Aa 12 10,An 13 1 8 10,Ab 14 1 13,Aa 4 12,Aa 5 14]
def HH:LSO:=[Aa 15 4,Aq 16 15 0,Aa 17 16,.grp none 17 true
 [Ae 18 17 5,Br 19 17 18,Ae 20 17 19,.grp (some (17,true)) 20 false
 [Ah 21 20 5,og 22 20 false (.bin .eql (tm 21) (.av (.int .u8 35)))]
 23 (tm 22)]
 24 (tm 23),Aa 25 24,.grp none 25 false
 [Ah 26 25 4,Ah 27 25 0,Bq 28 25 27,Cd 29 25 28 1,og 30 25 false (.bin .eql (tm 26) (tm 29)),Ah 31 25 30,.grp (some (25,false)) 31 true
 [Ae 32 31 5,Br 33 31 32]
 34 (tm 33)]
 35 (tm 34),Aa 6 35]
def HG:LSO:=[Aa 37 5,B4 38 37,Aa 36 38]
def HF:LSO:=[Aa 39 3,o1 40 (.app 1 1 1 [(.int .u8 0)] (tm 39) (.av (.str [92,48,48]))),Aa 3 40]
def HE:LSO:=[Aa 42 6,Aa 43 42,.grp none 43 false
 [Ah 44 43 5,og 45 43 false (.call 210 [(.av (.str [34,43,44,59,60,62,92])),(tm 44)]),BH 46 43 45 0]
 47 (tm 46),Aa 41 47]
def HD:LSO:=[Aa 48 3,o1 49 (.bslice false 1 1 [(.int .u8 0)] [(0,(1,(.av (.int .u8 92))))]),AD 50 48 49,Aa 3 50]
def DF:LSO:=[Aa 51 3,Aa 52 5,AK 53 52,AD 54 51 53,Aa 3 54]
def DE:LSO:=[Ag 55 10 1,Aa 10 55]
def DD:LSO:=[Aa 56 3,AN 57 56,Aa 2 57]
def wl:aO:=⟨58,(akg HM [] (akg HL [] (.seq (akg HK CA (akj 0 (akg HJ [] (.seq (akk 11 0) (.seq (.block 1 (akg HI Cz (akg HH Cw (.seq (.block 2 (akg HG Cr (akh 36 (akg HF Cr (.exit 1)) (akg HE Cs (akh 41 (.sreg HD Cs) .skip))))) (.sreg DF Ct))))) (.sreg DE Cq)))))) (akg DD Cr .ret)))),[(.tmp 2)]⟩
attribute [push_cast] HM HL HK HJ HI HH HG HF HE HD DF DE DD
theorem Qs:akl 213=akm wl:=by kernel_rfl
def Nq:LSO:=[Ac 2 0]
def Np:LSO:=[Aa 7 0,Am 8 7,Ac 9 0]
def No:LSO:=[Al 10 9 8]
def Nn:LSO:=[Aa 11 9,An 12 1 7 9,Ab 13 1 12,Aa 3 11,Aa 4 13]
def Nm:LSO:=[Aa 15 3,Aq 16 15 32,Aa 14 16]
def Nl:LSO:=[Ac 2 9]
def Nk:LSO:=[Aa 18 4,Am 19 18,Aq 20 19 0,Aa 17 20]
def Nj:LSO:=[Ac 2 2]
def Ni:LSO:=[Aa 21 4,Am 22 21,Ac 23 0]
def Nh:LSO:=[Al 24 23 22]
def K8:LSO:=[Aa 25 23,An 26 2 21 23,Ap 27 2 26,Bg 6,Aa 5 25,Ai 2 6 27]
def K7:LSO:=[Aa 29 5,Aq 30 29 8,Aa 28 30]
def K6:LSO:=[Ac 2 9]
def K5:LSO:=[Ad 32 0 6,Ab 33 1 32,Ak 34 157 33,Ay 35 34,Aa 31 35]
def K4:LSO:=[Ac 2 20]
def K3:LSO:=[Aa 37 4,Aa 38 5,Ce 39 37 38,Ad 40 0 6,Ab 41 1 40,Ax 42 175 39 41,Aa 36 42]
def K2:LSO:=[Ac 2 21]
def K1:LSO:=[Ag 43 23 1,Aa 23 43]
def K0:LSO:=[Ag 44 9 1,Aa 9 44]
def KZ:LSO:=[Ac 2 0]
def Md:aO:=⟨45,(akg Nq [] (.seq (akg Np [] (akj 0 (akg No [] (.seq (akk 10 0) (.seq (.block 1 (akg Nn Cz (.seq (.block 2 (akg Nm Cr (akh 14 (akg Nl [] .ret) (akg Nk Cs (aki 17 (.sreg Nj [])))))) (akg Ni [] (akj 3 (akg Nh [] (.seq (akk 24 3) (.seq (.block 4 (akg K8 Cz (.block 5 (akg K7 Cr (akh 28 (akg K6 [] .ret) (akg K5 Ct (akh 31 (akg K4 [] .ret) (.seq (.sdreg K3 [.pure,.pure,(.read 0 0),.pure,(.read 0 0)] Cw) (aki 36 (.sreg K2 [])))))))))) (.sreg K1 Cq))))))))) (.sreg K0 Cq)))))) (akg KZ [] .ret))),[(.tmp 2)]⟩
attribute [push_cast] Nq Np No Nn Nm Nl Nk Nj Ni Nh K8 K7 K6 K5 K4 K3 K2 K1 K0 KZ
theorem SR:akl 212=akm Md:=by kernel_rfl
def NC:LSO:=[Ao 2,Ac 3 0]
def NB:LSO:=[Aa 11 0,Ak 12 212 11,Aa 4 12]
def NA:LSO:=[Aa 13 4,AF 14 13 0]
def Nz:LSO:=[Aa 15 4,Ao 2,Aa 3 15]
def Ny:LSO:=[Ac 5 0]
def Nw:LSO:=[Aa 16 0,Am 17 16,Ac 18 0]
def Nv:LSO:=[Al 19 18 17]
def Nu:LSO:=[An 20 1 16 18,Ab 21 1 20,Aa 7 21]
def Nt:LSO:=[Aa 22 7,Am 23 22,Ac 24 0]
def Nr:LSO:=[Al 25 24 23]
def Li:LSO:=[An 26 2 22 24,Ap 27 2 26,Bg 9,Ai 2 9 27]
def Lh:LSO:=[Ad 28 1 9,Ab 29 1 28,Au 30 29,A3 31 30 4096]
def Lg:LSO:=[Ao 2,Ac 3 5]
def Lf:LSO:=[Aa 32 5,Ag 33 32 1,Aa 5 33]
def Le:LSO:=[Ag 34 24 1,Aa 24 34]
def Ld:LSO:=[Ag 35 18 1,Aa 18 35]
def Lc:LSO:=[Aa 36 0,o1 37 (.call 178 [(tm 36),(.av (.bool false))]),Aa 10 37]
def Lb:LSO:=[Aa 38 10,Au 39 38,A3 40 39 4096]
def La:LSO:=[Ao 2,Ac 3 5]
def K9:LSO:=[Aa 41 10,Aa 2 41,Ac 3 0]
def Me:aO:=⟨42,(akg NC [] (.seq (akg NB Cr (akg NA Cq (aki 14 (.sreg Nz Cv)))) (akg Ny [] (.seq (akg Nw [] (akj 0 (akg Nv [] (.seq (akk 19 0) (.seq (.block 1 (akg Nu Cr (akg Nt [] (akj 2 (akg Nr [] (.seq (akk 25 2) (.seq (.block 3 (akg Li Cr (.seq (akg Lh Cs (aki 31 (.sreg Lg []))) (.sreg Lf Cr)))) (.sreg Le Cq)))))))) (.sreg Ld Cq)))))) (akg Lc Cr (.seq (akg Lb Cr (aki 40 (.sreg La []))) (akg K9 Cv .ret))))))),[(.tmp 2),(.tmp 3)]⟩
attribute [push_cast] NC NB NA Nz Ny Nw Nv Nu Nt Nr Li Lh Lg Lf Le Ld Lc Lb La K9
theorem SS:akl 177=akm Me:=by kernel_rfl
def PK:LSO:=[Ao 2,Ac 3 0]
def PJ:LSO:=[Aa 7 0,Ak 8 177 7,Aa 6 8,Ar 9 6,Aw 10 6,Aa 4 9,Aa 5 10]
def PI:LSO:=[Aa 11 5,AF 12 11 0]
def PH:LSO:=[Aa 13 5,Ao 2,Aa 3 13]
def PG:LSO:=[Aa 14 0,o1 15 (.call 178 [(tm 14),(.av (.bool true))]),Aa 2 15,Ac 3 0]
def Pg:aO:=⟨16,(akg PK [] (.seq (akg PJ Cw (akg PI Cq (aki 12 (.sreg PH Cv)))) (akg PG C7 .ret))),[(.tmp 2),(.tmp 3)]⟩
attribute [push_cast] PK PJ PI PH PG
theorem U0:akl 140=akm Pg:=by kernel_rfl
def Q6:LSO:=[Ao 2,Ac 3 0]
def Q5:LSO:=[Aa 7 0,Ak 8 139 7,Aa 6 8,Ar 9 6,Aw 10 6,Aa 4 9,Aa 5 10]
def Q4:LSO:=[Aa 11 5,AF 12 11 0]
def Q3:LSO:=[Aa 13 5,Ao 2,Aa 3 13]
def Q2:LSO:=[Aa 14 4,Ak 15 140 14,Ar 16 15,Aw 17 15,Aa 2 16,Aa 3 17]
def Se:aO:=⟨18,(akg Q6 [] (akg Q5 CB (.seq (akg Q4 Cq (aki 12 (.sreg Q3 Cv))) (akg Q2 CI .ret)))),[(.tmp 2),(.tmp 3)]⟩
attribute [push_cast] Q6 Q5 Q4 Q3 Q2
theorem Wq:akl 100=akm Se:=by kernel_rfl
def cY:LSO:=[Af 4]
def cX:LSO:=[Aa 5 0,Aa 6 1,Ax 7 233 5 6,Bj 8 7 0,Aa 4 8]
def ci:aO:=⟨9,(akg cY [] (akg cX Ct .ret)),[(.tmp 4)]⟩
attribute [push_cast] cY cX
theorem fB:akl 208=akm ci:=by kernel_rfl
def dy:LSO:=[Ac 4 0]
def dx:LSO:=[Aa 6 0,Am 7 6,Ac 8 0]
def dw:LSO:=[Al 9 8 7]
def dv:LSO:=[Aa 10 8,Aa 5 10]
def du:LSO:=[Aa 11 1,Aa 12 0,Aa 13 5,An 14 2 12 13,Ap 15 2 14,Bw 16 11 15]
def dt:LSO:=[Aa 17 5,Aa 4 17]
def dr:LSO:=[Ag 18 8 1,Aa 8 18]
def dq:LSO:=[Ac 4 (-1)]
def cC:aO:=⟨19,(akg dy [] (.seq (akg dx Cv (akj 0 (akg dw [] (.seq (akk 9 0) (.seq (.block 1 (akg dv Cq (akg du Cu (aki 16 (.sreg dt Cq))))) (.sreg dr Cq)))))) (akg dq [] .ret))),[(.tmp 4)]⟩
attribute [push_cast] dy dx dw dv du dt dr dq
theorem fX:akl 233=akm cC:=by kernel_rfl
def wC:LSO:=[Ao 4,Ao 5,Af 6]
def wB:LSO:=[Aa 7 0,Aa 8 1,Ax 9 207 7 8,Ar 10 9,Aw 11 9,Bo 12 9,Aa 4 10,Aa 5 11,Aa 6 12]
def gR:aO:=⟨13,(akg wC [] (akg wB CM .ret)),[(.tmp 4),(.tmp 5),(.tmp 6)]⟩
attribute [push_cast] wC wB
theorem vt:akl 174=akm gR:=by kernel_rfl
def fj:LSO:=[Ao 4,Ao 5,Af 6]
def fi:LSO:=[Aa 8 0,Aa 9 1,Ax 10 159 8 9,Aa 7 10]
def fh:LSO:=[Aa 11 7,Bj 12 11 0]
def fg:LSO:=[Aa 13 0,Aa 14 7,o1 15 (.slS (tm 13) none (some (tm 14))),Aa 16 0,Aa 17 7,Aa 18 1,Au 19 18,AY 20 17 19,BX 21 16 20,Aa 4 15,Aa 5 21,A0 6]
def ff:LSO:=[Aa 22 0,Aa 4 22,Ao 5,Af 6]
def cg:aO:=⟨23,(akg fj [] (.seq (akg fi Cs (akg fh Cq (aki 12 (.sdreg fg [.pure,.pure,(.read 0 0),.pure,.pure,.pure,(.read 0 0),.pure,(.read 0 0),.pure] CS)))) (akg ff CA .ret))),[(.tmp 4),(.tmp 5),(.tmp 6)]⟩
attribute [push_cast] fj fi fh fg ff
theorem eL:akl 207=akm cg:=by kernel_rfl
attribute [push_cast] Ij Sd Mb wl Md Me Pg Se ci cC gR
set_option maxHeartbeats 8000000
set_option maxRecDepth 100000
theorem QN{n:Int}(h0 : -2147483648<=n)(h1:n<2147483648):IntKind.i32.wrap n=n:=by simp only[IntKind.wrap,IntKind.bits,IntKind.signed];simp;omega
theorem RQ{p:Nat}(h:p<s.length)(ha:(s.getD p 0).toNat<128):Qb s p=((s.getD p 0).toNat,1):=by
 have e:s.getD p 0=s[p]:=by simp[h]
 rw[e]at ha⊢;exact decode_ascii ⟨⟨s⟩⟩ p h ha
theorem TZ{p:Nat}(h:p<s.length)(ha:128<=(s.getD p 0).toNat):128<=(Qb s p).1:=by
 have e:s.getD p 0=s[p]:=by simp[h]
 rw[e]at ha;exact(decode_high ⟨⟨s⟩⟩ p h ha).1
def oH(x:Int):Bool:=(decide (97<=x)&&decide (x<=122)) ||(decide (65<=x)&&decide (x<=90))
theorem oG{x:Int}{L:List Blk}{K:ag7}(h:K (.bool (oH x)) L):ag6 191 [.int .i32 x] L K:=by
 refine ag5 Sc ?_
 all_goals (first|refine ae rfl (Kto h ?_)|refine aa (Kto h ?_)|refine ae (by simp only[AV.refs,AV.refsL, *];rfl) (Kto h ?_)|refine ba (ae rfl (Kto h ?_))|(trace_state;fail))
 all_goals (first|(simp[oH, *];done)|(simp[oH, *];omega)|(simp[oH, *];intros;omega)|(simp_all[Hid,oH];done)|(simp_all[Hid,oH];omega))
def Mo(x:Int):Bool:=oH x ||(decide (48<=x)&&decide (x<=57)) ||decide (x=45)
def eT(s:List UInt8):Bool:=decide (1<=s.length)&&decide (s.length<=32)&&oH ((s.getD 0 0).toNat:Int)&&s.all λc=>Mo (c.toNat:Int)
theorem S7{x:Int}(h:128<=x):Mo x=false:=by simp only[Mo,oH,ajC,ajl,decide_eq_false_iff_not];omega
theorem Um{s:List UInt8}{L:List Blk}{K:ag7}(h:K (.bool (eT s)) L):ag6 157 [.str s] L K:=by
 have no:eT s=false->K (.bool false) L:=λe=>by rw[<- e];exact h
 replace no:=hid no;replace h:=hid h;refine ad UZ (by simp[Pf]) ?_;simp only[Pf,am];by_cases h0:s=[];subst h0;refine wk ?_;exact aa (no.out rfl);have hlen:0<s.length:=ain.2 h0;by_cases h1:(32:Int)<(s.length:Int);refine wk ?_;exact aa (no.out (by simp[eT];omega));obtain⟨c0,hc0⟩:=ag2 (s.getD 0 0);have hr:=c0.toNat_lt;have w0:IntKind.i32.wrap (c0.toNat:Int)=(c0.toNat:Int):=QN (by omega) (by omega);cases hl0:oH (c0.toNat:Int)with
 | false =>
   have kk1:=@hid _ @oG;refine wk ?_;refine aa (no.out ?_);simp only[eT,hc0,hl0,Bool.and_false,aiE]
 | true =>
   have kk1:=@hid _ @oG;refine wk ?_;refine ak (λn T' L'=>∃p,n=s.length-p/\p<=s.length/\Hid (∀c∈s.take p,Mo (c.toNat:Int)=true)/\T'=[(20,.ptr L.length 0)]/\L'=L++[.siter s p]) (CutS (b:=by simp)) ⟨0,rfl,ahf _,hid (by simp),rfl,rfl⟩ ?_;rintro _ _ _ ⟨p,rfl,hp,hall,rfl,rfl⟩;by_cases hlt:p<s.length
   .obtain⟨c,hc⟩:=ag2 (s.getD p 0);have hmem:c∈s:=(by rw[<- hc];simp[hlt]);have htk:s.take (p+1)=s.take p++[c]:=(by rw[ahw hlt,<- hc];simp[hlt]);replace htk:=hid htk;have bad:Mo (c.toNat:Int)=false->K (.bool false) L:=λe=>no.out (by have:(s.all λc=>Mo (c.toNat:Int))=false:=List.all_eq_false.2 ⟨c,hmem,by rw[e];simp⟩;simp only[eT,this,Bool.and_false])
    replace bad:=hid bad;by_cases ha:c.toNat<128
    .have hd:=RQ hlt (by rw[hc];exact ha);rw[hc]at hd;obtain⟨x,hx⟩:∃x:Nat,c.toNat=x:=⟨_,rfl⟩;rw[hx]at hd bad;have hx':=hid hx;clear hx hc hmem ha hr w0;cases hxl:oH (x:Int)with
     | true =>
       have kk1:=@hid _ @oG;refine wk ?_;refine ah _ _ _ (by omega) (CutS (b:=by simp)) ⟨p+1,rfl,hlt,hid λd hd'=>?_,rfl,rfl⟩;rw[htk.out]at hd';rcases ahb.1 hd' with h|h
       .exact hall.out d h
       .rw[ahs.1 h,hx'.out,Mo,hxl];rfl
     | false =>
       repeat' first
        |refine br ?_
        | (first|refine bh (by kernel_rfl) ?_|refine aH (by kernel_rfl) ?_|refine aK ?_|refine cO ?_|refine bB (fun _=>?_)|refine aB ?_|refine bm ?_|refine oG ?_|refine bb (oG ⟨rfl,rfl⟩) (oG ⟨rfl,rfl⟩) ?_|refine aC (oG ⟨rfl,rfl⟩) ?_)
          refine sm ?_
        | (first|refine a8 (by kernel_rfl) ?_|refine bc ?_|refine aJ ?_|refine bj ?_|refine bG (aA ?_))
          refine sl ?_
        |exact bC
        |first|apply bD|apply be|apply bE|apply bf|apply bF|apply bg
        |refine aN ?_
        |refine aI ?_
        |first|refine aL rfl ?_|refine aM rfl ?_|refine aw rfl ?_ ?_|refine aQ rfl (λ_=>?_) (λ_=>?_)|refine aP rfl (λ_=>?_) (λ_=>?_)
        |((first|refine au (λ_=>?_) (λ_=>?_)|refine az (λ_=>?_) (λ_=>?_))<;>try refine sm ?_)
        |refine And.intro trivial ?_
        |refine And.intro (by omega) ?_
        |refine aU rfl (λ_=>?_) (λ_=>?_)
        |refine And.intro ?_ ?_
       .rename_i hb;refine ae rfl (bad.out ?_);simp only[Mo,hxl,aiJ,ajC,ajl,decide_eq_false_iff_not];omega
       .rename_i hb;refine ah _ _ _ (by omega) (CutS (b:=by simp)) ⟨p+1,rfl,hlt,hid λd hd'=>?_,rfl,rfl⟩;rw[htk.out]at hd';rcases ahb.1 hd' with h|h
        .exact hall.out d h
        .rw[ahs.1 h,hx'.out];simp only[Mo,hxl,aiJ,ahO,ahe,decide_eq_true_eq];omega
    .have hh:=TZ hlt (by rw[hc];omega);obtain⟨⟨x,wd⟩,hd⟩:∃q,Qb s p=q:=⟨_,rfl⟩;rw[hd]at hh;simp only at hh;have bad':=hid (bad.out (S7 (show(128:Int)<=(c.toNat:Int)by omega)));have hxl:oH (x:Int)=false:=by have:=S7 (show(128:Int)<=(x:Int)by omega);simp only[Mo,ajC]at this;exact this.1.1
     have f1:¬(x:Int)<48:=(by omega);have f2:(57:Int)<(x:Int):=(by omega);have f3:¬(x:Int)=45:=(by omega);clear hc hmem hr w0;have kk1:=@hid _ @oG;refine wk ?_;exact ae rfl bad'.out
   .have hke:p=s.length:=(by omega);subst hke;have h':=h.out;have e:eT s=true:=by
     have e1:(s.all λc=>Mo (c.toNat:Int))=true:=ahk.2 λc hcm=>hall.out c (by rw[ahr];exact hcm)
     simp only[eT,e1,hc0,hl0,ajg];simp;omega
    rw[e]at h';replace h':=hid h';clear e;refine wk ?_;exact ae rfl h'.out
variable {L:List Blk}{K:ag7}
abbrev Ava:=List UInt8×List UInt8
variable {r:List Ava}
def qC(a:Ava):List AV:=[.str a.1,.str a.2]
def aG(r:List Ava):List AV:=r.flatMap qC
abbrev WV(r:List Ava)(cap:Option Nat):AV:=.sl (aG r) r.length cap
def lu(r:List Ava)(typ:List UInt8):Bool:=r.any λa=>decide (af a.1=af typ)
theorem afL{a:Ava}(h1:(a.1.length:Int)<=100000)(h2:(typ.length:Int)<=100000)(hL:L[ip]?=some (.cells [.str typ]))(h:K (.bool (decide (af a.1=af typ))) L):
  ag6 209 [.agg (qC a),.ptr ip 0] L K:=by
 obtain⟨t,v⟩:=a;replace h:=hid h;have hip:ip<L.length:=(ag8.1 hL).1;have g1:(L++[Blk.cells [.str t,.str v]])[ip]?=some (.cells [.str typ]):=by rw[ahi hip];exact hL
 simp only[qC];refine ad SQ (by simp[Mc]) ?_;simp only[Mc,am];have kk1:=@hid _ (λL K=>HZ h1 (L:=L) (K:=K));have kk2:=@hid _ (λL K=>HZ h2 (L:=L) (K:=K));refine wk ?_;exact ae rfl h.out
theorem dF(r:List Ava):(aG r).length=r.length*2:=by
 induction r with
 |nil=>rfl
 |cons a r ih=>simp only[aG,aif,ahq,qC,ahj,ahX]at ih⊢;omega
theorem fQ:∀{r:List Ava}{k:Nat},k<r.length->((aG r).drop (k*2)).take 2=qC (r.getD k ([],[]))
 |a::r,0,_=>rfl
 |a::r,k+1,h=>by have ih:=@fQ r k (by simpa using h);rw[show(k+1)*2=k*2+1+1 by omega];simpa[aG,qC]using ih
theorem ab1(hn:r.length<=100000)(h1:∀a∈r,(a.1.length:Int)<=100000)(h2:(typ.length:Int)<=100000)(hL:L[ip]?=some (.cells [.str typ]))(hno:lu r typ=false->K (.int .i64 (-1)) L)(hyes:∀k:Nat,lu r typ=true->K (.int .i64 k) L):ag6 233 [WV r cap,.func 209 [.ptr ip 0]] L K:=by
 replace hno:=hid hno;replace hyes:=hid hyes;replace h1:=hid h1;refine ag5 fX ?_;refine ak (λn T' L'=>∃(k:Nat),n=r.length-k/\k<=r.length/\Hid (lu (r.take k) typ=false)/\T'=[(8,.int .i64 (k:Int)),(7,.int .i64 r.length),(0,WV r cap),(1,.func 209 [.ptr ip 0])]/\L=L') (CutS (b:=ag9 _)) ⟨0,rfl,ahf _,hid rfl,rfl,rfl⟩ ?_;rintro _ _ _ ⟨k,rfl,hk,hf,rfl,rfl⟩;by_cases hlt:k<r.length;have g1:(k:Int)<(r.length:Int):=by omega
 have g2:=ag4 k (by omega);have e1:=fQ hlt;have e2:k*2+2<=(aG r).length:=by rw[dF];omega
 obtain⟨a,ha⟩:=ag2 (r.getD k ([],[]));have ham:a∈r:=by rw[<- ha];simp[hlt]
 have htk:r.take (k+1)=r.take k++[a]:=by rw[ahw hlt,<- ha];simp[hlt]
 rw[ha]at e1;have hs:lu (r.take (k+1)) typ=decide (af a.1=af typ):=by have:=hf.out;simp only[lu]at this⊢;rw[htk,ajX,this];simp
 have hall:decide (af a.1=af typ)=true->lu r typ=true:=λe=>ajD.2 ⟨a,ham,e⟩
 replace hall:=hid hall;replace hs:=hid hs;replace htk:=hid htk;have ha1:=hid (h1.out a ham);clear ha ham;refine wk ?_;refine afL ha1.out h2 hL ?_;refine sk ?_;cases hd:decide (af a.1=af typ)with
 | true =>
   have hy:=hid (hyes.out k (hall.out hd));replace hd:=hid hd;refine wk ?_;exact aa hy.out
 | false =>
   replace hd:=hid hd;refine wk ?_;exact ah _ _ _ (by omega) (CutS (b:=ag9 _)) ⟨k+1,rfl,hlt,hid (by rw[hs.out,hd.out]),rfl,rfl⟩
 have hke:k=r.length:=by omega
 subst hke;have g1:¬(r.length:Int)<(r.length:Int):=by omega
 have hn':=hf.out;rw[ahr]at hn';have hy:=hid (hno.out hn');clear hn';refine wk ?_;exact aa hy.out
theorem Wl(hn:r.length<=100000)(h1:∀a∈r,(a.1.length:Int)<=100000)(h2:(typ.length:Int)<=100000)(hL:L[ip]?=some (.cells [.str typ]))(h:K (.bool (lu r typ)) L):
  ag6 208 [WV r cap,.func 209 [.ptr ip 0]] L K:=by
 replace h:=hid h;refine ag5 fB ?_;refine ab1 hn h1 h2 hL (λe=>?_) (λk e=>?_);have h':=h.out;rw[e]at h';replace h':=hid h';refine sk ?_;refine wk ?_;exact aa h'.out;have h':=h.out;rw[e]at h';replace h':=hid h';have g:(0:Int)<=(k:Int):=by omega
 refine sk ?_;refine wk ?_;exact aa h'.out
theorem ae0(hn:r.length<=100000)(h1:∀a∈r,(a.1.length:Int)<=100000)(h2:(typ.length:Int)<=100000)(h:K (.bool (lu r typ)) L):
  ag6 175 [WV r cap,.str typ] L K:=by
 replace h:=hid h;refine ag5 Wp ?_;refine Wl hn h1 h2 (by simp) ?_;refine sk ?_;refine wk ?_;exact ae rfl h.out
theorem fm{a:List UInt8}{c:UInt8}{L:List Blk}{K:ag7}(h:K (.int .i64 (Lib.indexByte a c)) L):ag6 210 [.str a,.int .u8 c.toNat] L K :=
 cW Tryz.func210 rfl (by kernel_rfl) (λw0 S0 E w vs hR hv=>by simp only[VRL,VR]at hv;obtain⟨_,_,rfl,rfl,_,_,rfl,rfl,rfl⟩:=hv;exact(Tryz.strings_IndexByte ⟨⟨a⟩⟩ c.toNat w).mono λe w' ⟨he,hw⟩=>⟨_,he,by simp[VR],by subst hw;exact rT.refl _⟩) h
theorem pN(a:List UInt8)(c:UInt8):(0<=Lib.indexByte a c)↔c∈a:=by
 induction a with
 |nil=>simp[Lib.indexByte]
 | cons b l ih =>
   have hge:=Lib.indexByte_ge l c;unfold Lib.indexByte;by_cases hb:b=c
   .simp[hb]
   .have e1:(b == c)=false:=(by simpa using hb);rw[e1];simp only[ahp,if_false];have e2:c∈b::l↔c∈l:=(by simp[Ne.symm hb]);rw[e2,<- ih];split
    .rename_i h;simp at h;omega
    .rename_i h;simp at h;omega
theorem bp(c d:UInt8):(c.toNat:Int)=(d.toNat:Int)↔c=d:=by constructor;intro h;exact aiS.1 (by omega);rintro rfl;rfl
def wrB(i n:Nat)(c:UInt8):List UInt8 :=
 if c=0 then[92,48,48]else if(i=0/\(c=32\/c=35))\/(i+1=n/\c=32)\/c∈[34,43,44,59,60,62,92]then[92,c]else[c]
def wrL(n:Nat):Nat->List UInt8->List UInt8
 |_,[]=>[]
 |i,c::s=>wrB i n c++wrL n (i+1) s
def eu(s:List UInt8):List UInt8:=wrL s.length 0 s
theorem adu(i n:Nat)(c:UInt8):(wrB i n c).length<=3:=by unfold wrB;split;simp;split<;>simp
theorem ft(hs:s.length<=100000)(h:K (.str (eu s)) L):ag6 213 [.str s] L K:=by
 replace h:=hid h;have g0:IntKind.i64.wrap ((s.length:Int)-1)=(s.length:Int)-1:=ac (by omega) (by omega);refine ag5 Qs ?_;refine bX (l:=[]) (n:=0) 3 1 rfl (ahD 1).symm ?_;refine ak (λn T' L'=>∃(i m:Nat) (b:List UInt8),n=s.length-i/\i<=s.length/\m<=3*i/\Hid (m=b.length/\b++wrL s.length i (s.drop i)=eu s)/\T'=[(10,.int .i64 (i:Int)),(9,.int .i64 s.length),(8,.sl (u8s s) s.length none),(3,.gsl (u8s b) m L.length 1),(0,.str s)]/\L'=L++[.spare m 1]) (CutS (b:=by simp)) ⟨0,0,[],rfl,ahf _,by omega,hid ⟨rfl,rfl⟩,rfl,rfl⟩ ?_;rintro _ _ _ ⟨i,m,b,rfl,hi,hm,hb,rfl,rfl⟩;by_cases hlt:i<s.length
 .have g1:(i:Int)<(s.length:Int):=(by omega);have g2:=ag4 i (by omega);obtain⟨c,hc⟩:=ag2 (s.getD i 0);have g3:(u8s s).getD i .undef=.int .u8 c.toNat:=(by rw[<- hc];simp[u8s,hlt]);have hdr:s.drop i=c::s.drop (i+1):=(by rw[ahV hlt,<- hc];simp[hlt]);have hb2:=hb.out.2;rw[hdr]at hb2;simp only[wrL]at hb2;have g4:=iZ;have g5:(u8s s).length=s.length:=(by simp[u8s]);clear hc hdr;replace hb2:=hid hb2
  repeat' first
   |refine br ?_
   | (first|refine bh (by kernel_rfl) ?_|refine aH (by kernel_rfl) ?_|refine aK ?_|refine cO ?_|refine bB (fun _=>?_)|refine aB ?_|refine bm ?_|refine fm ?_|refine bb (fm ⟨rfl,rfl⟩) (fm ⟨rfl,rfl⟩) ?_|refine aC (fm ⟨rfl,rfl⟩) ?_)
     refine sm ?_
   | (first|refine a8 (by kernel_rfl) ?_|refine bc ?_|refine aJ ?_|refine bj ?_|refine bG (aA ?_))
     refine sl ?_
   |exact bC
   |first|apply bD|apply be|apply bE|apply bf|apply bF|apply bg
   |refine aN ?_
   |refine aI ?_
   |first|refine aL rfl ?_|refine aM rfl ?_|refine aw rfl ?_ ?_|refine aQ rfl (λ_=>?_) (λ_=>?_)|refine aP rfl (λ_=>?_) (λ_=>?_)
   |((first|refine au (λ_=>?_) (λ_=>?_)|refine az (λ_=>?_) (λ_=>?_))<;>try refine sm ?_)
   |refine And.intro trivial ?_
   |refine And.intro (by omega) ?_
   |refine aU rfl (λ_=>?_) (λ_=>?_)
   |refine And.intro ?_ ?_
  rfl;omega;rename_i h0;have hc0:=(bp c 0).1 h0;rw[show u8s b++AV.frzL (u8s [92,48,48])=u8s (b++[92,48,48])by simp[u8s,AV.frzL,AV.frz]];refine ah _ _ _ (by omega) (CutL (b:=by simp)) ⟨i+1,m+3,b++[92,48,48],rfl,hlt,by omega,hid ⟨by simp[hb.out.1],?_⟩,rfl,rfl⟩;rw[<- hb2.out,wrB,if_pos hc0,aho];rename_i h0 h1;have hc0:¬c=0:=λe=>h0 ((bp c 0).2 e)
  have hq:(i=0/\(c=32\/c=35))\/(i+1=s.length/\c=32)\/c∈[34,43,44,59,60,62,92]:=by rcases h1 with(⟨e1,e2⟩|⟨e1,e2⟩)|e;exact .inl ⟨by omega,e2.imp (bp c 32).1 (bp c 35).1⟩;exact .inr (.inl ⟨by omega,(bp c 32).1 e2⟩);exact .inr (.inr ((pN _ _).1 e))
  rw[show u8s b++[AV.int IntKind.u8 92,AV.int IntKind.u8 (c.toNat:Int)]=u8s (b++[92,c])by simp[u8s]];refine ah _ _ _ (by omega) (CutL (b:=by simp)) ⟨i+1,m+1+1,b++[92,c],rfl,hlt,by omega,hid ⟨by simp[hb.out.1],?_⟩,rfl,rfl⟩;rw[<- hb2.out,wrB,if_neg hc0,if_pos hq,aho];rename_i h0 h1;have hc0:¬c=0:=λe=>h0 ((bp c 0).2 e)
  have hq:¬((i=0/\(c=32\/c=35))\/(i+1=s.length/\c=32)\/c∈[34,43,44,59,60,62,92]):=λhq=>h1 (by rcases hq with⟨e1,e2⟩|⟨e1,e2⟩|e;exact .inl (.inl ⟨by omega,e2.imp (bp c 32).2 (bp c 35).2⟩);exact .inl (.inr ⟨by omega,(bp c 32).2 e2⟩);exact .inr ((pN _ _).2 e))
  rw[show u8s b++[AV.int IntKind.u8 (c.toNat:Int)]=u8s (b++[c])by simp[u8s]];refine ah _ _ _ (by omega) (CutL (b:=by simp)) ⟨i+1,m+1,b++[c],rfl,hlt,by omega,hid ⟨by simp[hb.out.1],?_⟩,rfl,rfl⟩;rw[<- hb2.out,wrB,if_neg hc0,if_neg hq,aho]
 have hke:i=s.length:=by omega
 subst hke;have g1:¬(s.length:Int)<(s.length:Int):=by omega
 have e1:=iZ b;have e2:=gw b;have e:=hb.out.2;rw[ahU,wrL,ahG]at e;have h':=h.out;rw[<- e]at h';replace h':=hid h';clear e;refine wk ?_;exact ae rfl h'.out
abbrev pT:List UInt8:=[34,43,44,59,60,62,92,32,35,61]
def fF:List UInt8->Bool->List UInt8->Option (List UInt8×List UInt8×Bool)
 |b,bl,[]=>some (b,[], !bl)
 | b,bl,c::s=>if c=44\/c=43 then some (b,c::s, !bl)
   else if c≠92 then(if c=0\/c∈([34,59,60,62]:List UInt8)\/(b=[]/\(c=32\/c=35))then none else fF (b++[c]) (decide (c=32)) s)
   else match s with
    |[]=>none
    | d::s1=>if d∈pT then fF (b++[d]) false s1 else match s1 with
      |[]=>none
      | e::s2=>match N1 d e with
        |none=>none
        |some x=>fF (b++[x]) false s2
def YP(o:Option (List UInt8×List UInt8×Bool)):AV:=match o with
 |none=>.tup [.str [],.str [],.bool false]
 |some (v,r,f)=>.tup [.str v,.str r,.bool f]
theorem mU  :fF b bl []=some (b,[], !bl):=by rw[fF.eq_def]
theorem pL{c:UInt8}(h:c=44\/c=43):fF b bl (c::s)=some (b,c::s, !bl):=by rw[fF.eq_def];simp only[if_pos h]
theorem mD{c:UInt8}(h:¬(c=44\/c=43))(h2:c≠92):fF b bl (c::s)=if c=0\/c∈([34,59,60,62]:List UInt8)\/(b=[]/\(c=32\/c=35))then none else fF (b++[c]) (decide (c=32)) s:=by rw[fF.eq_def];simp only[if_neg h,if_pos h2]
theorem Iu  :fF b bl [92]=none:=by rw[fF.eq_def];rfl
theorem rV(h:d∈pT):fF b bl (92::d::s)=fF (b++[d]) false s:=by rw[fF.eq_def];simp only[show ¬((92:UInt8)=44\/(92:UInt8)=43)by decide,if_false,ne_eq,not_true_eq_false,if_pos h]
theorem It(h:¬d∈pT):fF b bl [92,d]=none:=by rw[fF.eq_def];simp only[show ¬((92:UInt8)=44\/(92:UInt8)=43)by decide,if_false,ne_eq,not_true_eq_false,if_neg h]
theorem DV{e:UInt8}(h:¬d∈pT):fF b bl (92::d::e::s)=match N1 d e with|none=>none|some x=>fF (b++[x]) false s:=by rw[fF.eq_def];simp only[show ¬((92:UInt8)=44\/(92:UInt8)=43)by decide,if_false,ne_eq,not_true_eq_false,if_neg h]
theorem mz{i:Nat}(h:i<s.length):s.drop i=s.getD i 0::s.drop (i+1):=by rw[ahV h];simp[h]
theorem adv(hs:s.length<=100000)(h:K (YP (fF [] false s)) L):ag6 176 [.str s] L K:=by
 replace h:=hid h;refine ag5 SP ?_;refine bX (l:=[]) (n:=0) 5 1 rfl (ahD 1).symm ?_;refine ak (λn T' L'=>∃(i m:Nat) (b:List UInt8) (bl:Bool),n=s.length-i/\i<=s.length/\m<=i/\Hid (m=b.length/\fF b bl (s.drop i)=fF [] false s)/\T'=[(7,.int .i64 (i:Int)),(6,.bool bl),(5,.gsl (u8s b) m L.length 1),(0,.str s)]/\L'=L++[.spare m 1]) (CutS (b:=by simp)) ⟨0,0,[],false,rfl,ahf _,by omega,hid ⟨rfl,rfl⟩,rfl,rfl⟩ ?_;rintro _ _ _ ⟨i,m,b,bl,rfl,hi,hm,hb,rfl,rfl⟩;have e1:=iZ b;have e2:=gw b;by_cases hlt:i<s.length
 .have g1:(i:Int)<(s.length:Int):=(by omega);have g2:=ag4 i (by omega);obtain⟨c,hc⟩:=ag2 (s.getD i 0);have hdr:=mz hlt;rw[hc]at hdr;have hb2:=hb.out.2;rw[hdr]at hb2;have hds:(s.drop i).take (s.length-i)=s.drop i:=aib (by simp);have hl1:(i:Int)<=(s.length:Int):=(by omega);by_cases hcc:c=44\/c=43;rw[pL hcc]at hb2;have h':=h.out;rw[<- hb2]at h';simp only[YP]at h';rw[<- hdr]at h';replace h':=hid h';have k1:((c.toNat:Int)=44)\/((c.toNat:Int)=43):=hcc.imp (bp c 44).2 (bp c 43).2;clear hb2 hcc hdr;rcases k1 with k1|k1;refine wk ?_;exact ae rfl h'.out;refine wk ?_;exact ae rfl h'.out
  .have k1:¬(c.toNat:Int)=44:=λe=>hcc (.inl ((bp c 44).1 e))
   have k2:¬(c.toNat:Int)=43:=λe=>hcc (.inr ((bp c 43).1 e))
   by_cases h92:c=92;subst h92;have g3:IntKind.i64.wrap ((i:Int)+2)=(i:Int)+2:=ac (by omega) (by omega);have g4:IntKind.i64.wrap ((i:Int)+3)=(i:Int)+3:=ac (by omega) (by omega);have g5:IntKind.i64.wrap ((i:Int)+1+1)=(i:Int)+1+1:=ac (by omega) (by omega);have g6:IntKind.i64.wrap ((i:Int)+2+1)=(i:Int)+2+1:=ac (by omega) (by omega);have t1:((i:Int)+1).toNat=i+1:=(by omega);have t3:((i:Int)+3).toNat=i+3:=(by omega);by_cases h1:i+1<s.length;have f1:(i:Int)+1<(s.length:Int):=(by omega);obtain⟨d,hd⟩:=ag2 (s.getD (i+1) 0);have hdr1:=mz h1;rw[hd]at hdr1;rw[hdr1]at hb2;by_cases hsp:d∈pT;rw[rV hsp]at hb2;have f2:=(pN pT d).2 hsp;clear hdr hdr1;replace hb2:=hid hb2;have kk1:=@hid _ @fm;refine wk ?_;rw[show u8s b++[AV.int IntKind.u8 (d.toNat:Int)]=u8s (b++[d])by simp[u8s],show decide (((UInt8.toNat 92:Nat):Int)=32)=false from rfl];refine ah _ _ _ (by omega) (CutL (b:=by simp)) ⟨i+1+1,m+1,b++[d],false,rfl,h1,by omega,hid ⟨by simp[hb.out.1],hb2.out⟩,rfl,rfl⟩;have f2:¬0<=Lib.indexByte pT d:=λe=>hsp ((pN pT d).1 e)
   by_cases h2:i+2<s.length;have f3:(i:Int)+2<(s.length:Int):=(by omega);have f4:(i:Int)+1<=(i:Int)+3:=(by omega);have f5:(i:Int)+3<=(s.length:Int):=(by omega);have f6:(0:Int)<=(i:Int)+1:=(by omega);obtain⟨e,he⟩:=ag2 (s.getD (i+2) 0);have hdr2:=mz h2;rw[he]at hdr2;rw[hdr2,DV hsp]at hb2;have hcut:(s.drop (i+1)).take (i+3-(i+1))=[d,e]:=by rw[hdr1,hdr2,show i+3-(i+1)=2 by omega];rfl
   clear hdr hdr1 hdr2;replace hb2:=hid hb2;have kk1:=@hid _ @fm;refine wk ?_;refine aaK ?_;rcases hx:N1 d e with _|x;rw[show LR d e=.tup [.str [],.bool false]by simp only[LR,hx]];have h':=h.out;rw[<- hb2.out,hx]at h';simp only[YP]at h';replace h':=hid h';clear hx;refine sk ?_;refine wk ?_;exact ae rfl h'.out;rw[show LR d e=.tup [.str [x],.bool true]by simp only[LR,hx]];have hb3:=hb2.out;rw[hx]at hb3;simp only at hb3;replace hb3:=hid hb3;have q1:[x].getD 0 0=x:=rfl;clear hx hb2;refine sk ?_;refine wk ?_;rw[show u8s b++[AV.int IntKind.u8 (x.toNat:Int)]=u8s (b++[x])by simp[u8s],show decide (((UInt8.toNat 92:Nat):Int)=32)=false from rfl];refine ah _ _ _ (by omega) (CutL (b:=by simp)) ⟨i+2+1,m+1,b++[x],false,rfl,h2,by omega,hid ⟨by simp[hb.out.1],hb3.out⟩,rfl,rfl⟩;have f3:¬(i:Int)+2<(s.length:Int):=(by omega);have hnil:s.drop (i+1+1)=[]:=aiN (by omega);rw[hnil,It hsp]at hb2;have h':=h.out;rw[<- hb2]at h';replace h':=hid h';clear hdr hdr1 hb2;have kk1:=@hid _ @fm;refine wk ?_;exact ae rfl h'.out;have f1:¬(i:Int)+1<(s.length:Int):=(by omega);have f3:¬(i:Int)+2<(s.length:Int):=(by omega);have hnil:s.drop (i+1)=[]:=aiN (by omega);rw[hnil,Iu]at hb2;have h':=h.out;rw[<- hb2]at h';replace h':=hid h';clear hdr hb2;have kk1:=@hid _ @fm;refine wk ?_;exact ae rfl h'.out
   .rw[mD hcc h92]at hb2;have k3:¬(c.toNat:Int)=92:=λe=>h92 ((bp c 92).1 e)
    clear hdr;replace hb2:=hid hb2
    repeat' first
     |refine br ?_
     | (first|refine bh (by kernel_rfl) ?_|refine aH (by kernel_rfl) ?_|refine aK ?_|refine cO ?_|refine bB (fun _=>?_)|refine aB ?_|refine bm ?_|refine fm ?_|refine bb (fm ⟨rfl,rfl⟩) (fm ⟨rfl,rfl⟩) ?_|refine aC (fm ⟨rfl,rfl⟩) ?_)
       refine sm ?_
     | (first|refine a8 (by kernel_rfl) ?_|refine bc ?_|refine aJ ?_|refine bj ?_|refine bG (aA ?_))
       refine sl ?_
     |exact bC
     |first|apply bD|apply be|apply bE|apply bf|apply bF|apply bg
     |refine aN ?_
     |refine aI ?_
     |first|refine aL rfl ?_|refine aM rfl ?_|refine aw rfl ?_ ?_|refine aQ rfl (λ_=>?_) (λ_=>?_)|refine aP rfl (λ_=>?_) (λ_=>?_)
     |((first|refine au (λ_=>?_) (λ_=>?_)|refine az (λ_=>?_) (λ_=>?_))<;>try refine sm ?_)
     |refine And.intro trivial ?_
     |refine And.intro (by omega) ?_
     |refine aU rfl (λ_=>?_) (λ_=>?_)
     |refine And.intro ?_ ?_
    rename_i hx;have hbad:c=0\/c∈([34,59,60,62]:List UInt8)\/(b=[]/\(c=32\/c=35)):=by rcases hx with(e|e)|⟨e,e'⟩;exact .inl ((bp c 0).1 e);exact .inr (.inl ((pN _ _).1 e));refine .inr (.inr ⟨ahH.1 ?_,e'.imp (bp c 32).1 (bp c 35).1⟩);have:=hb.out.1;omega
    have h':=h.out;rw[<- hb2.out,if_pos hbad]at h';exact ae rfl h';rename_i hx;have hbad:¬(c=0\/c∈([34,59,60,62]:List UInt8)\/(b=[]/\(c=32\/c=35))):=λe=>hx (by rcases e with e|e|⟨e,e'⟩;exact .inl (.inl ((bp c 0).2 e));exact .inl (.inr ((pN _ _).2 e));refine .inr ⟨?_,e'.imp (bp c 32).2 (bp c 35).2⟩;have:=hb.out.1;rw[e]at this;simp at this;omega)
    have hc32:decide ((c.toNat:Int)=32)=decide (c=32):=by have:=bp c 32;simp only[decide_eq_decide];exact this
    rw[show u8s b++[AV.int IntKind.u8 (c.toNat:Int)]=u8s (b++[c])by simp[u8s],hc32];refine ah _ _ _ (by omega) (CutL (b:=by simp)) ⟨i+1,m+1,b++[c],decide (c=32),rfl,hlt,by omega,hid ⟨by simp[hb.out.1],?_⟩,rfl,rfl⟩;rw[<- hb2.out,if_neg hbad]
 have hke:i=s.length:=by omega
 subst hke;have g1:¬(s.length:Int)<(s.length:Int):=by omega
 have h':=h.out;rw[<- hb.out.2,ahU,mU]at h';simp only[YP]at h';replace h':=hid h';have hds:(s.drop s.length).take (s.length-s.length)=[]:=by simp
 refine wk ?_;exact ae rfl h'.out
def kX:List UInt8->Option (List UInt8×List UInt8)
 |[]=>none
 | c::s=>if c=61 then some ([],s) else match kX s with
   |none=>none
   |some (a,b)=>some (c::a,b)
theorem RS:∀s:List UInt8,(Lib.indexByte s 61=-1/\kX s=none)\/∃n:Nat,n<s.length/\Lib.indexByte s 61=(n:Int)/\kX s=some (s.take n,s.drop (n+1))
 |[]=>.inl ⟨rfl,rfl⟩
 | c::s=>by
   by_cases hc:c=61
   .subst hc;exact .inr ⟨0,by simp,by simp[Lib.indexByte],by simp[kX]⟩
   .have e1:(c == 61)=false:=(by simpa using hc);unfold Lib.indexByte;rw[e1];simp only[ahp,if_false,kX,if_neg hc];rcases RS s with⟨h1,h2⟩|⟨n,h0,h1,h2⟩
    .exact .inl ⟨by rw[h1];rfl,by rw[h2]⟩
    .refine .inr ⟨n+1,by simp;omega,?_,by rw[h2];simp⟩;rw[h1];have:((n:Int) == -1)=false:=(by simp);rw[this];simp
def RR(s:List UInt8):AV:=match kX s with
 |some (a,b)=>.tup [.str a,.str b,.bool true]
 |none=>.tup [.str s,.str [],.bool false]
theorem VZ{a:List UInt8}{c:UInt8}{L:List Blk}{K:ag7}(h:K (.int .i64 (Lib.indexByte a c)) L):ag6 159 [.str a,.str [c]] L K :=
 cW Tryz.func159 rfl (by kernel_rfl) (λw0 S0 E w vs hR hv=>by simp only[VRL,VR]at hv;obtain⟨_,_,rfl,rfl,_,_,rfl,rfl,rfl⟩:=hv;exact(Tryz.stringslite_Index_one ⟨⟨a⟩⟩ c w).mono λe w' ⟨he,hw⟩=>⟨_,he,by simp[VR],by subst hw;exact rT.refl _⟩) h
theorem acE(hs:s.length<=100000)(h:K (RR s) L):ag6 207 [.str s,.str [61]] L K:=by
 have hl:[(61:UInt8)].length=1:=rfl;rcases RS s with⟨h1,h2⟩|⟨n,h0,h1,h2⟩;simp only[RR,h2]at h;replace h:=hid h;clear h2;refine ad eL (by simp[cg]) ?_;simp only[cg,am];have kk1:=@hid _ @VZ;refine wk ?_;exact aa h.out;simp only[RR,h2]at h;replace h:=hid h;have g1:(0:Int)<=(n:Int):=by omega
 have g2:=ag4 n (by omega);have g3:(n:Int)<=(s.length:Int):=by omega
 have g4:(n:Int)+1<=(s.length:Int):=by omega
 have g5:(0:Int)<=(n:Int)+1:=by omega
 have g6:((n:Int)+1).toNat=n+1:=by omega
 have g7:(s.drop (n+1)).take (s.length-(n+1))=s.drop (n+1):=aib (by simp);clear h2;refine ad eL (by simp[cg]) ?_;simp only[cg,am];have kk1:=@hid _ @VZ;refine wk ?_;exact aa h.out
theorem agy(hs:s.length<=100000)(h:K (RR s) L):ag6 174 [.str s,.str [61]] L K:=by
 rcases hc:kX s with _|⟨a,b⟩
 all_goals
  simp only[RR,hc]at h;replace h:=hid h
 refine ag5 vt ?_;refine acE hs ?_;simp only[RR,hc];refine sk ?_;refine wk ?_;exact aa h.out;refine ag5 vt ?_;refine acE hs ?_;simp only[RR,hc];refine sk ?_;refine wk ?_;exact aa h.out
abbrev Rdn:=List Ava
abbrev cq(r:Rdn):AV:=WV r none
def qB:Nat->List Rdn->Rdn->List UInt8->List Rdn×Int
 |0,_,_,_=>([],4)
 | f+1,out,now,s=>if out.length=32\/now.length=8 then ([],9) else match kX s with
   |none=>([],4)
   | some (typ,rest)=>if eT typ=false then ([],4) else if lu now typ=true then ([],21) else match fF [] false rest with
     |none=>([],4)
     | some (v,r2,ok)=>if ok=false then ([],4) else match r2 with
       |[]=>(out++[now++[(typ,v)]],0)
       |c::s'=>if c=44 then qB f (out++[now++[(typ,v)]]) [] s' else qB f out (now++[(typ,v)]) s'
def vb(s:List UInt8):List Rdn×Int:=if 4096<s.length then([],5)else if s=[]then([],0)else qB (s.length+1) [] [] s
def W2(p:List Rdn×Int):AV:=.tup [.sl (p.1.map cq) p.1.length none,.int .i64 p.2]
theorem Wj:∀{s a b:List UInt8},kX s=some (a,b)->b.length<s.length/\a.length<=s.length
 |[],a,b,h=>by simp[kX]at h
 | c::s,a,b,h=>by
   simp only[kX]at h;split at h
   .simp only[aha,ahm]at h;obtain⟨rfl,rfl⟩:=h;simp
   .split at h
    .cases h
    .rename_i a' b' hc;simp only[aha,ahm]at h;obtain⟨rfl,rfl⟩:=h;have:=Wj hc;simp;omega
theorem aaJ:∀(n:Nat){s b:List UInt8}{bl:Bool}{v r:List UInt8}{ok:Bool},s.length<=n->fF b bl s=some (v,r,ok)->r.length<=s.length:=by
 intro n;induction n with
 | zero =>
   intro s b bl v r ok hn h;obtain rfl:=ahH.1 (Nat.le_zero.1 hn);rw[mU]at h;cases h;simp
 | succ n ih =>
   intro s b bl v r ok hn h;cases s with
   |nil=>rw[mU]at h;cases h;simp
   | cons c s =>
     simp only[ahj]at hn;by_cases hc:c=44\/c=43
     .rw[pL hc]at h;cases h;simp
     by_cases h92:c=92
     .subst h92;cases s with
      |nil=>rw[Iu]at h;cases h
      | cons d s =>
        by_cases hd:d∈pT
        .rw[rV hd]at h;have:=ih (by simp at hn;omega) h;simp;omega
        .cases s with
         |nil=>rw[It hd]at h;cases h
         | cons e s =>
           rw[DV hd]at h;split at h
           .cases h
           .have:=ih (by simp at hn;omega) h;simp;omega
     .rw[mD hc h92]at h;split at h
      .cases h
      .have:=ih (by omega) h;simp;omega
section
variable {P:Program}{N:Nat}{own:Nat->Nat->Nat}{Q:Exit->Tm->List Blk->Prop}{T:Tm}{L:List Blk}
theorem Va{lc:bW}(t sz B:Nat){l:List AV}{n:Nat}{v:AV}(ht:an T t=some v)(hB:B<L.length)(hv:(v=.sl [] 0 (some 0)/\l=[]/\n=0)\/∃i,B<i/\v=.gsl l n i sz/\L[i]?=some (.spare n sz))(h:∀i X,B<i->(L++X)[i]?=some (.spare n sz)->AW P N own lc Q ((t,.gsl l n i sz)::T) (L++X)):AW P N own lc Q T L:=by
 rcases hv with⟨rfl,rfl,rfl⟩|⟨i,hBi,rfl,hi⟩;exact bX t sz ht (by simp) (h L.length [.spare 0 sz] hB (by simp));have h':=h i [] hBi (by simpa using hi);rw[ahG]at h';refine h'.weakT λt' v' e=>?_
 simp only[an]at e;split at e;rename_i e1;subst e1;cases e;exact ht;exact e
end
variable {L:List Blk}{K:ag7}
set_option maxHeartbeats 8000000
set_option maxRecDepth 100000
def af4(B:Nat)(r:Rdn)(v:AV)(L:List Blk):Prop:=(v=.sl [] 0 (some 0)/\aG r=[]/\r.length=0)\/∃i,B<i/\v=.gsl (aG r) r.length i 2/\L[i]?=some (.spare r.length 2)
theorem Ue(r:Rdn)(t v:List UInt8):aG (r++[(t,v)])=aG r++[.str t,.str v]:=by simp[aG,qC]
theorem iS(r:Rdn):AV.frzL (aG r)=aG r:=by
 induction r with
 |nil=>rfl
 |cons a r ih=>simpa[aG,qC,AV.frzL,AV.frz]using ih
theorem fV{L0 X:List Blk}{e:Int}{K:ag7}(h:K (W2 ([],e)) L0):Fin L0 (.tup [.sl [] 0 (some 0),.int .i64 e]) (L0++X) K:=ba (ae rfl h)
theorem sc(d:List Rdn):AV.frzL (d.map cq)=d.map cq:=by
 rw[AV.frzL_eq,ahK];refine aiT λr _=>?_
 simp only[Function.comp,AV.frz,iS]
theorem aai(q:Nat->Bool)(r:Rdn):AV.refsL q (aG r)=true:=by
 induction r with
 |nil=>rfl
 |cons a r ih=>simpa[aG,qC,AV.refsL,AV.refs]using ih
theorem Iz(q:Nat->Bool):∀d:List Rdn,AV.refsL q (d.map cq)=true
 |[]=>rfl
 |r::d=>by simp only[ahl,AV.refsL,AV.refs,aai,Iz q d,ah7]
theorem rW(h:eT s=true):s.length<=32:=by simp only[eT,ahe,decide_eq_true_eq]at h;exact h.1.1.2
theorem afK{r:Rdn}{i n:Nat}(hr:r.length=n)(hn:n<=8)(h1:∀a∈r,a.1.length<=32)(h2:typ.length<=4096)(h:K (.bool (lu r typ)) L):
  ag6 175 [.gsl (aG r) n i 2,.str typ] L K:=by
 subst hr;exact iU (by simpa only[AV.frzL,AV.frz,iS]using ae0 (cap:=none) (by omega) (λa ha=>by have:=h1 a ha;omega) (by omega) h)
theorem ad3(h:K (W2 (vb s)) L):ag6 139 [.str s] L K:=by
 refine ad ST (by simp[Mf]) ?_;simp only[Mf,am];by_cases h1:4096<s.length;have f1:(4096:Int)<(s.length:Int):=by omega
 rw[vb,if_pos h1]at h;replace h:=hid h;clear h1;refine wk ?_;exact ba (aa h.out);have f1:¬(4096:Int)<(s.length:Int):=by omega
 rw[vb,if_neg h1]at h;by_cases h2:s=[];rw[if_pos h2]at h;replace h:=hid h;refine wk ?_;exact ba (aa h.out);rw[if_neg h2]at h;replace h:=hid h;have hs:=hid (show s.length<=4096 by omega);clear h1;obtain⟨R,hR⟩:=ag2 (qB (s.length+1) [] [] s);rw[hR]at h;refine wk ?_;refine bX (l:=[]) (n:=0) 4 1 rfl (ahD 1).symm ?_;refine ak (λn T' L'=>∃(f m:Nat) (out:List Rdn) (now:Rdn) (u:List UInt8) (v:AV) (X:List Blk),f=n/\u.length<=4096/\m=out.length/\m<=32/\now.length<=8/\Hid (u.length<f/\qB f out now u=R/\(∀a∈now,a.1.length<=32)/\af4 L.length now v L')/\L'[L.length]?=some (.spare m 1)/\T'=[(5,v),(4,.gsl (out.map cq) m L.length 1),(0,.str u)]/\L'=L++X) (CutS (b:=by simp)) ⟨s.length+1,0,[],[],s,_,[.spare 0 1],rfl,hs.out,rfl,by omega,by simp,hid ⟨by omega,hR,by simp,.inl ⟨rfl,rfl,rfl⟩⟩,by simp,rfl,rfl⟩ ?_;clear h2;clear hs;rintro _ _ _ ⟨f,m,out,now,u,v,X,rfl,hu,hm,hm32,hn8,hI,ho,rfl,rfl⟩;obtain⟨hf,hp,ht,hv⟩:=hI.out;clear hI;clear hR;obtain⟨f,rfl⟩:∃g,f=g+1:=⟨f-1,by omega⟩;have hB:L.length<(L++X).length:=(ag8.1 ho).1;refine Va 5 2 L.length rfl hB hv λi Y hBi hi=>?_
 rw[aho]at hi⊢;have ho2:(L++(X++Y))[L.length]?=some (.spare m 1):=by rw[<- aho,ahi hB];exact ho
 generalize X++Y=Z at hi ho2⊢;clear ho hB hv;have s5:∀A,(L++Z).set i A=L++Z.set (i-L.length) A:=λA=>ahT _ _ (by omega)
 have s4:∀(W:List Blk) A,(L++W).set L.length A=L++W.set 0 A:=λW A=>by rw[ahT _ _ (ag9 _),aiv]
 have hz:i-L.length≠0:=by omega
 have s54:∀A,(L++Z.set (i-L.length) A)[L.length]?=some (.spare m 1):=λA=>by rw[<- s5,ahx (by omega)];exact ho2
 have s55:∀A,(L++Z.set (i-L.length) A)[i]?=some A:=λA=>by rw[<- s5,ahv,if_pos rfl,if_pos (ag8.1 hi).1]
 have hul:=hu;obtain⟨c,hc⟩:∃c:Nat,now.length=c:=⟨_,rfl⟩;rw[qB]at hp;rw[hc]at hp hi hn8⊢;by_cases hlim:out.length=32\/c=8;rw[if_pos hlim]at hp;have h':=h.out;rw[<- hp]at h';replace h':=hid h';have k:(m:Int)=32\/(m:Int)≠32/\(c:Int)=8:=by omega
 clear hp hlim;clear hm;rcases k with k|⟨k,k'⟩;refine wk ?_;exact fV h'.out;refine wk ?_;exact fV h'.out;rw[if_neg hlim]at hp;have k1:¬(m:Int)=32:=by omega
 have k2:¬(c:Int)=8:=by omega
 replace hm:=hid hm;clear hlim;replace hp:=hid hp;replace ht:=hid ht;refine wk ?_;refine agy (by omega) ?_;rcases hcut:kX u with _|⟨typ,rest⟩;rw[show RR u=.tup [.str u,.str [],.bool false]by simp only[RR,hcut]];have h':=h.out;rw[<- hp.out,hcut]at h';simp only at h';replace h':=hid h';refine sk ?_;refine wk ?_;exact fV h'.out;rw[show RR u=.tup [.str typ,.str rest,.bool true]by simp only[RR,hcut]];have hp2:=hp.out;rw[hcut]at hp2;simp only at hp2;have hlen:=Wj hcut;replace hp2:=hid hp2;clear hcut hp;refine sk ?_;cases hty:eT typ with
 | false =>
   have h':=h.out;rw[<- hp2.out,if_pos hty]at h';replace h':=hid h';have kk1:=@hid _ @Um;refine wk ?_;exact fV h'.out
 | true =>
   have hp3:=hp2.out;rw[if_neg (by rw[hty];simp)]at hp3;replace hp3:=hid hp3;clear hp2;have kk1:=@hid _ @Um;refine wk ?_;refine afK hc hn8 ht.out (by omega) ?_;cases hha:lu now typ with
   | true =>
     have h':=h.out;rw[<- hp3.out,if_pos hha]at h';replace h':=hid h';refine sk ?_;refine wk ?_;exact fV h'.out
   | false =>
     have hp4:=hp3.out;rw[if_neg (by rw[hha];simp)]at hp4;replace hp4:=hid hp4;clear hp3;refine sk ?_;refine wk ?_;refine adv (by omega) ?_;rcases hvl:fF [] false rest with _|⟨w,r2,okk⟩
     .have h':=h.out;rw[<- hp4.out,hvl]at h';simp only at h';replace h':=hid h';simp only[YP];refine sk ?_;refine wk ?_;exact fV h'.out
     .have hp5:=hp4.out;rw[hvl]at hp5;simp only at hp5;have hl2:=aaJ _ (ag9 _) hvl;replace hp5:=hid hp5;clear hp4 hvl;simp only[YP];refine sk ?_;cases okk with
      | false =>
        have h':=h.out;rw[<- hp5.out,if_pos rfl]at h';replace h':=hid h';refine wk ?_;exact fV h'.out
      | true =>
        have hp6:=hp5.out;rw[if_neg (by simp)]at hp6;replace hp6:=hid hp6;clear hp5;have q1:(c+1)*32<=140737488355328:=(by omega);have q2:c+1<=140737488355328:=(by omega);have q3:(m+1)*24<=140737488355328:=(by omega);have q4:m+1<=140737488355328:=(by omega);have e1:aG now++[AV.str typ,AV.str w]=aG (now++[(typ,w)]):=(Ue _ _ _).symm;have e2:out.map cq++[AV.sl (AV.frzL (aG now++[AV.str typ,AV.str w])) (c+1) none]=(out++[now++[(typ,w)]]).map cq:=by rw[e1,iS,ahE];simp[hc]
        have e3:(out++[now++[(typ,w)]]).length=m+1:=(by simp[hm.out]);have e4:(now++[(typ,w)]).length=c+1:=(by simp[hc]);have e5:∀a∈now++[(typ,w)],a.1.length<=32:=λa ha=>by
         rcases ahb.1 ha with h|h
         .exact ht.out a h
         .rw[ahs.1 h];exact rW hty
        replace e1:=hid e1;replace e2:=hid e2;replace e3:=hid e3;replace e4:=hid e4;replace e5:=hid e5;cases r2 with
        | nil =>
          have h':=h.out;rw[<- hp6.out]at h';simp only at h';replace h':=hid h';refine wk ?_;rw[e2.out];refine ba (ae ?_ ?_)
          .simp only[AV.frz,AV.frzL,sc,AV.refs,AV.refsL,Iz,ah7]
          .simp only[AV.frz,AV.frzL,sc];have:=h'.out;simp only[W2,e3.out]at this;exact this
        | cons x s' =>
          simp only at hp6;have q5:¬(x::s'=[]):=(by simp);have q7:((s'.length:Int)+1).toNat-1=s'.length:=(by omega);have q8:s'.take (((s'.length:Int)+1).toNat-1)=s':=(by rw[q7,ahr]);simp only[ahj]at hl2;clear q7;replace q8:=hid q8;by_cases hx:x=44
          .subst hx;refine wk ?_;rw[q8.out,e2.out];refine ah _ _ _ ?_ (CutS (b:=?_)) ⟨f,m+1,out++[now++[(typ,w)]],[],s',.sl [] 0 (some 0),_,rfl,by omega,e3.out.symm,by omega,by simp,hid ⟨by omega,?_,by simp,.inl ⟨rfl,rfl,rfl⟩⟩,?_,rfl,rfl⟩
           .omega
           .have:=(ag8.1 ho2).1;simp at this⊢;omega
           .rw[<- hp6.out,if_pos rfl]
           .have:=(ag8.1 ho2).1;rw[<- s4,ahv,if_pos rfl,if_pos (by simp at this⊢;omega)]
          .have q6:¬(x.toNat:Int)=44:=λe=>hx ((bp x 44).1 e)
           refine wk ?_;rw[q8.out,e1.out];refine ah _ _ _ ?_ (CutS (b:=?_)) ⟨f,m,out,now++[(typ,w)],s',.gsl (aG (now++[(typ,w)])) (c+1) i 2,_,rfl,by omega,hm.out,hm32,by rw[e4.out];omega,hid ⟨by omega,?_,e5.out,.inr ⟨i,hBi,by rw[e4.out],by rw[e4.out];exact s55 _⟩⟩,s54 _,rfl,rfl⟩
           .omega
           .have:=(ag8.1 ho2).1;simp at this⊢;omega
           .rw[<- hp6.out,if_neg hx]
def dJ:Rdn->Rdn->Int
 |_,[]=>0
 |done,a::t=>if done.length=8 then 9 else if eT a.1=false then 20 else if lu done a.1=true then 21 else dJ (done++[a]) t
def lv:Nat->List Rdn->Int
 |_,[]=>0
 |i,r::t=>if i=32 then 9 else if r=[]then 2 else if dJ [] r≠0 then dJ [] r else lv (i+1) t
theorem LG{d:List Rdn}{k:Nat}(h:k<d.length):(d.map cq).getD k .undef=cq (d.getD k []):=by simp[h]
theorem Ph{r:Rdn}{k:Nat}:(aG r).take (k*2)=aG (r.take k):=by
 induction r generalizing k with
 |nil=>simp[aG]
 | cons a r ih =>
   cases k with
   |zero=>simp[aG]
   | succ k =>
     have:=@ih k;simp only[aG]at this;rw[show(k+1)*2=k*2+1+1 by omega];simp[aG,qC,this]
theorem afJ{r:Rdn}{n:Nat}(hr:r.length=n)(hn:n<=8)(h1:∀a∈r,a.1.length<=32)(h2:typ.length<=32)(h:K (.bool (lu r typ)) L):
  ag6 175 [.sl (aG r) n cap,.str typ] L K:=by
 subst hr;exact ae0 (by omega) (λa ha=>by have:=h1 a ha;omega) (by omega) h
theorem aew{d:List Rdn}(hn:d.length<=1100000)(hr:∀r∈d,r.length<=1100000)(h:K (.int .i64 (lv 0 d)) L):ag6 212 [.sl (d.map cq) d.length cap] L K:=by
 replace h:=hid h;have hat:=hid (λk=>@LG d k);replace hr:=hid hr;refine ag5 SR ?_;refine ak (λn T' L'=>∃(i:Nat) (X:List Blk),n=d.length-i/\i<=d.length/\i<=32/\Hid (lv i (d.drop i)=lv 0 d)/\T'=[(9,.int .i64 (i:Int)),(8,.int .i64 d.length),(7,.sl (d.map cq) d.length cap)]/\L'=L++X) (CutS (b:=by simp)) ⟨0,[],rfl,ahf _,by omega,hid rfl,rfl,by simp⟩ ?_;rintro _ _ _ ⟨i,X,rfl,hi,hi32,he,rfl,rfl⟩;by_cases hlt:i<d.length
 .have g1:(i:Int)<(d.length:Int):=(by omega);have g2:=ag4 i (by omega);have e2:=hat.out i hlt;have hrl:=hr.out (d.getD i []) (by rw[ahz,ahn hlt];exact ah9 _);obtain⟨r,hri⟩:=ag2 (d.getD i []);have hdr:d.drop i=r::d.drop (i+1):=(by rw[ahV hlt,<- hri];simp[hlt]);rw[hri]at e2 hrl;have he2:=he.out;rw[hdr,lv]at he2;clear hdr hri;by_cases h32:i=32;rw[if_pos h32]at he2;have h':=h.out;rw[<- he2]at h';replace h':=hid h';have k1:(i:Int)=32:=(by omega);have g1':(32:Int)<(d.length:Int):=(by omega);clear h32 he2;refine wk ?_;exact ae rfl h'.out;rw[if_neg h32]at he2;have k1:¬(i:Int)=32:=(by omega);by_cases hr0:r=[];rw[if_pos hr0]at he2;subst hr0;have h':=h.out;rw[<- he2]at h';replace h':=hid h';clear h32 he2;refine wk ?_;exact ae rfl h'.out;rw[if_neg hr0]at he2;have k2:¬(r.length:Int)=0:=(by have:=ain.2 hr0;omega);have herr:∀e:Int,dJ [] r=e->e≠0->K (.int .i64 e) L:=λe a1 a2=>by rw[if_pos (by rw[a1];exact a2),a1]at he2;rw[he2];exact h.out
  replace herr:=hid herr;replace he2:=hid he2;clear h32;refine wk ?_;refine ak (λn T' L'=>∃(k:Nat) (Y:List Blk),n=r.length-k/\k<=r.length/\k<=8/\Hid (dJ (r.take k) (r.drop k)=dJ [] r/\∀a∈r.take k,a.1.length<=32)/\T'=[(23,.int .i64 (k:Int)),(22,.int .i64 r.length),(21,cq r),(4,cq r),(9,.int .i64 (i:Int)),(8,.int .i64 d.length),(7,.sl (d.map cq) d.length cap)]/\L'=L++(X++Y)) (CutS (b:=by simp)) ⟨0,[],rfl,ahf _,by omega,hid ⟨rfl,by simp⟩,rfl,by simp⟩ ?_;rintro _ _ _ ⟨k,Y,rfl,hk,hk8,hrow,rfl,rfl⟩;by_cases hkl:k<r.length
  .have g3:(k:Int)<(r.length:Int):=(by omega);have g4:=ag4 k (by omega);have e3:=fQ hkl;have e4:k*2+2<=(aG r).length:=(by rw[dF];omega);obtain⟨⟨ty,va⟩,ha⟩:∃a,r.getD k ([],[])=a:=⟨_,rfl⟩;have hdk:r.drop k=(ty,va)::r.drop (k+1):=(by rw[ahV hkl,<- ha];simp[hkl]);have htk:r.take (k+1)=r.take k++[(ty,va)]:=(by rw[ahw hkl,<- ha];simp[hkl]);rw[ha]at e3;simp only[qC]at e3;obtain⟨hr1,hr2⟩:=hrow.out;rw[hdk,dJ]at hr1;have hlk:(r.take k).length=k:=(by simp;omega);rw[hlk]at hr1;clear hdk ha hrow;have e5:(aG r).take (k*2)=aG (r.take k):=Ph;have g5:(k:Int)<=(r.length:Int):=(by omega);replace hr1:=hid hr1;replace hr2:=hid hr2;replace htk:=hid htk;have e6:=hid hlk;clear hlk
   repeat' first
    |refine br ?_
    | (first|refine bh (by kernel_rfl) ?_|refine aH (by kernel_rfl) ?_|refine aK ?_|refine cO ?_|refine bB (fun _=>?_)|refine aB ?_|refine bm ?_)
      refine sm ?_
    | (first|refine a8 (by kernel_rfl) ?_|refine bc ?_|refine aJ ?_|refine bj ?_|refine bG (aA ?_))
      refine sl ?_
    |exact bC
    |first|apply bD|apply be|apply bE|apply bf|apply bF|apply bg
    |refine aN ?_
    |refine aI ?_
    |first|refine aL rfl ?_|refine aM rfl ?_|refine aw rfl ?_ ?_|refine aQ rfl (λ_=>?_) (λ_=>?_)|refine aP rfl (λ_=>?_) (λ_=>?_)
    |((first|refine au (λ_=>?_) (λ_=>?_)|refine az (λ_=>?_) (λ_=>?_))<;>try refine sm ?_)
    |refine And.intro trivial ?_
    |refine And.intro (by omega) ?_
    |refine aU rfl (λ_=>?_) (λ_=>?_)
    |refine And.intro ?_ ?_
   rename_i h8;have h':=herr.out 9 (by rw[<- hr1.out,if_pos (by omega)]) (by decide);exact ae rfl h';rename_i h8;have hr3:=hr1.out;rw[if_neg (by omega)]at hr3;refine Um ?_;cases hty:eT ty with
   | false =>
     have h':=hid (herr.out 20 (by rw[<- hr3,if_pos hty]) (by decide));clear hr3;refine sk ?_;refine wk ?_;exact ae rfl h'.out
   | true =>
     rw[if_neg (by rw[hty];simp)]at hr3;replace hr3:=hid hr3;have htl:=rW hty;refine sk ?_;refine wk ?_;refine aC (afJ e6.out (by omega) hr2.out htl ⟨rfl,rfl⟩) ?_;cases hha:lu (r.take k) ty with
     | true =>
       have h':=hid (herr.out 21 (by rw[<- hr3.out,if_pos hha]) (by decide));refine sk ?_;refine wk ?_;exact ae rfl h'.out
     | false =>
       have hr4:=hr3.out;rw[if_neg (by rw[hha];simp),<- htk.out]at hr4;replace hr4:=hid hr4;clear hr3;refine sk ?_;refine wk ?_;refine ah _ _ _ (by omega) (CutS (b:=by simp)) ⟨k+1,Y++[.cells [.str ty,.str va]],rfl,hkl,by omega,hid ⟨hr4.out,λa ha=>?_⟩,rfl,by simp⟩;rw[htk.out]at ha;rcases ahb.1 ha with h|h
       .exact hr2.out a h
       .rw[ahs.1 h];exact htl
  have hke:k=r.length:=(by omega);subst hke;have g3:¬(r.length:Int)<(r.length:Int):=(by omega);have hz:=hrow.out.1;rw[ahU,dJ]at hz;have he3:=he2.out;rw[<- hz]at he3;simp only[ne_eq,not_true_eq_false,if_false]at he3;replace he3:=hid he3;clear hz;refine wk ?_;exact ah _ _ _ (by omega) (CutS (b:=by simp)) ⟨i+1,X++Y,rfl,hlt,by omega,hid he3.out,rfl,rfl⟩
 have hke:i=d.length:=by omega
 subst hke;have g1:¬(d.length:Int)<(d.length:Int):=by omega
 have h':=h.out;rw[<- he.out,ahU,lv]at h';replace h':=hid h';refine wk ?_;exact ae rfl h'.out
end Go.Proofs.YtcmfcpjnhephaaaGreatDoor.Av
namespace Go.Proofs
open Go.Shelf
def Tryz.lays190_ren:Go.Shelf.Ren:=⟨λ|190=>214|125=>149|258=>235|128=>187|129=>188|302=>243|303=>244|304=>245|305=>246|306=>247|307=>248|308=>249|309=>250|310=>251|333=>254|329=>217|330=>218|334=>255|335=>256|336=>257|344=>260|n=>n,λ|31=>22|9=>9|3=>3|46=>176|0=>0|51=>76|53=>232|4=>4|183=>240|182=>239|131=>133|5=>5|218=>265|222=>125|228=>288|229=>156|n=>n,λ|n=>n⟩
theorem Tryz.lays190:Go.Proofs.Lays.n190 Tryz.prog Tryz.lays190_ren:={
 mixed:=by kernel_rfl
 f125:=Tryz.func149.trans (congrArg some (by kernel_rfl))
 f128:=Tryz.func187.trans (congrArg some (by kernel_rfl))
 f129:=Tryz.func188.trans (congrArg some (by kernel_rfl))
 f190:=Tryz.func214.trans (congrArg some (by kernel_rfl))
 f258:=Tryz.func235.trans (congrArg some (by kernel_rfl))
 f302:=Tryz.func243.trans (congrArg some (by kernel_rfl))
 f303:=Tryz.func244.trans (congrArg some (by kernel_rfl))
 f304:=Tryz.func245.trans (congrArg some (by kernel_rfl))
 f305:=Tryz.func246.trans (congrArg some (by kernel_rfl))
 f306:=Tryz.func247.trans (congrArg some (by kernel_rfl))
 f307:=Tryz.func248.trans (congrArg some (by kernel_rfl))
 f308:=Tryz.func249.trans (congrArg some (by kernel_rfl))
 f309:=Tryz.func250.trans (congrArg some (by kernel_rfl))
 f310:=Tryz.func251.trans (congrArg some (by kernel_rfl))
 f329:=Tryz.func217.trans (congrArg some (by kernel_rfl))
 f330:=Tryz.func218.trans (congrArg some (by kernel_rfl))
 f333:=Tryz.func254.trans (congrArg some (by kernel_rfl))
 f334:=Tryz.func255.trans (congrArg some (by kernel_rfl))
 f335:=Tryz.func256.trans (congrArg some (by kernel_rfl))
 f336:=Tryz.func257.trans (congrArg some (by kernel_rfl))
 f344:=Tryz.func260.trans (congrArg some (by kernel_rfl))
 t0:=Tryz.underlying0
 a0:=Tryz.isAgg0
 z0:=Tryz.sizeOf0
 v0:=Tryz.zeroValue0
 t3:=Tryz.underlying3
 a3:=Tryz.isAgg3
 z3:=Tryz.sizeOf3
 v3:=Tryz.zeroValue3
 t4:=Tryz.underlying4
 a4:=Tryz.isAgg4
 z4:=Tryz.sizeOf4
 v4:=Tryz.zeroValue4
 t5:=Tryz.underlying5
 a5:=Tryz.isAgg5
 z5:=Tryz.sizeOf5
 v5:=Tryz.zeroValue5
 t9:=Tryz.underlying9
 a9:=Tryz.isAgg9
 z9:=Tryz.sizeOf9
 v9:=Tryz.zeroValue9
 t31:=Tryz.underlying22
 a31:=Tryz.isAgg22
 z31:=Tryz.sizeOf22
 v31:=Tryz.zeroValue22
 t46:=Tryz.underlying176
 a46:=Tryz.isAgg176
 z46:=Tryz.sizeOf176
 v46:=Tryz.zeroValue176
 t51:=Tryz.underlying76
 a51:=Tryz.isAgg76
 z51:=Tryz.sizeOf76
 v51:=Tryz.zeroValue76
 t53:=Tryz.underlying232
 a53:=Tryz.isAgg232
 z53:=Tryz.sizeOf232
 v53:=Tryz.zeroValue232
 t131:=Tryz.underlying133
 a131:=Tryz.isAgg133
 z131:=Tryz.sizeOf133
 v131:=Tryz.zeroValue133
 t182:=Tryz.underlying239
 a182:=Tryz.isAgg239
 z182:=Tryz.sizeOf239
 v182:=Tryz.zeroValue239
 t183:=Tryz.underlying240
 a183:=Tryz.isAgg240
 z183:=Tryz.sizeOf240
 v183:=Tryz.zeroValue240
 t218:=Tryz.underlying265
 a218:=Tryz.isAgg265
 z218:=Tryz.sizeOf265
 v218:=Tryz.zeroValue265
 t222:=Tryz.underlying125
 a222:=Tryz.isAgg125
 z222:=Tryz.sizeOf125
 v222:=Tryz.zeroValue125
 t228:=Tryz.underlying288
 a228:=Tryz.isAgg288
 z228:=Tryz.sizeOf288
 v228:=Tryz.zeroValue288
 t229:=Tryz.underlying156
 a229:=Tryz.isAgg156
 z229:=Tryz.sizeOf156
 v229:=Tryz.zeroValue156}
open Go.Sort Go.RowKit in
theorem Tryz.slices_Sort_string(blk off cap:Nat)(ss:List (List UInt8))(w:World)(hH:Holds encStr w blk off ss.toArray)(hblk:blk<w.heap.size)(hsz:ss.length<4611686018427387904):
 Calls Tryz.prog 214 #[.slice (some ⟨blk,off,none⟩) ss.length cap] w λe w' =>
  e=.returned (.tuple #[])/\∃n os,w'=grow (putRow encStr (Sort.ahead w n) blk off (ss.mergeSort λx y=>decide (x<=y)).toArray) os:=Any.slices_Sort_string Tryz.lays190 blk off cap ss w hH hblk hsz
open Go.RowKit Go.Sort in
theorem Tryz.slices_Sort_string_none(p:Option Addr)(cap:Nat)(w:World):
 Calls Tryz.prog 214 #[.slice p 0 cap] w λe w'=>e=.returned (.tuple #[])/\w'=w:=Any.slices_Sort_string_none Tryz.lays190 p cap w
end Go.Proofs
