/- Joined texts of the walk, made small by a program. -/
import Derived.Test.YtcmfcpjnhephaaaGreatDoorFk4
import Derived.Test.YtcmfcpjnhephaaaGreatDoorRows
import Derived.KernelRfl
import Derived.Test.YtcmfcpjnhephaaaGreatDoorFk6
set_option linter.unusedSimpArgs false
set_option linter.unusedVariables false
set_option maxRecDepth 100000
namespace Go.Proofs.YtcmfcpjnhephaaaGreatDoor.Av
open Go
def Em:LSO:=[Af 4]
def El:LSO:=[Aa 7 0,Al 8 7,Ab 9 0]
def Ek:LSO:=[Ak 10 9 8]
def Ej:LSO:=[An 11 1 7 9,Ac 12 1 11,Aa 6 12]
def Ei:LSO:=[Aa 13 6,Aa 14 1,AA 15 13 14]
def Eh:LSO:=[Ay 4]
def Eg:LSO:=[Ah 16 9 1,Aa 9 16]
def Ef:LSO:=[Af 4]
def CS:br:=⟨17,(.seq (.sreg Em [])
 (.seq (.seq (.sreg El [])
 (.block 0 (.loop (.seq (.sreg Ek [])
 (.seq (.cond (tm 10) .skip
 (.exit 0))
 (.seq (.block 1 (.seq (.sreg Ej Ce)
 (.seq (.sreg Ei Ce)
 (.cond (tm 15) (.seq (.sreg Eh [])
 .ret)
 .skip))))
 (.sreg Eg Cd)))))))
 (.seq (.sreg Ef [])
 .ret))),[(.tmp 4)]⟩
attribute [push_cast] Em El Ek Ej Ei Eh Eg Ef
theorem Mi:bt Tryz.prog (fun _ _=>1) 82=some CS.raw:=by kernel_rfl
attribute [push_cast] CS
set_option maxHeartbeats 8000000
set_option maxRecDepth 100000
abbrev Atr:=List UInt8×List (List UInt8)
theorem fA (p:Nat->Bool) (xs:List (List UInt8)):AV.refsL p (xs.map AV.str)=true:=AV.refsL_iff.2 fun a ha=>by
 obtain ⟨x,_,rfl⟩:=ZC.1 ha;rfl
theorem UT (xs:List (List UInt8)):(xs.map AV.str).all AV.one=true:=by
 rw [ZJ];intro a ha;obtain ⟨x,_,rfl⟩:=ZC.1 ha;rfl
abbrev atA (a:Atr):List AV:=[.str a.1,.sl (a.2.map AV.str) a.2.length none]
def be (l:List Atr):List AV:=l.flatMap atA
theorem Dy (a:Atr) (l:List Atr):be (a::l)=.str a.1 :: .sl (a.2.map AV.str) a.2.length none::be l:=rfl
theorem IQ (l m:List Atr):be (l++m)=be l++be m:=by simp [be]
theorem kO (l:List Atr):(be l).length=l.length * 2:=by
 induction l with
 | nil=>rfl
 | cons a l ih=>rw [Dy];simp only [ZN];omega
theorem Dx (p:Nat->Bool):∀ l:List Atr,AV.refsL p (be l)=true
 | []=>rfl
 | a::l=>by rw [Dy];simp [AV.refsL,AV.refs,fA,Dx p l]
theorem dD (l:List (List UInt8)):AV.frzL (l.map AV.str)=l.map AV.str:=by rw [AV.frzL_eq,Z4];rfl
theorem gq:∀ l:List Atr,AV.frzL (be l)=be l
 | []=>rfl
 | a::l=>by rw [Dy];simp only [AV.frzL,AV.frz,dD,gq l]
theorem l3:∀ {l:List Atr} {k:Nat},k<l.length->((be l).drop (k * 2)).take 2=atA (l.getD k ([],[]))
 | a::l,0,_=>rfl
 | a::l,k+1,h=>by
   have ih:=@l3 l k (by simpa using h);rw [show (k+1) * 2=k * 2+1+1 by omega,Dy];simpa using ih
abbrev G9 (l:List (List UInt8)):AV:=.sl (l.map AV.str) l.length none
theorem VX {l:List Atr} {k:Nat} (hk:k<l.length):(be l).getD (k * 2+1) .undef=G9 (l.getD k ([],[])).2:=by
 have h2:=congrArg (fun l=>l[1]?) (l3 hk);simp only [aas (show 1<2 by omega),aan] at h2;rw [Z2,h2];rfl
end Go.Proofs.YtcmfcpjnhephaaaGreatDoor.Av
set_option maxRecDepth 100000
namespace Go.Proofs.YtcmfcpjnhephaaaGreatDoor.Av
open Go
def wR:LSO:=[Aj 2]
def wQ:LSO:=[Aj 3]
def wP:LSO:=[Aa 6 0,Al 7 6,Ab 8 0]
def wO:LSO:=[Ak 9 8 7]
def wN:LSO:=[An 10 2 6 8,Aw 11 2 10,Bk 5,Ao 2 5 11]
def wM:List (ai×Kd) :=
 [A4 12 3,A0 13 0 5,Ax 14 1 13 0 1,od 15 (.bslice false 1 0 [] []) (.read 0 0),A0 16 1 5,Ax 17 1 16 0 0,od 18 (.app 0 1 16 [(.str [])] (tm 15) (tm 17)) .eff,
 od 19 (.build [(.str []),(.sl [] 0 (some 0))] [(0,(1,(tm 14))),(1,(1,(tm 18)))]) .pure,od 20 (.bslice false 2 1 [(.str []),(.sl [] 0 (some 0))] [(0,(2,(tm 19)))]) (.read 0 0)]
def sx:List ai :=
 [⟨(some 21),(.app 1 2 40 [(.str []),(.sl [] 0 (some 0))] (tm 12) (tm 20)),none⟩,⟨(some 3),(.mv (tm 21)),none⟩]
def wL:LSO:=[Ah 22 8 1,Aa 8 22]
def wK:LSO:=[Aa 23 3,Aa 2 23]
def rF:br:=⟨24,(.seq (.sreg wR [])
 (.seq (.sreg wQ [])
 (.seq (.seq (.sreg wP [])
 (.block 0 (.loop (.seq (.sreg wO [])
 (.seq (.cond (tm 9) .skip
 (.exit 0))
 (.seq (.block 1 (.seq (.sreg wN Ce)
 (.dregM wM sx C6)))
 (.sreg wL Cd)))))))
 (.seq (.sreg wK Cd)
 .ret)))),[(.tmp 2)]⟩
attribute [push_cast] wR wQ wP wO wN wM sx wL wK
theorem KE:bt Tryz.prog (fun r i=>if r=5/\i=6 then 0 else 1) 86=some rF.raw:=by kernel_rfl
def E8:LSO:=[Af 2]
def E7:LSO:=[Aa 7 0,Al 8 7,Ab 9 0]
def E6:LSO:=[Ak 10 9 8]
def E5:LSO:=[An 11 2 7 9,Aw 12 2 11,Bk 4,Ao 2 4 12]
def EZ:LSO:=[Aa 13 0,Al 14 13,A3 15 14 60,Aa 16 15,.grp none 16 false
 [Be 17 16 1 4,AN 18 16 1 17,BB 19 16 18,A8 20 16 19 60]
 21 (tm 20)]
def EY:LSO:=[Af 2]
def EX:LSO:=[Ad 22 1 4,Ac 23 1 22,Al 24 23,Ab 25 0]
def EW:LSO:=[Ak 26 25 24]
def EV:LSO:=[An 27 1 23 25,Ac 28 1 27,Aa 6 28]
def EU:LSO:=[Aa 29 6,Ap 30 29,A3 31 30 5000]
def zF:LSO:=[Af 2]
def zE:LSO:=[Ah 32 25 1,Aa 25 32]
def zD:LSO:=[Ah 33 9 1,Aa 9 33]
def zC:LSO:=[Ay 2]
def CY:br:=⟨34,(.seq (.sreg E8 [])
 (.seq (.seq (.sreg E7 [])
 (.block 0 (.loop (.seq (.sreg E6 [])
 (.seq (.cond (tm 10) .skip
 (.exit 0))
 (.seq (.block 1 (.seq (.sreg E5 Ce)
 (.seq (.seq (.sreg EZ Cg)
 (.cond (tm 21) (.seq (.sreg EY [])
 .ret)
 .skip))
 (.seq (.sreg EX Cu)
 (.block 2 (.loop (.seq (.sreg EW [])
 (.seq (.cond (tm 26) .skip
 (.exit 2))
 (.seq (.block 3 (.seq (.sreg EV Ce)
 (.seq (.sreg EU Ce)
 (.cond (tm 31) (.seq (.sreg zF [])
 .ret)
 .skip))))
 (.sreg zE Cd))))))))))
 (.sreg zD Cd)))))))
 (.seq (.sreg zC [])
 .ret))),[(.tmp 2)]⟩
attribute [push_cast] E8 E7 E6 E5 EZ EY EX EW EV EU zF zE zD zC
theorem Mn:bt Tryz.prog (fun _ _=>1) 33=some CY.raw:=by kernel_rfl
attribute [push_cast] rF CY
variable {L:List Blk} {K:Zy}
set_option maxHeartbeats 8000000
set_option maxRecDepth 100000
theorem WN {l:List Atr} {cap:Option Nat} (hl:l.length<=1100000) (hz:∀ a∈l,a.2.length<=1100000) (h:K (.sl (be l) l.length none) L) :
  Zx 86 [.sl (be l) l.length cap] L K:=by
 replace h:=hid h;refine Zw KE ?_;refine cG (l:=[]) (n:=0) 3 2 rfl (aae 2).symm ?_;refine ak (fun m T' L'=>∃ (k:Nat) (C:List AV) (X:List Blk),m=l.length - k/\k<=l.length/\C=be (l.take k)/\T'=[(8,.int .i64 (k:Int)),(7,.int .i64 l.length),(6,.sl (be l) l.length cap),(3,.gsl C k L.length 2)]/\L'=L++(.spare k 2::X)) (CutS (b:=by simp)) ⟨0,[],[],rfl,ZI _,rfl,rfl,rfl⟩ ?_;rintro _ _ _ ⟨k,C,X,rfl,hk,hC,rfl,rfl⟩;by_cases hlt:k<l.length
 ·have g1:(k:Int)<(l.length:Int):=by omega
  have g2:=Zv k (by omega);have e3:=l3 hlt;have e4:k * 2+2<=(be l).length:=by rw [kO];omega
  obtain ⟨⟨nm,vs⟩,ha⟩:∃ a,l.getD k ([],[])=a:=⟨_,rfl⟩;have htk:be (l.take (k+1))=be (l.take k)++[.str nm,.sl (vs.map AV.str) vs.length none]:=by
   rw [ZY hlt,IQ,show l[k]=(nm,vs) by rw [<- ha];simp [hlt]];rfl
  have hvs:=hz (nm,vs) (by rw [<- ha];simp [hlt]);simp only at hvs;rw [ha] at e3;simp only [atA] at e3;have e0:AV.frzL (vs.map AV.str)=vs.map AV.str:=dD vs;replace htk:=hid htk;replace hC:=hid hC;clear ha hz;refine wk ?_;exact aj _ _ _ (by omega) (CutL (b:=by simp)) ⟨k+1,_,_,rfl,hlt,by rw [htk.out,hC.out],rfl,rfl⟩
 ·have hke:k=l.length:=by omega
  subst hke;have g1:¬ (l.length:Int)<(l.length:Int):=by omega
  rw [ZW] at hC;subst hC;have e0:=gq l;refine wk ?_;refine bv ?_;simp only [AV.frz,e0];exact ae (by simp only [AV.refs,Dx]) h.out
def OF (n:Nat) (a:Atr):Bool:=decide (n<=60) && decide (a.2.length<=60) && a.2.all fun v=>decide (v.length<=5000)
def OE (l:List Atr):Bool:=l.all (OF l.length)
theorem RM {l:List Atr} (h:OE l=true):l.length<=60/\∀ a∈l,a.2.length<=60/\∀ v∈a.2,v.length<=5000:=by
 simp only [OE,ZJ,OF,ZE,decide_eq_true_eq] at h;refine ⟨?_,fun a ha=>⟨(h a ha).1.2,(h a ha).2⟩⟩;rcases l with _|⟨x,t⟩
 ·simp
 ·exact (h x (by simp)).1.1
theorem Y4 {l:List Atr} {cap:Option Nat} (hl:(l.length:Int)<=9223372036854775807) (hz:∀ a∈l,(a.2.length:Int)<=9223372036854775807) (h:K (.bool (OE l)) L) :
  Zx 33 [.sl (be l) l.length cap] L K:=by
 obtain ⟨R,hR⟩:=Zt (l.all (OF l.length));rw [OE,hR] at h;replace h:=hid h;replace hR:=hid hR;refine Zw Mn ?_;refine ak (fun m T' L'=>∃ (k:Nat) (X:List Blk),m=l.length - k/\k<=l.length/\Hid ((l.drop k).all (OF l.length)=R)/\T'=[(9,.int .i64 (k:Int)),(8,.int .i64 l.length),(7,.sl (be l) l.length cap),(0,.sl (be l) l.length cap)]/\L'=L++X) (CutS (b:=by simp)) ⟨0,[],rfl,ZI _,hid (by simpa using hR.out),rfl,by simp⟩ ?_;rintro _ _ _ ⟨k,X,rfl,hk,hI,rfl,rfl⟩;by_cases hlt:k<l.length
 ·have g1:(k:Int)<(l.length:Int):=by omega
  have g2:=Zv k (by omega);have e3:=l3 hlt;have e4:k * 2+2<=(be l).length:=by rw [kO];omega
  obtain ⟨⟨nm,vs⟩,ha⟩:∃ a,l.getD k ([],[])=a:=⟨_,rfl⟩;have hdr:l.drop k=(nm,vs)::l.drop (k+1):=by rw [aal hlt,<- ha];simp [hlt]
  have hvs:=hz (nm,vs) (by rw [<- ha];simp [hlt]);simp only at hvs;rw [ha] at e3;simp only [atA] at e3;have hI2:=hI.out;rw [hdr,abe] at hI2;have no:OF l.length (nm,vs)=false->K (.bool false) L:=fun e=>by
   rw [e,aa5] at hI2;have:=h.out
   rwa [<- hI2] at this
  replace no:=hid no;clear hI hdr ha hz hR;by_cases h1:(60:Int)<(l.length:Int)
  ·have h':=hid (no.out (by simp [OF];omega));clear hI2;refine wk ?_;exact ae rfl h'.out
  by_cases h2:(60:Int)<(vs.length:Int)
  ·have h':=hid (no.out (by simp [OF];omega));clear hI2;refine wk ?_;exact ae rfl h'.out
  obtain ⟨rv,hrv⟩:=Zt (vs.all (fun v=>decide (v.length<=5000)));have hfe:OF l.length (nm,vs)=rv:=by
   rw [OF,hrv,decide_eq_true (by omega),decide_eq_true (by simp only;omega)];rfl
  rw [hfe] at hI2;replace hI2:=hid hI2;replace hrv:=hid hrv;replace no:=hid (fun e:rv=false=>no.out (hfe.trans e));clear hfe;refine wk ?_;refine ak (fun m T' L'=>∃ j:Nat,m=vs.length - j/\j<=vs.length/\Hid ((vs.drop j).all (fun v=>decide (v.length<=5000))=rv)/\T'=[(25,.int .i64 (j:Int)),(24,.int .i64 vs.length),(23,.sl (vs.map AV.str) vs.length none),(9,.int .i64 (k:Int)),(8,.int .i64 l.length),(7,.sl (be l) l.length cap),(0,.sl (be l) l.length cap)]/\L'=L++(X++[.cells [.str nm,.sl (vs.map AV.str) vs.length none]])) (CutS (b:=by simp)) ⟨0,rfl,ZI _,hid (by simpa using hrv.out),rfl,by simp⟩ ?_;rintro _ _ _ ⟨j,rfl,hj,hJ,rfl,rfl⟩;by_cases hjl:j<vs.length
  ·have j1:(j:Int)<(vs.length:Int):=by omega
   have j2:=Zv j (by omega);obtain ⟨v,hv⟩:=Zt (vs.getD j []);have g3:(vs.map AV.str).getD j .undef=.str v:=by rw [<- hv];simp [hjl]
   have hdr:vs.drop j=v::vs.drop (j+1):=by rw [aal hjl,<- hv];simp [hjl]
   have hJ2:=hJ.out;rw [hdr,abe] at hJ2;clear hv hdr hJ;by_cases h3:(5000:Int)<(v.length:Int)
   ·have h':=hid (no.out (by rw [<- hJ2,decide_eq_false (by omega),aa5]));clear hJ2;refine wk ?_;exact ae rfl h'.out
   ·rw [decide_eq_true (by omega),aaw] at hJ2;replace hJ2:=hid hJ2;refine wk ?_;exact aj _ _ _ (by omega) (CutL (b:=by simp)) ⟨j+1,rfl,hjl,hJ2,rfl,rfl⟩
  ·have j1:¬ (j:Int)<(vs.length:Int):=by omega
   have hJ2:=hJ.out;rw [abn (by omega),List.all_nil] at hJ2;have hI3:=hI2.out;rw [<- hJ2,aaw] at hI3;replace hI3:=hid hI3;clear hJ hJ2;refine wk ?_;exact aj _ _ _ (by omega) (CutL (b:=by simp)) ⟨k+1,_,rfl,hlt,hI3,rfl,rfl⟩
 ·have hke:k=l.length:=by omega
  subst hke;have g1:¬ (l.length:Int)<(l.length:Int):=by omega
  have hI2:=hI.out;rw [aai,List.all_nil] at hI2;have h':=h.out;rw [<- hI2] at h';replace h':=hid h';clear hI hI2 hR;refine wk ?_;exact ae rfl h'.out
end Go.Proofs.YtcmfcpjnhephaaaGreatDoor.Av
set_option maxRecDepth 100000
namespace Go.Proofs.YtcmfcpjnhephaaaGreatDoor.Av
open Go
def ze:LSO:=[Am 2]
def zd:LSO:=[Aa 6 0,o1 7 (.s2bO (tm 6)),Aa 3 7]
def zc:LSO:=[Aa 8 3,Al 9 8,Ab 10 0]
def zb:LSO:=[Ak 11 10 9]
def za:LSO:=[Aa 12 10,An 13 1 8 10,Ac 14 1 13,Aa 4 12,Aa 5 14]
def y9:LSO:=[Aa 15 5,BW 16 15,Aa 17 16,.grp none 17 true
 [Ag 18 17 5,og 19 17 true (.bin .leq (tm 18) (.av (.int .u8 90)))]
 20 (tm 19)]
def y8:LSO:=[Aa 21 3,Aa 22 4,Aa 23 5,o1 24 (.bin .add (tm 23) (.av (.int .u8 32))),An 25 1 21 22,Ao 1 25 24]
def y7:LSO:=[Ah 26 10 1,Aa 10 26]
def y6:LSO:=[Aa 27 3,AJ 28 27,Aa 2 28]
def rQ:br:=⟨29,(.seq (.sreg ze [])
 (.seq (.sreg zd Ce)
 (.seq (.seq (.sreg zc [])
 (.block 0 (.loop (.seq (.sreg zb [])
 (.seq (.cond (tm 11) .skip
 (.exit 0))
 (.seq (.block 1 (.seq (.sreg za Cl)
 (.seq (.sreg y9 Cf)
 (.cond (tm 20) (.sreg y8 Ck)
 .skip))))
 (.sreg y7 Cd)))))))
 (.seq (.sreg y6 Ce)
 .ret)))),[(.tmp 2)]⟩
attribute [push_cast] ze zd zc zb za y9 y8 y7 y6
theorem KP:bt Tryz.prog (fun r i=>if r=1/\i=1 then 2 else 1) 38=some rQ.raw:=by kernel_rfl
def y0:LSO:=[Am 2]
def yZ:LSO:=[Aj 3]
def yY:LSO:=[Aa 6 0,Ai 7 38 6,o1 8 (.s2b (tm 7)),Al 9 8,Ab 10 0]
def yX:LSO:=[Ak 11 10 9]
def yW:LSO:=[An 12 1 8 10,Ac 13 1 12,Aa 5 13]
def yV:LSO:=[Aa 14 5,o1 15 (.bin .eql (tm 14) (.av (.int .u8 32))),Aa 16 15,.grp none 16 true
 [Ag 17 16 3,BF 18 16 17,B4 19 16 18 0,Ag 20 16 19,.grp (some (16,true)) 20 false
 [Ae 21 20 3,Ae 22 20 3,BB 23 20 22,BU 24 20 23 1,og 25 20 false (.iaddr 1 (tm 21) (tm 24)),AN 26 20 1 25,BX 27 20 26]
 28 (tm 27)]
 29 (tm 28)]
def yU:LSO:=[Aa 30 3,Aa 31 5,AH 32 31,AB 33 30 32,Aa 3 33]
def yT:LSO:=[Ah 34 10 1,Aa 10 34]
def yS:LSO:=[Aa 35 3,Al 36 35,A3 37 36 0,Aa 38 37,.grp none 38 true
 [Ag 39 38 3,Ag 40 38 3,BF 41 38 40,BY 42 38 41 1,Bz 43 38 1 39 42,Bd 44 38 1 43,Bi 45 38 44]
 46 (tm 45)]
def yR:LSO:=[Aa 47 3,Aa 48 3,Al 49 48,AO 50 49 1,o1 51 (.slV 1 (tm 47) none (some (tm 50)) none),Aa 3 51]
def vj:LSO:=[Aa 52 3,AJ 53 52,Aa 2 53]
def rP:br:=⟨54,(.seq (.sreg y0 [])
 (.seq (.sreg yZ [])
 (.seq (.seq (.sreg yY Cy)
 (.block 0 (.loop (.seq (.sreg yX [])
 (.seq (.cond (tm 11) .skip
 (.exit 0))
 (.seq (.block 1 (.seq (.sreg yW Ce)
 (.seq (.seq (.sreg yV Cf)
 (.cond (tm 29) (.exit 1)
 .skip))
 (.sreg yU Cg))))
 (.sreg yT Cd)))))))
 (.seq (.seq (.sreg yS Cg)
 (.cond (tm 46) (.sreg yR Ch)
 .skip))
 (.seq (.sreg vj Ce)
 .ret))))),[(.tmp 2)]⟩
attribute [push_cast] y0 yZ yY yX yW yV yU yT yS yR vj
theorem KO:bt Tryz.prog (fun _ _=>1) 95=some rP.raw:=by kernel_rfl
def yI:LSO:=[Am 2]
def yH:LSO:=[Aj 3]
def yG:LSO:=[Ab 4 0]
def yF:LSO:=[Aa 6 4,Aa 7 0,Ap 8 7,Ak 9 6 8]
def yE:LSO:=[Aa 12 0,Aa 13 4,A6 14 12 13,Aa 5 14]
def yD:LSO:=[Aa 15 5,BW 16 15,Aa 17 16,.grp none 17 true
 [Ag 18 17 5,og 19 17 true (.bin .leq (tm 18) (.av (.int .u8 90)))]
 20 (tm 19)]
def yC:LSO:=[Aa 21 5,o1 22 (.bin .sub (tm 21) (.av (.int .u8 65))),o1 23 (.bin .add (tm 22) (.av (.int .u8 97))),Aa 5 23]
def yB:LSO:=[Aa 24 3,Aa 25 5,AH 26 25,AB 27 24 26,Aa 3 27]
def yA:LSO:=[Aa 10 4,Ah 11 10 1,Aa 4 11]
def yz:LSO:=[Aa 28 3,AJ 29 28,Aa 2 29]
def rN:br:=⟨30,(.seq (.sreg yI [])
 (.seq (.sreg yH [])
 (.seq (.seq (.sreg yG [])
 (.block 0 (.loop (.seq (.seq (.sreg yF Cf)
 (.cond (tm 9) .skip
 (.exit 0)))
 (.seq (.block 1 (.seq (.sreg yE Cf)
 (.seq (.seq (.sreg yD Cf)
 (.cond (tm 20) (.sreg yC Cf)
 .skip))
 (.sreg yB Cg))))
 (.sreg yA Ce))))))
 (.seq (.sreg yz Ce)
 .ret)))),[(.tmp 2)]⟩
attribute [push_cast] yI yH yG yF yE yD yC yB yA yz
theorem KM:bt Tryz.prog (fun _ _=>1) 39=some rN.raw:=by kernel_rfl
def yy:LSO:=[Am 2]
def yx:LSO:=[Aa 8 0,Ai 9 39 8,Aa 3 9]
def yw:LSO:=[Aj 4]
def yv:LSO:=[Ab 5 0]
def yu:LSO:=[Aa 10 5,Aa 11 3,Ap 12 11,Ak 13 10 12]
def yt:LSO:=[Af 6]
def yr:LSO:=[Aa 16 5,Aa 7 16]
def yq:LSO:=[Aa 17 7,Aa 18 3,Ap 19 18,Ak 20 17 19,Aa 21 20,.grp none 21 true
 [Ag 22 21 6,og 23 21 true (.un .not (tm 22))]
 24 (tm 23)]
def yp:LSO:=[Aa 27 3,Aa 28 7,A6 29 27 28,o1 30 (.bin .neq (tm 29) (.av (.int .u8 32))),Aa 6 30]
def yo:LSO:=[Aa 25 7,Ah 26 25 1,Aa 7 26]
def u6:LSO:=[Aa 31 6,Az 32 31,Aa 33 32,.grp none 33 false
 [Ae 34 33 3,Ae 35 33 5,Bg 36 33 34 35,BX 37 33 36,Ae 38 33 37,.grp (some (33,false)) 38 true
 [Ag 39 38 4,BF 40 38 39,B4 41 38 40 0,Ag 42 38 41,.grp (some (38,true)) 42 false
 [Ae 43 42 3,Ae 44 42 5,BU 45 42 44 1,Bg 46 42 43 45,BX 47 42 46]
 48 (tm 47)]
 49 (tm 48)]
 50 (tm 49)]
def u0:LSO:=[Aa 51 4,Aa 52 3,Aa 53 5,A6 54 52 53,AH 55 54,AB 56 51 55,Aa 4 56]
def uZ:LSO:=[Aa 14 5,Ah 15 14 1,Aa 5 15]
def uY:LSO:=[Aa 57 4,AJ 58 57,Aa 2 58]
def rM:br:=⟨59,(.seq (.sreg yy [])
 (.seq (.sreg yx Ce)
 (.seq (.sreg yw [])
 (.seq (.seq (.sreg yv [])
 (.block 0 (.loop (.seq (.seq (.sreg yu Cf)
 (.cond (tm 13) .skip
 (.exit 0)))
 (.seq (.block 1 (.seq (.sreg yt [])
 (.seq (.seq (.sreg yr Cd)
 (.block 2 (.loop (.seq (.seq (.sreg yq Ch)
 (.cond (tm 24) .skip
 (.exit 2)))
 (.seq (.block 3 (.sreg yp Cg))
 (.sreg yo Ce))))))
 (.seq (.seq (.sreg u6 Cf)
 (.cond (tm 50) (.exit 1)
 .skip))
 (.sreg u0 Ci)))))
 (.sreg uZ Ce))))))
 (.seq (.sreg uY Ce)
 .ret))))),[(.tmp 2)]⟩
attribute [push_cast] yy yx yw yv yu yt yr yq yp yo u6 u0 uZ uY
theorem KL:bt Tryz.prog (fun _ _=>1) 90=some rM.raw:=by kernel_rfl
def yQ:LSO:=[BZ 2,Af 3]
def yP:LSO:=[Aa 5 0,o1 6 (.bin .geq (tm 5) (.av (.int .u8 48))),Aa 7 6,.grp none 7 true
 [Ag 8 7 0,og 9 7 true (.bin .leq (tm 8) (.av (.int .u8 57)))]
 10 (tm 9),Aa 4 10]
def yO:LSO:=[Aa 11 0,B7 12 11,Aa 2 12,Ay 3]
def yN:LSO:=[Aa 14 0,o1 15 (.bin .geq (tm 14) (.av (.int .u8 97))),Aa 16 15,.grp none 16 true
 [Ag 17 16 0,og 18 16 true (.bin .leq (tm 17) (.av (.int .u8 102)))]
 19 (tm 18),Aa 13 19]
def yM:LSO:=[Aa 20 0,o1 21 (.bin .sub (tm 20) (.av (.int .u8 97))),o1 22 (.bin .add (tm 21) (.av (.int .u8 10))),Aa 2 22,Ay 3]
def yL:LSO:=[Aa 24 0,BW 25 24,Aa 26 25,.grp none 26 true
 [Ag 27 26 0,og 28 26 true (.bin .leq (tm 27) (.av (.int .u8 70)))]
 29 (tm 28),Aa 23 29]
def yK:LSO:=[Aa 30 0,o1 31 (.bin .sub (tm 30) (.av (.int .u8 65))),o1 32 (.bin .add (tm 31) (.av (.int .u8 10))),Aa 2 32,Ay 3]
def yJ:LSO:=[BZ 2,Af 3]
def rO:br:=⟨33,(.seq (.sreg yQ [])
 (.seq (.block 0 (.seq (.sreg yP Cg)
 (.cond (tm 4) (.seq (.sreg yO Cq)
 .ret)
 (.seq (.sreg yN Cg)
 (.cond (tm 13) (.seq (.sreg yM Cl)
 .ret)
 (.seq (.sreg yL Cg)
 (.cond (tm 23) (.seq (.sreg yK Cl)
 .ret)
 .skip)))))))
 (.seq (.sreg yJ [])
 .ret))),[(.tmp 2),(.tmp 3)]⟩
attribute [push_cast] yQ yP yO yN yM yL yK yJ
theorem KN:bt Tryz.prog (fun _ _=>1) 234=some rO.raw:=by kernel_rfl
def vi:LSO:=[Am 2,Af 3]
def vh:LSO:=[Aa 10 0,Ap 11 10,o1 12 (.bin .rem (tm 11) (iv 2)),As 13 12 1]
def vg:LSO:=[Am 2,Af 3]
def vf:LSO:=[Aa 14 0,Ap 15 14,o1 16 (.bin .quo (tm 15) (iv 2)),o1 17 (.mkslice 1 1 [(.int .u8 0)] (iv 0) (tm 16)),Aa 4 17]
def ve:LSO:=[Ab 5 0]
def vd:LSO:=[Aa 18 5,Aa 19 0,Ap 20 19,Ak 21 18 20]
def vc:LSO:=[Aa 25 0,Aa 26 5,A6 27 25 26,Ai 28 234 27,Aa 24 28,Ar 29 24,Au 30 24,Aa 6 29,Aa 7 30]
def vb:LSO:=[Aa 32 0,Aa 33 5,Ah 34 33 1,A6 35 32 34,Ai 36 234 35,Aa 31 36,Ar 37 31,Au 38 31,Aa 8 37,Aa 9 38]
def u9:LSO:=[Aa 39 7,Az 40 39,Aa 41 40,.grp none 41 false
 [Ae 42 41 9,AP 43 41 42]
 44 (tm 43)]
def u7:LSO:=[Am 2,Af 3]
def qD:LSO:=[Aa 45 4,Aa 46 6,o1 47 (.bin .shl (tm 46) (.av (.int .u64 4))),Aa 48 8,o1 49 (.bin .or (tm 47) (tm 48)),AH 50 49,AB 51 45 50,Aa 4 51]
def qC:LSO:=[Aa 22 5,Ah 23 22 2,Aa 5 23]
def qB:LSO:=[Aa 52 4,AJ 53 52,Aa 2 53,Ay 3]
def nU:br:=⟨54,(.seq (.sreg vi [])
 (.seq (.seq (.sreg vh Cf)
 (.cond (tm 13) (.seq (.sreg vg [])
 .ret)
 .skip))
 (.seq (.sreg vf Cg)
 (.seq (.seq (.sreg ve [])
 (.block 0 (.loop (.seq (.seq (.sreg vd Cf)
 (.cond (tm 21) .skip
 (.exit 0)))
 (.seq (.block 1 (.seq (.sreg vc C0)
 (.seq (.sreg vb [true,true,false,false,false,false,false,false,false,false])
 (.seq (.seq (.sreg u9 Cf)
 (.cond (tm 44) (.seq (.sreg u7 [])
 .ret)
 .skip))
 (.sreg qD Cm)))))
 (.sreg qC Ce))))))
 (.seq (.sreg qB Cq)
 .ret))))),[(.tmp 2),(.tmp 3)]⟩
attribute [push_cast] vi vh vg vf ve vd vc vb u9 u7 qD qC qB
theorem JB:bt Tryz.prog (fun _ _=>1) 211=some nU.raw:=by kernel_rfl
def uN:LSO:=[BZ 2]
def uM:LSO:=[Aa 3 0,o1 4 (.bin .lss (tm 3) (.av (.int .u8 10)))]
def uL:LSO:=[Aa 5 0,o1 6 (.bin .add (.av (.int .u8 48)) (tm 5)),Aa 2 6]
def uK:LSO:=[Aa 7 0,o1 8 (.bin .add (.av (.int .u8 97)) (tm 7)),o1 9 (.bin .sub (tm 8) (.av (.int .u8 10))),Aa 2 9]
def nS:br:=⟨10,(.seq (.sreg uN [])
 (.seq (.seq (.sreg uM Cd)
 (.cond (tm 4) (.seq (.sreg uL Ce)
 .ret)
 .skip))
 (.seq (.sreg uK Cf)
 .ret))),[(.tmp 2)]⟩
attribute [push_cast] uN uM uL uK
theorem Jz:bt Tryz.prog (fun _ _=>1) 221=some nS.raw:=by kernel_rfl
def uX:LSO:=[Am 2,Af 3]
def uW:LSO:=[Aj 4]
def uV:LSO:=[Aa 9 0,Ai 10 39 9,Aa 5 10]
def uU:LSO:=[Ab 6 0]
def uT:LSO:=[Aa 11 6,Ah 12 11 1,Aa 13 5,Ap 14 13,Ak 15 12 14]
def uS:LSO:=[Af 7]
def uR:LSO:=[Ab 8 0]
def uQ:LSO:=[Aa 18 8,AL 19 18 256,Aa 20 19,.grp none 20 true
 [Ag 21 20 7,og 22 20 true (.un .not (tm 21))]
 23 (tm 22)]
def uP:LSO:=[Aa 26 8,o1 27 (.bin .quo (tm 26) (iv 16)),o1 28 (.conv .u8 (tm 27)),Ai 29 221 28,Aa 30 5,Aa 31 6,A6 32 30 31,AA 33 29 32,Aa 34 33,.grp none 34 true
 [Ag 35 34 8,B6 36 34 35 16,og 37 34 true (.conv .u8 (tm 36)),AF 38 34 221 37,Ag 39 34 5,Ag 40 34 6,og 41 34 true (.bin .add (tm 40) (iv 1)),AT 42 34 39 41,
 og 43 34 true (.bin .eql (tm 38) (tm 42))]
 44 (tm 43)]
def uO:LSO:=[Aa 45 4,Aa 46 8,o1 47 (.conv .u8 (tm 46)),AH 48 47,AB 49 45 48,Aa 4 49]
def qA:LSO:=[Ay 7]
def qz:LSO:=[Aa 24 8,Ah 25 24 1,Aa 8 25]
def qy:LSO:=[Aa 50 7,Az 51 50]
def qx:LSO:=[Am 2,Af 3]
def qw:LSO:=[Aa 16 6,Ah 17 16 2,Aa 6 17]
def qv:LSO:=[Aa 52 0,Ap 53 52,o1 54 (.bin .rem (tm 53) (iv 2)),As 55 54 1]
def qu:LSO:=[Am 2,Af 3]
def qt:LSO:=[Aa 56 4,AJ 57 56,Aa 2 57,Ay 3]
def nT:br:=⟨58,(.seq (.sreg uX [])
 (.seq (.sreg uW [])
 (.seq (.sreg uV Ce)
 (.seq (.seq (.sreg uU [])
 (.block 0 (.loop (.seq (.seq (.sreg uT Cg)
 (.cond (tm 15) .skip
 (.exit 0)))
 (.seq (.block 1 (.seq (.sreg uS [])
 (.seq (.seq (.sreg uR [])
 (.block 2 (.loop (.seq (.seq (.sreg uQ Cf)
 (.cond (tm 23) .skip
 (.exit 2)))
 (.seq (.block 3 (.seq (.sdreg uP [.pure,.pure,.pure,(.read 0 0),.pure,.pure,(.read 0 0),.pure,.pure,.pure,.pure,.pure,(.read 0 0),.pure,.pure,.pure,(.read 0 0)] C2)
 (.cond (tm 44) (.seq (.sreg uO Ch)
 (.sreg qA []))
 .skip)))
 (.sreg qz Ce))))))
 (.seq (.sreg qy Cd)
 (.cond (tm 51) (.seq (.sreg qx [])
 .ret)
 .skip)))))
 (.sreg qw Ce))))))
 (.seq (.seq (.sreg qv Cf)
 (.cond (tm 55) (.seq (.sreg qu [])
 .ret)
 .skip))
 (.seq (.sreg qt Cq)
 .ret)))))),[(.tmp 2),(.tmp 3)]⟩
attribute [push_cast] uX uW uV uU uT uS uR uQ uP uO qA qz qy qx qw qv qu qt
theorem JA:bt Tryz.prog (fun _ _=>1) 189=some nT.raw:=by kernel_rfl
attribute [push_cast] rQ rN nU nT
variable {L:List Blk} {K:Zy}
set_option maxHeartbeats 8000000
set_option maxRecDepth 100000
def dA (c:UInt8):UInt8:=if 65<=c.toNat/\c.toNat<=90 then c+32 else c
def ab (s:List UInt8):List UInt8:=s.map dA
theorem Om {c:UInt8} (h1:65<=c.toNat) (h2:c.toNat<=90):((dA c).toNat:Int)=(c.toNat:Int)+32:=by
 rw [dA,if_pos ⟨h1,h2⟩,UInt8.toNat_add];have:(32:UInt8).toNat=32:=rfl;omega
theorem qK {c:UInt8} (h:¬ (65<=c.toNat/\c.toNat<=90)):dA c=c:=by rw [dA,if_neg h]
theorem fP (l:List UInt8):(u8s l).all QL=true:=by
 simp only [u8s,List.all_map,ZJ];intro x _;have:=x.toNat_lt;simp [QL]
theorem fc (l:List UInt8):(u8s l).map N3=l:=by
 induction l with
 | nil=>rfl
 | cons x l ih =>
   simp only [u8s,ZK,Z4] at ih ⊢;rw [ih];simp [N3]
theorem KS (l:List UInt8) (c:UInt8):u8s (l++[c])=u8s l++[.int .u8 c.toNat]:=by simp [u8s]
theorem LS {s:List UInt8} {k:Nat} (h:k<s.length):ab (s.take (k+1))=ab (s.take k)++[dA (s.getD k 0)]:=by
 rw [ZY h,ab,Z7];simp [ab,h]
theorem bX {s:List UInt8} (hs:(s.length:Int)<=140737488351232) (h:K (.str (ab s)) L):Zx 39 [.str s] L K:=by
 replace h:=hid h;refine Zw KM ?_;refine cG (l:=[]) (n:=0) 3 1 rfl (aae 1).symm ?_;refine ak (fun n T' L'=>∃ (k:Nat) (v:List AV),n=s.length - k/\k<=s.length/\v=u8s (ab (s.take k))/\T'=[(4,.int .i64 (k:Int)),(3,.gsl v k L.length 1),(2,.str []),(0,.str s)]/\L'=L++[.spare k 1]) (CutS (b:=by simp)) ⟨0,[],rfl,ZI _,rfl,rfl,rfl⟩ ?_;rintro _ _ _ ⟨k,v,rfl,hk,rfl,rfl,rfl⟩;by_cases hlt:k<s.length
 ·have h1:(k:Int)<(s.length:Int):=by omega
  have h2:=Zv k (by omega);have hsucc:=hid (LS hlt);have e:s.getD k 0=s.getD k 0:=rfl;obtain ⟨c,hc⟩:=Zt (s.getD k 0);rw [hc] at hsucc;have hc255:=c.toNat_lt;by_cases hu:65<=c.toNat/\c.toNat<=90
  ·have u1:(65:Int)<=(c.toNat:Int):=by omega
   have u2:(c.toNat:Int)<=90:=by omega
   have u3:=hid (Om hu.1 hu.2);have u4:IntKind.u8.wrap ((c.toNat:Int) - 65)=(c.toNat:Int) - 65:=cv (by omega) (by omega);have u5:IntKind.u8.wrap ((c.toNat:Int) - 65+97)=(c.toNat:Int) - 65+97:=cv (by omega) (by omega);clear hu;refine wk ?_;refine aj _ _ _ (by omega) (CutS (b:=by simp)) ⟨k+1,_,rfl,hlt,?_,rfl,rfl⟩;rw [hsucc.out,KS,u3.out];simp only [show (c.toNat:Int) - 65+97=c.toNat+32 by omega]
  ·have u3:=hid (qK hu);have u4:¬ ((65:Int)<=(c.toNat:Int)/\(c.toNat:Int)<=90):=by omega
   have u5:(decide ((65:Int)<=(c.toNat:Int)) && decide ((c.toNat:Int)<=90))=false:=by simp;omega
   clear hu
   repeat' first
    | refine bb ?_
    | (first|refine aU (by kernel_rfl) ?_|refine aA (by kernel_rfl) ?_|refine aD ?_|refine bS ?_|refine bh (fun _=>?_)|refine ay ?_|refine aW ?_)
      refine sm ?_
    | (first|refine aP (by kernel_rfl) ?_|refine aQ ?_|refine aC ?_|refine aV ?_|refine bq (ax ?_))
      refine sl ?_
    | exact bj
    | first|apply bm|apply aR|apply bo|apply aS|apply bp|apply aT
    | refine aG ?_
    | refine aB ?_
    | first|refine aE rfl ?_|refine aF rfl ?_|refine an rfl ?_ ?_|refine aI rfl (fun _=>?_) (fun _=>?_)|refine aH rfl (fun _=>?_) (fun _=>?_)
    | ((first|refine am (fun _=>?_) (fun _=>?_)|refine aw (fun _=>?_) (fun _=>?_))<;>try refine sm ?_)
    | refine And.intro trivial ?_
    | refine And.intro (by omega) ?_
    | refine aM rfl (fun _=>?_) (fun _=>?_)
    | refine And.intro ?_ ?_
   all_goals first
    | omega
    | (refine aj _ _ _ (by omega) (CutS (b := by simp)) ⟨k + 1, _, rfl, hlt, ?_, rfl, rfl⟩
       rw [hsucc.out,KS,u3.out])
 ·have hke:k=s.length:=by omega
  subst hke;have h1:¬ (s.length:Int)<(s.length:Int):=by omega
  have e1:=fP (ab s);have e2:=fc (ab s);have e3:s.take s.length=s:=ZW;refine wk ?_;exact ae rfl h.out
theorem eR {s:List UInt8} (hs:(s.length:Int)<=140737488351232) (h:K (.str (ab s)) L):Zx 38 [.str s] L K:=by
 replace h:=hid h;refine Zw KP ?_;refine ak (fun n T' L'=>∃ (k:Nat) (v:List AV),n=s.length - k/\k<=s.length/\v=u8s (ab (s.take k)++s.drop k)/\T'=[(10,.int .i64 (k:Int)),(9,.int .i64 s.length),(8,.lsl L.length 0 s.length none 1),(3,.lsl L.length 0 s.length none 1),(2,.str [])]/\L'=L++[.bytes v]) (CutS (b:=by simp)) ⟨0,_,rfl,ZI _,rfl,rfl,rfl⟩ ?_;rintro _ _ _ ⟨k,v,rfl,hk,hv,rfl,rfl⟩;by_cases hlt:k<s.length
 ·have h1:(k:Int)<(s.length:Int):=by omega
  have h2:=Zv k (by omega);obtain ⟨c,hc⟩:=Zt (s.getD k 0);have hd:s.drop k=c::s.drop (k+1):=by
   rw [aal hlt,<- hc,Z2,ZR hlt];rfl
  have hlk:(ab (s.take k)).length=k:=by simp [ab];omega
  have hv1:v=u8s (ab (s.take k)) ++ .int .u8 c.toNat::u8s (s.drop (k+1)):=by rw [hv,hd];simp [u8s]
  have hl2:(u8s (ab (s.take k))).length=k:=by simp [u8s,hlk]
  have hvl:v.length=s.length:=by rw [hv];simp [u8s,ab];omega
  have hvk:k<v.length:=by omega
  have hvg:v.getD k .undef=.int .u8 c.toNat:=by rw [hv1];simp [Z2,Z5,hl2]
  have hsucc:=LS hlt;rw [hc] at hsucc;have hnew:u8s (ab (s.take (k+1))++s.drop (k+1))=u8s (ab (s.take k)) ++ .int .u8 (dA c).toNat::u8s (s.drop (k+1)):=by rw [hsucc];simp [u8s]
  have hspl:∀ x,v.take k++x::v.drop (k+1)=u8s (ab (s.take k))++x::u8s (s.drop (k+1)):=fun x=>by
   rw [hv1,List.take_left' hl2,List.drop_append,hl2,abn (by omega),show k+1 - k=1 by omega];rfl
  clear hv hd hlk hsucc;replace hv1:=hid hv1;replace hnew:=hid hnew;replace hspl:=hid hspl;have hc255:=c.toNat_lt;by_cases hu:65<=c.toNat/\c.toNat<=90
  ·have u1:(65:Int)<=(c.toNat:Int):=by omega
   have u2:(c.toNat:Int)<=90:=by omega
   have u3:=hid (Om hu.1 hu.2);have u4:IntKind.u8.wrap ((c.toNat:Int)+32)=(c.toNat:Int)+32:=cv (by omega) (by omega);clear hu;refine wk ?_;refine aj _ _ _ (by omega) (CutS (b:=by simp)) ⟨k+1,_,rfl,hlt,?_,rfl,rfl⟩;rw [hnew.out,u3.out];exact hspl.out _
  ·have u3:=hid (qK hu);have u5:(decide ((65:Int)<=(c.toNat:Int)) && decide ((c.toNat:Int)<=90))=false:=by simp;omega
   clear hu
   repeat' first
    | refine bb ?_
    | (first|refine aU (by kernel_rfl) ?_|refine aA (by kernel_rfl) ?_|refine aD ?_|refine bS ?_|refine bh (fun _=>?_)|refine ay ?_|refine aW ?_)
      refine sm ?_
    | (first|refine aP (by kernel_rfl) ?_|refine aQ ?_|refine aC ?_|refine aV ?_|refine bq (ax ?_))
      refine sl ?_
    | exact bj
    | first|apply bm|apply aR|apply bo|apply aS|apply bp|apply aT
    | refine aG ?_
    | refine aB ?_
    | first|refine aE rfl ?_|refine aF rfl ?_|refine an rfl ?_ ?_|refine aI rfl (fun _=>?_) (fun _=>?_)|refine aH rfl (fun _=>?_) (fun _=>?_)
    | ((first|refine am (fun _=>?_) (fun _=>?_)|refine aw (fun _=>?_) (fun _=>?_))<;>try refine sm ?_)
    | refine And.intro trivial ?_
    | refine And.intro (by omega) ?_
    | refine aM rfl (fun _=>?_) (fun _=>?_)
    | refine And.intro ?_ ?_
   all_goals first
    | omega
    | (refine aj _ _ _ (by omega) (CutS (b := by simp)) ⟨k + 1, _, rfl, hlt, ?_, rfl, rfl⟩
       rw [hnew.out,u3.out];exact hv1.out)
 ·have hke:k=s.length:=by omega
  subst hke;have h1:¬ (s.length:Int)<(s.length:Int):=by omega
  have hv1:v=u8s (ab s):=by rw [hv];simp
  clear hv;subst hv1;have e1:=fP (ab s);have e2:=fc (ab s);have e4:(u8s (ab s)).length=s.length:=by simp [u8s,ab]
  have e5:(u8s (ab s)).take s.length=u8s (ab s):=by rw [<- e4];exact ZW
  refine wk ?_;exact ae rfl h.out
theorem iX {s:List UInt8} (hs:(s.length:Int)<=100000) (h:K (.str (ab s)) L):Zx 39 [.str s] L K:=bX (by omega) h
theorem CI {s:List UInt8} (hs:(s.length:Int)<=100000) (h:K (.str (ab s)) L):Zx 38 [.str s] L K:=eR (by omega) h
def gg (c:UInt8):Option Nat:=if 48<=c.toNat/\c.toNat<=57 then some (c.toNat - 48) else if 97<=c.toNat/\c.toNat<=102 then some (c.toNat - 87) else if 65<=c.toNat/\c.toNat<=70 then some (c.toNat - 55) else none
theorem Dt {c:UInt8} {x:Nat} (h:gg c=some x):x<16:=by
 unfold gg at h;split at h
 ·cases h;omega
 ·split at h
  ·cases h;omega
  ·split at h
   ·cases h;omega
   ·cases h
theorem QQ {c:UInt8} {L:List Blk} {K:Zy} (h:K (.tup [.int .u8 ((gg c).getD 0:Nat),.bool (gg c).isSome]) L):Zx 234 [.int .u8 c.toNat] L K:=by
 have hc:=c.toNat_lt;obtain ⟨n,hn⟩:=Zt (c.toNat);unfold gg at h;rw [hn] at h hc ⊢;clear hn;refine ad KN (by simp [rO]) ?_;simp only [rO,aq];by_cases h1:48<=n/\n<=57
 ·rw [if_pos h1] at h;replace h:=hid h;obtain ⟨a1,a2⟩:=h1;have b1:(48:Int)<=(n:Int):=by omega
  have b2:(n:Int)<=57:=by omega
  have b3:IntKind.u8.wrap ((n:Int) - 48)=(n:Int) - 48:=cv (by omega) (by omega);clear a1 a2;refine wk ?_;refine aa ?_;have:=h.out;simpa [show ((n - 48:Nat):Int)=(n:Int) - 48 by omega] using this
 ·rw [if_neg h1] at h;have c1:(decide ((48:Int)<=(n:Int)) && decide ((n:Int)<=57))=false:=by simp;omega
  by_cases h2:97<=n/\n<=102
  ·rw [if_pos h2] at h;replace h:=hid h;obtain ⟨a1,a2⟩:=h2;have b1:(97:Int)<=(n:Int):=by omega
   have b2:(n:Int)<=102:=by omega
   have b4:IntKind.u8.wrap ((n:Int) - 97)=(n:Int) - 97:=cv (by omega) (by omega);have b5:IntKind.u8.wrap ((n:Int) - 97+10)=(n:Int) - 97+10:=cv (by omega) (by omega);clear a1 a2 h1;refine wk ?_;refine aa ?_;have:=h.out;simpa [show ((n - 87:Nat):Int)=(n:Int) - 97+10 by omega] using this
  ·rw [if_neg h2] at h;have c2:(decide ((97:Int)<=(n:Int)) && decide ((n:Int)<=102))=false:=by simp;omega
   by_cases h3:65<=n/\n<=70
   ·rw [if_pos h3] at h;replace h:=hid h;obtain ⟨a1,a2⟩:=h3;have b1:(65:Int)<=(n:Int):=by omega
    have b2:(n:Int)<=70:=by omega
    have b4:IntKind.u8.wrap ((n:Int) - 65)=(n:Int) - 65:=cv (by omega) (by omega);have b5:IntKind.u8.wrap ((n:Int) - 65+10)=(n:Int) - 65+10:=cv (by omega) (by omega);clear a1 a2 h1 h2;refine wk ?_;refine aa ?_;have:=h.out;simpa [show ((n - 55:Nat):Int)=(n:Int) - 65+10 by omega] using this
   ·rw [if_neg h3] at h;have c3:(decide ((65:Int)<=(n:Int)) && decide ((n:Int)<=70))=false:=by simp;omega
    replace h:=hid h;clear h1 h2 h3
    repeat' first
     | refine bb ?_
     | (first|refine aU (by kernel_rfl) ?_|refine aA (by kernel_rfl) ?_|refine aD ?_|refine bS ?_|refine bh (fun _=>?_)|refine ay ?_|refine aW ?_)
       refine sm ?_
     | (first|refine aP (by kernel_rfl) ?_|refine aQ ?_|refine aC ?_|refine aV ?_|refine bq (ax ?_))
       refine sl ?_
     | exact bj
     | first|apply bm|apply aR|apply bo|apply aS|apply bp|apply aT
     | refine aG ?_
     | refine aB ?_
     | first|refine aE rfl ?_|refine aF rfl ?_|refine an rfl ?_ ?_|refine aI rfl (fun _=>?_) (fun _=>?_)|refine aH rfl (fun _=>?_) (fun _=>?_)
     | ((first|refine am (fun _=>?_) (fun _=>?_)|refine aw (fun _=>?_) (fun _=>?_))<;>try refine sm ?_)
     | refine And.intro trivial ?_
     | refine And.intro (by omega) ?_
     | refine aM rfl (fun _=>?_) (fun _=>?_)
     | refine And.intro ?_ ?_
    all_goals first
     | omega
     | (refine aa ?_;simpa using h.out)
def IA (a b:UInt8):Option UInt8:=match gg a,gg b with
 | some x,some y=>some (UInt8.ofNat (16 * x+y))
 | _,_=>none
def GA (a b:UInt8):AV:=match IA a b with
 | some c=>.tup [.str [c],.bool true]
 | none=>.tup [.str [],.bool false]
theorem X2:∀ x y:_root_.Fin 16,IntKind.u8.wrap (((BitVec.ofInt IntKind.u8.bits (IntKind.u8.wrap ((x.val:Int) * 2 ^ min 4 IntKind.u8.bits)) ||| BitVec.ofInt IntKind.u8.bits (y.val:Int)).toNat:Nat):Int)=16 * (x.val:Int)+(y.val:Int):=by decide +kernel
theorem Ue {a b:UInt8} (h:K (GA a b) L):Zx 211 [.str [a,b]] L K:=by
 have hl:[a,b].length=2:=rfl;have ha:[a,b].getD 0 0=a:=rfl;have hb:[a,b].getD 1 0=b:=rfl;have d1:IntKind.i64.wrap (Int.tdiv 2 2)=1:=by decide
 have d2:Int.tmod 2 2=0:=by decide
 have d3:dL [AV.int IntKind.u8 0] 1=[AV.int IntKind.u8 0]:=rfl;have d4:IntKind.i64.wrap 1=1:=by decide
 have d5:IntKind.i64.wrap 2=2:=by decide
 replace h:=hid h;refine Zw JB ?_;refine ak (fun n T' L'=>(n=1/\T'=[(5,.int .i64 0),(4,.lsl L.length 0 0 (some 1) 1),(0,.str [a,b])]/\L'=L++[.cells [.int .u8 0]])\/(n=0/\∃ x y:Nat,Hid (gg a=some x)/\Hid (gg b=some y)/\T'=[(5,.int .i64 2),(4,.lsl (L.length+1) 0 1 none 1),(0,.str [a,b])]/\L'=L++[.dead,.cells [.int .u8 ((16 * x+y:Nat):Int)]])) (n0:=1) (T0:=[(5,.int .i64 0),(4,.lsl L.length 0 0 (some 1) 1),(0,.str [a,b])]) (L0:=L++[.cells [.int .u8 0]]) (CutS (b:=by simp)) (.inl ⟨rfl,rfl,rfl⟩) ?_;rintro _ _ _ (⟨rfl,rfl,rfl⟩|⟨rfl,x,y,hx,hy,rfl,rfl⟩)
 ·rcases hx:gg a with _|x
  ·have h':=h.out;simp only [GA,IA,hx] at h';replace h':=hid h';have e1:(gg a).getD 0=0:=by rw [hx];rfl
   have e2:(gg a).isSome=false:=by rw [hx];rfl
   clear hx;have kk1:=@hid _ @QQ;refine wk ?_;exact ae rfl h'.out
  ·have e1:(gg a).getD 0=x:=by rw [hx];rfl
   have e2:(gg a).isSome=true:=by rw [hx];rfl
   have hx':=hid hx;rcases hy:gg b with _|y
   ·have h':=h.out;simp only [GA,IA,hx,hy] at h';replace h':=hid h';have e3:(gg b).getD 0=0:=by rw [hy];rfl
    have e4:(gg b).isSome=false:=by rw [hy];rfl
    clear hx hy;have kk1:=@hid _ @QQ;refine wk ?_;exact ae rfl h'.out
   ·have e3:(gg b).getD 0=y:=by rw [hy];rfl
    have e4:(gg b).isSome=true:=by rw [hy];rfl
    have hy':=hid hy;have e5:=X2 ⟨x,Dt hx⟩ ⟨y,Dt hy⟩;simp only at e5;clear hx hy;have kk1:=@hid _ @QQ;refine wk ?_;refine aj 0 _ _ (by omega) (CutL (b:=by simp)) (.inr ⟨rfl,x,y,hid rfl,hid rfl,rfl,?_⟩)
    first|rfl|rw [e5]
 ·have h':=h.out;simp only [GA,IA,hx.out,hy.out] at h';replace h':=hid h';have lx:=Dt hx.out;have ly:=Dt hy.out;have u1:QL (.int .u8 (16 * (x:Int)+(y:Int)))=true:=rfl;have u2:N3 (.int .u8 (16 * (x:Int)+(y:Int)))=UInt8.ofNat (16 * x+y):=by
   simp only [N3];rw [show (16 * (x:Int)+(y:Int)).toNat=16 * x+y by omega]
  refine wk ?_;exact ae rfl h'.out
def qV (b:List UInt8):Bool:=b.isEmpty || b.getLast? == some 32
def aJ (b:List UInt8) (c:UInt8):List UInt8:=if c=32/\qV b=true then b else b++[c]
def bF (s:List UInt8):List UInt8:=s.foldl aJ []
def cZ (b:List UInt8):List UInt8:=if b.getLast?=some 32 then b.dropLast else b
def bD (s:List UInt8):List UInt8:=cZ (bF (ab s))
theorem Is (b:List UInt8) (c:UInt8):(aJ b c).length<=b.length+1:=by
 unfold aJ;split<;>simp
theorem rk {s:List UInt8} {k:Nat} (h:k<s.length):bF (s.take (k+1))=aJ (bF (s.take k)) (s.getD k 0):=by
 rw [ZY h,bF,abo];simp [bF,h]
theorem l6 (s:List UInt8):∀ k,(bF (s.take k)).length<=k
 | 0=>by simp [bF]
 | k+1=>by
   have ih:=l6 s k;by_cases h:k<s.length
   ·rw [rk h];have:=Is (bF (s.take k)) (s.getD k 0);omega
   ·rw [aaR (by omega),<- aaR (l:=s) (i:=k) (by omega)];omega
theorem rj {s:List UInt8} (hs:(s.length:Int)<=100000) (h:K (.str (bD s)) L):Zx 95 [.str s] L K:=by
 replace h:=hid h;refine ad KO (by simp [rP]) ?_;simp only [rP,aq];obtain ⟨t,ht⟩:=Zt (ab s);have htl:(t.length:Int)<=100000:=by rw [<- ht];simpa [ab] using hs
 have kk1:=@hid _ (fun L K=>CI hs (L:=L) (K:=K));refine wk ?_;refine cG (l:=[]) (n:=0) 3 1 rfl (aae 1).symm ?_;refine ak (fun n T' L'=>∃ (k:Nat) (b:List UInt8) (v:List AV) (m:Nat),n=t.length - k/\k<=t.length/\b=bF (t.take k)/\v=u8s b/\m=b.length/\T'=[(10,.int .i64 (k:Int)),(9,.int .i64 t.length),(8,.sl (u8s t) t.length none),(3,.gsl v m L.length 1),(2,.str [])]/\L'=L++[.spare m 1]) (CutS (b:=by simp)) ⟨0,[],[],0,rfl,ZI _,rfl,rfl,rfl,rfl,rfl⟩ ?_;rintro _ _ _ ⟨k,b,v,m,rfl,hk,hb,rfl,rfl,rfl,rfl⟩;replace hb:=hid hb;by_cases hlt:k<t.length
 ·have h1:(k:Int)<(t.length:Int):=by omega
  have h2:=Zv k (by omega);have hsucc:=hid (rk hlt);obtain ⟨c,hc⟩:=Zt (t.getD k 0);have hg:(u8s t).getD k .undef=.int .u8 c.toNat:=by simp [u8s,hlt,<- hc]
  have hlk:k<(u8s t).length:=by simpa [u8s] using hlt
  rw [hc] at hsucc;have hbl:b.length<=k:=by rw [hb.out];exact l6 t k
  have hstep:∀ b',b'=aJ b c->b'=bF (t.take (k+1)):=fun b' e=>by rw [hsucc.out,<- hb.out];exact e
  have c32:((c.toNat:Int)=32)↔c=32:=⟨fun e=>abb.1 (by have:(32:UInt8).toNat=32:=rfl;omega),fun e=>by rw [e];rfl⟩;replace hstep:=hid hstep;replace c32:=hid c32;clear hsucc hb hc;have hub:(u8s b).length=b.length:=by simp [u8s]
  have rest:∀ b',b'=aJ b c->b'.length<=b.length+1:=fun b' e=>by rw [e];exact Is b c
  clear rest;by_cases hc:(c.toNat:Int)=32
  ·rcases abp b with hb0|⟨d,x,hb0⟩
   ·have e0:(b.length:Int)=0:=by rw [hb0];rfl
    have e1:=hid (hstep.out b (by rw [aJ,if_pos ⟨c32.out.1 hc,by rw [hb0];rfl⟩]));clear hb0;refine wk ?_;exact aj _ _ _ (by omega) (CutS (b:=by simp)) ⟨k+1,b,_,_,rfl,hlt,e1.out,rfl,rfl,rfl,rfl⟩
   ·have e0:¬ (b.length:Int)=0:=by rw [hb0];simp;omega
    have e1:IntKind.i64.wrap ((b.length:Int) - 1)=(d.length:Int):=by rw [ac (by omega) (by omega),hb0];simp
    have e2:(u8s b).getD d.length .undef=.int .u8 x.toNat:=by rw [hb0];simp [u8s,Z2]
    have e3:d.length<(u8s b).length:=by rw [hb0];simp [u8s]
    have e4:(d.length:Int)<(b.length:Int):=by rw [hb0];simp;omega
    have x32:x=32↔(x.toNat:Int)=32:=⟨fun e=>by rw [e];rfl,fun e=>abb.1 (by have:(32:UInt8).toNat=32:=rfl;omega)⟩;have hend:qV b=true↔x=32:=by rw [hb0];simp [qV]
    replace hb0:=hid hb0;replace x32:=hid x32;replace hend:=hid hend;by_cases hx:(x.toNat:Int)=32
    ·have e5:=hid (hstep.out b (by rw [aJ,if_pos ⟨c32.out.1 hc,hend.out.2 (x32.out.2 hx)⟩]));refine wk ?_;exact aj _ _ _ (by omega) (CutS (b:=by simp)) ⟨k+1,b,_,_,rfl,hlt,e5.out,rfl,rfl,rfl,rfl⟩
    ·have e5:=hid (hstep.out (b++[c]) (by rw [aJ,if_neg fun e=>hx (x32.out.1 (hend.out.1 e.2))]));refine wk ?_;exact aj _ _ _ (by omega) (CutS (b:=by simp)) ⟨k+1,b++[c],_,_,rfl,hlt,e5.out,(by rw [KS,hc]),(by simp),rfl,rfl⟩
  ·have e1:=hid (hstep.out (b++[c]) (by rw [aJ,if_neg fun e=>hc (c32.out.2 e.1)]));refine wk ?_;exact aj _ _ _ (by omega) (CutS (b:=by simp)) ⟨k+1,b++[c],_,_,rfl,hlt,e1.out,(KS b c).symm,(by simp),rfl,rfl⟩
 ·have hke:k=t.length:=by omega
  subst hke;have h1:¬ (t.length:Int)<(t.length:Int):=by omega
  have hbl:b.length<=t.length:=by rw [hb.out];exact l6 t _
  have hub:(u8s b).length=b.length:=by simp [u8s]
  have hfin:cZ b=bD s:=by rw [bD,ht,hb.out,ZW]
  have e1:=fP b;have e2:=fc b;replace hb:=hid hfin;clear hfin;rcases abp b with hb0|⟨d,x,hb0⟩
  ·have e0:¬ (0:Int)<(b.length:Int):=by rw [hb0];simp
   have e3:=hid (show b=bD s by rw [<- hb.out,hb0];rfl);clear hb0;refine wk ?_;refine ae rfl ?_;rw [e3.out];exact h.out
  ·have e0:(0:Int)<(b.length:Int):=by rw [hb0];simp;try omega
   have e3:IntKind.i64.wrap ((b.length:Int) - 1)=(d.length:Int):=by rw [ac (by omega) (by omega),hb0];simp
   have e4:(u8s b).getD d.length .undef=.int .u8 x.toNat:=by rw [hb0];simp [u8s,Z2]
   have e5:d.length<(u8s b).length:=by rw [hb0];simp [u8s]
   have e6:(d.length:Int)<(b.length:Int):=by rw [hb0];simp;omega
   have e7:(u8s b).take d.length=u8s d:=by rw [hb0];simp [u8s]
   have e10:(u8s d).length=d.length:=by simp [u8s]
   have e8:=fP d;have e9:=fc d;have x32:x=32↔(x.toNat:Int)=32:=⟨fun e=>by rw [e];rfl,fun e=>abb.1 (by have:(32:UInt8).toNat=32:=rfl;omega)⟩;have htr:cZ b=if x=32 then d else b:=by rw [hb0];simp [cZ]
   replace hb0:=hid hb0;replace htr:=hid htr;by_cases hx:(x.toNat:Int)=32
   ·have r:=hid (show d=bD s by rw [<- hb.out,htr.out,if_pos (x32.2 hx)]);replace x32:=hid x32;refine wk ?_;refine ae rfl ?_;rw [r.out];exact h.out
   ·have r:=hid (show b=bD s by rw [<- hb.out,htr.out,if_neg fun e=>hx (x32.1 e)]);replace x32:=hid x32;refine wk ?_;refine ae rfl ?_;rw [r.out];exact h.out
end Go.Proofs.YtcmfcpjnhephaaaGreatDoor.Av
