/- Joined texts of the walk, made small by a program. -/
import Derived.Test.YtcmfcpjnhephaaaGreatDoorJk6
import Derived.Test.YtcmfcpjnhephaaaGreatDoorJk4
import Derived.Test.YtcmfcpjnhephaaaGreatDoorRows
import Derived.KernelRfl
set_option linter.unusedSimpArgs false
set_option linter.unusedVariables false
namespace Go.Proofs.YtcmfcpjnhephaaaGreatDoor.Av
open Go
set_option maxHeartbeats 8000000
set_option maxRecDepth 100000
abbrev Atr:=List UInt8×List (List UInt8)
theorem fy (p:Nat->Bool) (xs:List (List UInt8)):AV.refsL p (xs.map AV.str)=true:=AV.refsL_iff.2 fun a ha=>by
 obtain ⟨x,_,rfl⟩:=abI.1 ha;rfl
theorem WK (xs:List (List UInt8)):(xs.map AV.str).all AV.one=true:=by
 rw [abO];intro a ha;obtain ⟨x,_,rfl⟩:=abI.1 ha;rfl
abbrev atA (a:Atr):List AV:=[.str a.1,.sl (a.2.map AV.str) a.2.length none]
def bq (l:List Atr):List AV:=l.flatMap atA
theorem Fa (a:Atr) (l:List Atr):bq (a::l)=.str a.1 :: .sl (a.2.map AV.str) a.2.length none::bq l:=rfl
theorem Ky (l m:List Atr):bq (l++m)=bq l++bq m:=by simp [bq]
theorem k8 (l:List Atr):(bq l).length=l.length * 2:=by
 induction l with
 | nil=>rfl
 | cons a l ih=>rw [Fa];simp only [abR];omega
theorem E9 (p:Nat->Bool):∀ l:List Atr,AV.refsL p (bq l)=true
 | []=>rfl
 | a::l=>by rw [Fa];simp [AV.refsL,AV.refs,fy,E9 p l]
theorem dD (l:List (List UInt8)):AV.frzL (l.map AV.str)=l.map AV.str:=by rw [AV.frzL_eq,ab9];rfl
theorem gQ:∀ l:List Atr,AV.frzL (bq l)=bq l
 | []=>rfl
 | a::l=>by rw [Fa];simp only [AV.frzL,AV.frz,dD,gQ l]
theorem mc:∀ {l:List Atr} {k:Nat},k<l.length->((bq l).drop (k * 2)).take 2=atA (l.getD k ([],[]))
 | a::l,0,_=>rfl
 | a::l,k+1,h=>by
   have ih:=@mc l k (by simpa using h);rw [show (k+1) * 2=k * 2+1+1 by omega,Fa];simpa using ih
abbrev xC (l:List (List UInt8)):AV:=.sl (l.map AV.str) l.length none
theorem XS {l:List Atr} {k:Nat} (hk:k<l.length):(bq l).getD (k * 2+1) .undef=xC (l.getD k ([],[])).2:=by
 have h2:=congrArg (fun l=>l[1]?) (mc hk);simp only [acB (show 1<2 by omega),acu] at h2;rw [ab5,h2];rfl
end Go.Proofs.YtcmfcpjnhephaaaGreatDoor.Av
set_option maxRecDepth 100000
namespace Go.Proofs.YtcmfcpjnhephaaaGreatDoor.Av
open Go
def ye:LSO:=[Al 2]
def yd:LSO:=[Al 3]
def yc:LSO:=[Aa 6 0,Ai 7 6,Ab 8 0]
def yb:LSO:=[Aj 9 8 7]
def ya:LSO:=[Am 10 2 6 8,As 11 2 10,Bl 5,Ao 2 5 11]
def x9:List (aj×Kd) :=
 [A7 12 3,A4 13 0 5,Ay 14 1 13 0 1,od 15 (.bslice false 1 0 [] []) (.read 0 0),A4 16 1 5,Ay 17 1 16 0 0,od 18 (.app 0 1 16 [(.str [])] (tm 15) (tm 17)) .eff,
 od 19 (.build [(.str []),(.sl [] 0 (some 0))] [(0,(1,(tm 14))),(1,(1,(tm 18)))]) .pure,od 20 (.bslice false 2 1 [(.str []),(.sl [] 0 (some 0))] [(0,(2,(tm 19)))]) (.read 0 0)]
def tE:List aj :=
 [⟨(some 21),(.app 1 2 40 [(.str []),(.sl [] 0 (some 0))] (tm 12) (tm 20)),none⟩,⟨(some 3),(.mv (tm 21)),none⟩]
def x8:LSO:=[Ah 22 8 1,Aa 8 22]
def x0:LSO:=[Aa 23 3,Aa 2 23]
def sI:be:=⟨24,(.seq (.sreg ye [])
 (.seq (.sreg yd [])
 (.seq (.seq (.sreg yc [])
 (.block 0 (.loop (.seq (.sreg yb [])
 (.seq (.cond (tm 9) .skip
 (.exit 0))
 (.seq (.block 1 (.seq (.sreg ya Ci)
 (.dregM x9 tE CD)))
 (.sreg x8 Ch)))))))
 (.seq (.sreg x0 Ch)
 .ret)))),[(.tmp 2)]⟩
attribute [push_cast] ye yd yc yb ya x9 tE x8 x0
theorem Mf:br Tryz.prog (fun r i=>if r=5/\i=6 then 0 else 1) 86=some sI.raw:=by kernel_rfl
def GE:LSO:=[Ae 2]
def GD:LSO:=[Aa 7 0,Ai 8 7,Ab 9 0]
def GC:LSO:=[Aj 10 9 8]
def GB:LSO:=[Am 11 2 7 9,As 12 2 11,Bl 4,Ao 2 4 12]
def GA:LSO:=[Aa 13 0,Ai 14 13,A0 15 14 60,Aa 16 15,.grp none 16 false
 [AJ 17 16 1 4,AB 18 16 1 17,BD 19 16 18,A8 20 16 19 60]
 21 (tm 20)]
def Gz:LSO:=[Ae 2]
def Gy:LSO:=[Ad 22 1 4,Ac 23 1 22,Ai 24 23,Ab 25 0]
def Gx:LSO:=[Aj 26 25 24]
def Gw:LSO:=[Am 27 1 23 25,Ac 28 1 27,Aa 6 28]
def Gv:LSO:=[Aa 29 6,Ap 30 29,A0 31 30 5000]
def DS:LSO:=[Ae 2]
def DR:LSO:=[Ah 32 25 1,Aa 25 32]
def DQ:LSO:=[Ah 33 9 1,Aa 9 33]
def DP:LSO:=[Ax 2]
def EC:be:=⟨34,(.seq (.sreg GE [])
 (.seq (.seq (.sreg GD [])
 (.block 0 (.loop (.seq (.sreg GC [])
 (.seq (.cond (tm 10) .skip
 (.exit 0))
 (.seq (.block 1 (.seq (.sreg GB Ci)
 (.seq (.seq (.sreg GA Ck)
 (.cond (tm 21) (.seq (.sreg Gz [])
 .ret)
 .skip))
 (.seq (.sreg Gy Cx)
 (.block 2 (.loop (.seq (.sreg Gx [])
 (.seq (.cond (tm 26) .skip
 (.exit 2))
 (.seq (.block 3 (.seq (.sreg Gw Ci)
 (.seq (.sreg Gv Ci)
 (.cond (tm 31) (.seq (.sreg DS [])
 .ret)
 .skip))))
 (.sreg DR Ch))))))))))
 (.sreg DQ Ch)))))))
 (.seq (.sreg DP [])
 .ret))),[(.tmp 2)]⟩
attribute [push_cast] GE GD GC GB GA Gz Gy Gx Gw Gv DS DR DQ DP
theorem N0:br Tryz.prog (fun _ _=>1) 33=some EC.raw:=by kernel_rfl
attribute [push_cast] sI EC
variable {L:List Blk} {K:abD}
set_option maxHeartbeats 8000000
set_option maxRecDepth 100000
theorem YK {l:List Atr} {cap:Option Nat} (hl:l.length<=1100000) (hz:∀ a∈l,a.2.length<=1100000) (h:K (.sl (bq l) l.length none) L) :
  abC 86 [.sl (bq l) l.length cap] L K:=by
 replace h:=hid h;refine abB Mf ?_;refine cH (l:=[]) (n:=0) 3 2 rfl (acf 2).symm ?_;refine ak (fun m T' L'=>∃ (k:Nat) (C:List AV) (X:List Blk),m=l.length - k/\k<=l.length/\C=bq (l.take k)/\T'=[(8,.int .i64 (k:Int)),(7,.int .i64 l.length),(6,.sl (bq l) l.length cap),(3,.gsl C k L.length 2)]/\L'=L++(.spare k 2::X)) (CutS (b:=by simp)) ⟨0,[],[],rfl,abL _,rfl,rfl,rfl⟩ ?_;rintro _ _ _ ⟨k,C,X,rfl,hk,hC,rfl,rfl⟩;by_cases hlt:k<l.length
 ·have g1:(k:Int)<(l.length:Int):=by omega
  have g2:=abA k (by omega);have e3:=mc hlt;have e4:k * 2+2<=(bq l).length:=by rw [k8];omega
  obtain ⟨⟨nm,vs⟩,ha⟩:∃ a,l.getD k ([],[])=a:=⟨_,rfl⟩;have htk:bq (l.take (k+1))=bq (l.take k)++[.str nm,.sl (vs.map AV.str) vs.length none]:=by
   rw [ab2 hlt,Ky,show l[k]=(nm,vs) by rw [<- ha];simp [hlt]];rfl
  have hvs:=hz (nm,vs) (by rw [<- ha];simp [hlt]);simp only at hvs;rw [ha] at e3;simp only [atA] at e3;have e0:AV.frzL (vs.map AV.str)=vs.map AV.str:=dD vs;replace htk:=hid htk;replace hC:=hid hC;clear ha hz;refine wk ?_;exact ai _ _ _ (by omega) (CutL (b:=by simp)) ⟨k+1,_,_,rfl,hlt,by rw [htk.out,hC.out],rfl,rfl⟩
 ·have hke:k=l.length:=by omega
  subst hke;have g1:¬ (l.length:Int)<(l.length:Int):=by omega
  rw [abY] at hC;subst hC;have e0:=gQ l;refine wk ?_;refine bv ?_;simp only [AV.frz,e0];exact ae (by simp only [AV.refs,E9]) h.out
def Qj (n:Nat) (a:Atr):Bool:=decide (n<=60) && decide (a.2.length<=60) && a.2.all fun v=>decide (v.length<=5000)
def Qi (l:List Atr):Bool:=l.all (Qj l.length)
theorem TO {l:List Atr} (h:Qi l=true):l.length<=60/\∀ a∈l,a.2.length<=60/\∀ v∈a.2,v.length<=5000:=by
 simp only [Qi,abO,Qj,abK,decide_eq_true_eq] at h;refine ⟨?_,fun a ha=>⟨(h a ha).1.2,(h a ha).2⟩⟩;rcases l with _|⟨x,t⟩
 ·simp
 ·exact (h x (by simp)).1.1
theorem aa9 {l:List Atr} {cap:Option Nat} (hl:(l.length:Int)<=9223372036854775807) (hz:∀ a∈l,(a.2.length:Int)<=9223372036854775807) (h:K (.bool (Qi l)) L) :
  abC 33 [.sl (bq l) l.length cap] L K:=by
 obtain ⟨R,hR⟩:=aby (l.all (Qj l.length));rw [Qi,hR] at h;replace h:=hid h;replace hR:=hid hR;refine abB N0 ?_;refine ak (fun m T' L'=>∃ (k:Nat) (X:List Blk),m=l.length - k/\k<=l.length/\Hid ((l.drop k).all (Qj l.length)=R)/\T'=[(9,.int .i64 (k:Int)),(8,.int .i64 l.length),(7,.sl (bq l) l.length cap),(0,.sl (bq l) l.length cap)]/\L'=L++X) (CutS (b:=by simp)) ⟨0,[],rfl,abL _,hid (by simpa using hR.out),rfl,by simp⟩ ?_;rintro _ _ _ ⟨k,X,rfl,hk,hI,rfl,rfl⟩;by_cases hlt:k<l.length
 ·have g1:(k:Int)<(l.length:Int):=by omega
  have g2:=abA k (by omega);have e3:=mc hlt;have e4:k * 2+2<=(bq l).length:=by rw [k8];omega
  obtain ⟨⟨nm,vs⟩,ha⟩:∃ a,l.getD k ([],[])=a:=⟨_,rfl⟩;have hdr:l.drop k=(nm,vs)::l.drop (k+1):=by rw [acp hlt,<- ha];simp [hlt]
  have hvs:=hz (nm,vs) (by rw [<- ha];simp [hlt]);simp only at hvs;rw [ha] at e3;simp only [atA] at e3;have hI2:=hI.out;rw [hdr,adq] at hI2;have no:Qj l.length (nm,vs)=false->K (.bool false) L:=fun e=>by
   rw [e,adb] at hI2;have:=h.out
   rwa [<- hI2] at this
  replace no:=hid no;clear hI hdr ha hz hR;by_cases h1:(60:Int)<(l.length:Int)
  ·have h':=hid (no.out (by simp [Qj];omega));clear hI2;refine wk ?_;exact ae rfl h'.out
  by_cases h2:(60:Int)<(vs.length:Int)
  ·have h':=hid (no.out (by simp [Qj];omega));clear hI2;refine wk ?_;exact ae rfl h'.out
  obtain ⟨rv,hrv⟩:=aby (vs.all (fun v=>decide (v.length<=5000)));have hfe:Qj l.length (nm,vs)=rv:=by
   rw [Qj,hrv,decide_eq_true (by omega),decide_eq_true (by simp only;omega)];rfl
  rw [hfe] at hI2;replace hI2:=hid hI2;replace hrv:=hid hrv;replace no:=hid (fun e:rv=false=>no.out (hfe.trans e));clear hfe;refine wk ?_;refine ak (fun m T' L'=>∃ j:Nat,m=vs.length - j/\j<=vs.length/\Hid ((vs.drop j).all (fun v=>decide (v.length<=5000))=rv)/\T'=[(25,.int .i64 (j:Int)),(24,.int .i64 vs.length),(23,.sl (vs.map AV.str) vs.length none),(9,.int .i64 (k:Int)),(8,.int .i64 l.length),(7,.sl (bq l) l.length cap),(0,.sl (bq l) l.length cap)]/\L'=L++(X++[.cells [.str nm,.sl (vs.map AV.str) vs.length none]])) (CutS (b:=by simp)) ⟨0,rfl,abL _,hid (by simpa using hrv.out),rfl,by simp⟩ ?_;rintro _ _ _ ⟨j,rfl,hj,hJ,rfl,rfl⟩;by_cases hjl:j<vs.length
  ·have j1:(j:Int)<(vs.length:Int):=by omega
   have j2:=abA j (by omega);obtain ⟨v,hv⟩:=aby (vs.getD j []);have g3:(vs.map AV.str).getD j .undef=.str v:=by rw [<- hv];simp [hjl]
   have hdr:vs.drop j=v::vs.drop (j+1):=by rw [acp hjl,<- hv];simp [hjl]
   have hJ2:=hJ.out;rw [hdr,adq] at hJ2;clear hv hdr hJ;by_cases h3:(5000:Int)<(v.length:Int)
   ·have h':=hid (no.out (by rw [<- hJ2,decide_eq_false (by omega),adb]));clear hJ2;refine wk ?_;exact ae rfl h'.out
   ·rw [decide_eq_true (by omega),acy] at hJ2;replace hJ2:=hid hJ2;refine wk ?_;exact ai _ _ _ (by omega) (CutL (b:=by simp)) ⟨j+1,rfl,hjl,hJ2,rfl,rfl⟩
  ·have j1:¬ (j:Int)<(vs.length:Int):=by omega
   have hJ2:=hJ.out;rw [adl (by omega),List.all_nil] at hJ2;have hI3:=hI2.out;rw [<- hJ2,acy] at hI3;replace hI3:=hid hI3;clear hJ hJ2;refine wk ?_;exact ai _ _ _ (by omega) (CutL (b:=by simp)) ⟨k+1,_,rfl,hlt,hI3,rfl,rfl⟩
 ·have hke:k=l.length:=by omega
  subst hke;have g1:¬ (l.length:Int)<(l.length:Int):=by omega
  have hI2:=hI.out;rw [acm,List.all_nil] at hI2;have h':=h.out;rw [<- hI2] at h';replace h':=hid h';clear hI hI2 hR;refine wk ?_;exact ae rfl h'.out
end Go.Proofs.YtcmfcpjnhephaaaGreatDoor.Av
set_option maxRecDepth 100000
namespace Go.Proofs.YtcmfcpjnhephaaaGreatDoor.Av
open Go
def Du:LSO:=[An 2]
def Dt:LSO:=[Aa 6 0,o1 7 (.s2bO (tm 6)),Aa 3 7]
def Ds:LSO:=[Aa 8 3,Ai 9 8,Ab 10 0]
def Dr:LSO:=[Aj 11 10 9]
def Dq:LSO:=[Aa 12 10,Am 13 1 8 10,Ac 14 1 13,Aa 4 12,Aa 5 14]
def Dp:LSO:=[Aa 15 5,BZ 16 15,Aa 17 16,.grp none 17 true
 [Af 18 17 5,og 19 17 true (.bin .leq (tm 18) (.av (.int .u8 90)))]
 20 (tm 19)]
def Do:LSO:=[Aa 21 3,Aa 22 4,Aa 23 5,o1 24 (.bin .add (tm 23) (.av (.int .u8 32))),Am 25 1 21 22,Ao 1 25 24]
def Dn:LSO:=[Ah 26 10 1,Aa 10 26]
def Dm:LSO:=[Aa 27 3,AO 28 27,Aa 2 28]
def sU:be:=⟨29,(.seq (.sreg Du [])
 (.seq (.sreg Dt Ci)
 (.seq (.seq (.sreg Ds [])
 (.block 0 (.loop (.seq (.sreg Dr [])
 (.seq (.cond (tm 11) .skip
 (.exit 0))
 (.seq (.block 1 (.seq (.sreg Dq Cp)
 (.seq (.sreg Dp Cj)
 (.cond (tm 20) (.sreg Do Cq)
 .skip))))
 (.sreg Dn Ch)))))))
 (.seq (.sreg Dm Ci)
 .ret)))),[(.tmp 2)]⟩
attribute [push_cast] Du Dt Ds Dr Dq Dp Do Dn Dm
theorem Mr:br Tryz.prog (fun r i=>if r=1/\i=1 then 2 else 1) 38=some sU.raw:=by kernel_rfl
def Dl:LSO:=[An 2]
def Dk:LSO:=[Al 3]
def Dj:LSO:=[Aa 6 0,Ak 7 38 6,o1 8 (.s2b (tm 7)),Ai 9 8,Ab 10 0]
def Di:LSO:=[Aj 11 10 9]
def Dh:LSO:=[Am 12 1 8 10,Ac 13 1 12,Aa 5 13]
def Dg:LSO:=[Aa 14 5,o1 15 (.bin .eql (tm 14) (.av (.int .u8 32))),Aa 16 15,.grp none 16 true
 [Af 17 16 3,Bu 18 16 17,Bp 19 16 18 0,Af 20 16 19,.grp (some (16,true)) 20 false
 [Ag 21 20 3,Ag 22 20 3,BD 23 20 22,BX 24 20 23 1,og 25 20 false (.iaddr 1 (tm 21) (tm 24)),AB 26 20 1 25,Ca 27 20 26]
 28 (tm 27)]
 29 (tm 28)]
def Df:LSO:=[Aa 30 3,Aa 31 5,AM 32 31,AD 33 30 32,Aa 3 33]
def De:LSO:=[Ah 34 10 1,Aa 10 34]
def Dd:LSO:=[Aa 35 3,Ai 36 35,A0 37 36 0,Aa 38 37,.grp none 38 true
 [Af 39 38 3,Af 40 38 3,Bu 41 38 40,Cb 42 38 41 1,Bz 43 38 1 39 42,AN 44 38 1 43,Bj 45 38 44]
 46 (tm 45)]
def Dc:LSO:=[Aa 47 3,Aa 48 3,Ai 49 48,Bd 50 49 1,o1 51 (.slV 1 (tm 47) none (some (tm 50)) none),Aa 3 51]
def wA:LSO:=[Aa 52 3,AO 53 52,Aa 2 53]
def sT:be:=⟨54,(.seq (.sreg Dl [])
 (.seq (.sreg Dk [])
 (.seq (.seq (.sreg Dj C3)
 (.block 0 (.loop (.seq (.sreg Di [])
 (.seq (.cond (tm 11) .skip
 (.exit 0))
 (.seq (.block 1 (.seq (.sreg Dh Ci)
 (.seq (.seq (.sreg Dg Cj)
 (.cond (tm 29) (.exit 1)
 .skip))
 (.sreg Df Ck))))
 (.sreg De Ch)))))))
 (.seq (.seq (.sreg Dd Ck)
 (.cond (tm 46) (.sreg Dc Cl)
 .skip))
 (.seq (.sreg wA Ci)
 .ret))))),[(.tmp 2)]⟩
attribute [push_cast] Dl Dk Dj Di Dh Dg Df De Dd Dc wA
theorem Mq:br Tryz.prog (fun _ _=>1) 95=some sT.raw:=by kernel_rfl
def CT:LSO:=[An 2]
def CS:LSO:=[Al 3]
def CR:LSO:=[Ab 4 0]
def CQ:LSO:=[Aa 6 4,Aa 7 0,Ap 8 7,Aj 9 6 8]
def CP:LSO:=[Aa 12 0,Aa 13 4,A6 14 12 13,Aa 5 14]
def CO:LSO:=[Aa 15 5,BZ 16 15,Aa 17 16,.grp none 17 true
 [Af 18 17 5,og 19 17 true (.bin .leq (tm 18) (.av (.int .u8 90)))]
 20 (tm 19)]
def CN:LSO:=[Aa 21 5,o1 22 (.bin .sub (tm 21) (.av (.int .u8 65))),o1 23 (.bin .add (tm 22) (.av (.int .u8 97))),Aa 5 23]
def CM:LSO:=[Aa 24 3,Aa 25 5,AM 26 25,AD 27 24 26,Aa 3 27]
def CL:LSO:=[Aa 10 4,Ah 11 10 1,Aa 4 11]
def CK:LSO:=[Aa 28 3,AO 29 28,Aa 2 29]
def sR:be:=⟨30,(.seq (.sreg CT [])
 (.seq (.sreg CS [])
 (.seq (.seq (.sreg CR [])
 (.block 0 (.loop (.seq (.seq (.sreg CQ Cj)
 (.cond (tm 9) .skip
 (.exit 0)))
 (.seq (.block 1 (.seq (.sreg CP Cj)
 (.seq (.seq (.sreg CO Cj)
 (.cond (tm 20) (.sreg CN Cj)
 .skip))
 (.sreg CM Ck))))
 (.sreg CL Ci))))))
 (.seq (.sreg CK Ci)
 .ret)))),[(.tmp 2)]⟩
attribute [push_cast] CT CS CR CQ CP CO CN CM CL CK
theorem Mo:br Tryz.prog (fun _ _=>1) 39=some sR.raw:=by kernel_rfl
def CJ:LSO:=[An 2]
def At:LSO:=[Aa 8 0,Ak 9 39 8,Aa 3 9]
def z8:LSO:=[Al 4]
def z7:LSO:=[Ab 5 0]
def z6:LSO:=[Aa 10 5,Aa 11 3,Ap 12 11,Aj 13 10 12]
def zZ:LSO:=[Ae 6]
def zY:LSO:=[Aa 16 5,Aa 7 16]
def zX:LSO:=[Aa 17 7,Aa 18 3,Ap 19 18,Aj 20 17 19,Aa 21 20,.grp none 21 true
 [Af 22 21 6,og 23 21 true (.un .not (tm 22))]
 24 (tm 23)]
def zW:LSO:=[Aa 27 3,Aa 28 7,A6 29 27 28,o1 30 (.bin .neq (tm 29) (.av (.int .u8 32))),Aa 6 30]
def zV:LSO:=[Aa 25 7,Ah 26 25 1,Aa 7 26]
def wm:LSO:=[Aa 31 6,Az 32 31,Aa 33 32,.grp none 33 false
 [Ag 34 33 3,Ag 35 33 5,Bi 36 33 34 35,Ca 37 33 36,Ag 38 33 37,.grp (some (33,false)) 38 true
 [Af 39 38 4,Bu 40 38 39,Bp 41 38 40 0,Af 42 38 41,.grp (some (38,true)) 42 false
 [Ag 43 42 3,Ag 44 42 5,BX 45 42 44 1,Bi 46 42 43 45,Ca 47 42 46]
 48 (tm 47)]
 49 (tm 48)]
 50 (tm 49)]
def wl:LSO:=[Aa 51 4,Aa 52 3,Aa 53 5,A6 54 52 53,AM 55 54,AD 56 51 55,Aa 4 56]
def wj:LSO:=[Aa 14 5,Ah 15 14 1,Aa 5 15]
def wi:LSO:=[Aa 57 4,AO 58 57,Aa 2 58]
def sQ:be:=⟨59,(.seq (.sreg CJ [])
 (.seq (.sreg At Ci)
 (.seq (.sreg z8 [])
 (.seq (.seq (.sreg z7 [])
 (.block 0 (.loop (.seq (.seq (.sreg z6 Cj)
 (.cond (tm 13) .skip
 (.exit 0)))
 (.seq (.block 1 (.seq (.sreg zZ [])
 (.seq (.seq (.sreg zY Ch)
 (.block 2 (.loop (.seq (.seq (.sreg zX Cl)
 (.cond (tm 24) .skip
 (.exit 2)))
 (.seq (.block 3 (.sreg zW Ck))
 (.sreg zV Ci))))))
 (.seq (.seq (.sreg wm Cj)
 (.cond (tm 50) (.exit 1)
 .skip))
 (.sreg wl Co)))))
 (.sreg wj Ci))))))
 (.seq (.sreg wi Ci)
 .ret))))),[(.tmp 2)]⟩
attribute [push_cast] CJ At z8 z7 z6 zZ zY zX zW zV wm wl wj wi
theorem Mn:br Tryz.prog (fun _ _=>1) 90=some sQ.raw:=by kernel_rfl
def Db:LSO:=[Cc 2,Ae 3]
def Da:LSO:=[Aa 5 0,o1 6 (.bin .geq (tm 5) (.av (.int .u8 48))),Aa 7 6,.grp none 7 true
 [Af 8 7 0,og 9 7 true (.bin .leq (tm 8) (.av (.int .u8 57)))]
 10 (tm 9),Aa 4 10]
def CZ:LSO:=[Aa 11 0,B7 12 11,Aa 2 12,Ax 3]
def CY:LSO:=[Aa 14 0,o1 15 (.bin .geq (tm 14) (.av (.int .u8 97))),Aa 16 15,.grp none 16 true
 [Af 17 16 0,og 18 16 true (.bin .leq (tm 17) (.av (.int .u8 102)))]
 19 (tm 18),Aa 13 19]
def CX:LSO:=[Aa 20 0,o1 21 (.bin .sub (tm 20) (.av (.int .u8 97))),o1 22 (.bin .add (tm 21) (.av (.int .u8 10))),Aa 2 22,Ax 3]
def CW:LSO:=[Aa 24 0,BZ 25 24,Aa 26 25,.grp none 26 true
 [Af 27 26 0,og 28 26 true (.bin .leq (tm 27) (.av (.int .u8 70)))]
 29 (tm 28),Aa 23 29]
def CV:LSO:=[Aa 30 0,o1 31 (.bin .sub (tm 30) (.av (.int .u8 65))),o1 32 (.bin .add (tm 31) (.av (.int .u8 10))),Aa 2 32,Ax 3]
def CU:LSO:=[Cc 2,Ae 3]
def sS:be:=⟨33,(.seq (.sreg Db [])
 (.seq (.block 0 (.seq (.sreg Da Ck)
 (.cond (tm 4) (.seq (.sreg CZ Cs)
 .ret)
 (.seq (.sreg CY Ck)
 (.cond (tm 13) (.seq (.sreg CX Cp)
 .ret)
 (.seq (.sreg CW Ck)
 (.cond (tm 23) (.seq (.sreg CV Cp)
 .ret)
 .skip)))))))
 (.seq (.sreg CU [])
 .ret))),[(.tmp 2),(.tmp 3)]⟩
attribute [push_cast] Db Da CZ CY CX CW CV CU
theorem Mp:br Tryz.prog (fun _ _=>1) 234=some sS.raw:=by kernel_rfl
def wz:LSO:=[An 2,Ae 3]
def wy:LSO:=[Aa 10 0,Ap 11 10,o1 12 (.bin .rem (tm 11) (iv 2)),Au 13 12 1]
def ww:LSO:=[An 2,Ae 3]
def wu:LSO:=[Aa 14 0,Ap 15 14,o1 16 (.bin .quo (tm 15) (iv 2)),o1 17 (.mkslice 1 1 [(.int .u8 0)] (iv 0) (tm 16)),Aa 4 17]
def wt:LSO:=[Ab 5 0]
def wr:LSO:=[Aa 18 5,Aa 19 0,Ap 20 19,Aj 21 18 20]
def wq:LSO:=[Aa 25 0,Aa 26 5,A6 27 25 26,Ak 28 234 27,Aa 24 28,Ar 29 24,Aw 30 24,Aa 6 29,Aa 7 30]
def wp:LSO:=[Aa 32 0,Aa 33 5,Ah 34 33 1,A6 35 32 34,Ak 36 234 35,Aa 31 36,Ar 37 31,Aw 38 31,Aa 8 37,Aa 9 38]
def wo:LSO:=[Aa 39 7,Az 40 39,Aa 41 40,.grp none 41 false
 [Ag 42 41 9,AU 43 41 42]
 44 (tm 43)]
def wn:LSO:=[An 2,Ae 3]
def rB:LSO:=[Aa 45 4,Aa 46 6,o1 47 (.bin .shl (tm 46) (.av (.int .u64 4))),Aa 48 8,o1 49 (.bin .or (tm 47) (tm 48)),AM 50 49,AD 51 45 50,Aa 4 51]
def rA:LSO:=[Aa 22 5,Ah 23 22 2,Aa 5 23]
def rz:LSO:=[Aa 52 4,AO 53 52,Aa 2 53,Ax 3]
def ov:be:=⟨54,(.seq (.sreg wz [])
 (.seq (.seq (.sreg wy Cj)
 (.cond (tm 13) (.seq (.sreg ww [])
 .ret)
 .skip))
 (.seq (.sreg wu Ck)
 (.seq (.seq (.sreg wt [])
 (.block 0 (.loop (.seq (.seq (.sreg wr Cj)
 (.cond (tm 21) .skip
 (.exit 0)))
 (.seq (.block 1 (.seq (.sreg wq C6)
 (.seq (.sreg wp CH)
 (.seq (.seq (.sreg wo Cj)
 (.cond (tm 44) (.seq (.sreg wn [])
 .ret)
 .skip))
 (.sreg rB Cr)))))
 (.sreg rA Ci))))))
 (.seq (.sreg rz Cs)
 .ret))))),[(.tmp 2),(.tmp 3)]⟩
attribute [push_cast] wz wy ww wu wt wr wq wp wo wn rB rA rz
theorem Ld:br Tryz.prog (fun _ _=>1) 211=some ov.raw:=by kernel_rfl
def vX:LSO:=[Cc 2]
def vW:LSO:=[Aa 3 0,o1 4 (.bin .lss (tm 3) (.av (.int .u8 10)))]
def vV:LSO:=[Aa 5 0,o1 6 (.bin .add (.av (.int .u8 48)) (tm 5)),Aa 2 6]
def vU:LSO:=[Aa 7 0,o1 8 (.bin .add (.av (.int .u8 97)) (tm 7)),o1 9 (.bin .sub (tm 8) (.av (.int .u8 10))),Aa 2 9]
def ot:be:=⟨10,(.seq (.sreg vX [])
 (.seq (.seq (.sreg vW Ch)
 (.cond (tm 4) (.seq (.sreg vV Ci)
 .ret)
 .skip))
 (.seq (.sreg vU Cj)
 .ret))),[(.tmp 2)]⟩
attribute [push_cast] vX vW vV vU
theorem Lb:br Tryz.prog (fun _ _=>1) 221=some ot.raw:=by kernel_rfl
def wh:LSO:=[An 2,Ae 3]
def wg:LSO:=[Al 4]
def wc:LSO:=[Aa 9 0,Ak 10 39 9,Aa 5 10]
def wb:LSO:=[Ab 6 0]
def wa:LSO:=[Aa 11 6,Ah 12 11 1,Aa 13 5,Ap 14 13,Aj 15 12 14]
def v8:LSO:=[Ae 7]
def v7:LSO:=[Ab 8 0]
def v6:LSO:=[Aa 18 8,AK 19 18 256,Aa 20 19,.grp none 20 true
 [Af 21 20 7,og 22 20 true (.un .not (tm 21))]
 23 (tm 22)]
def vZ:LSO:=[Aa 26 8,o1 27 (.bin .quo (tm 26) (iv 16)),o1 28 (.conv .u8 (tm 27)),Ak 29 221 28,Aa 30 5,Aa 31 6,A6 32 30 31,A9 33 29 32,Aa 34 33,.grp none 34 true
 [Af 35 34 8,B5 36 34 35 16,og 37 34 true (.conv .u8 (tm 36)),AX 38 34 221 37,Af 39 34 5,Af 40 34 6,og 41 34 true (.bin .add (tm 40) (iv 1)),AY 42 34 39 41,
 og 43 34 true (.bin .eql (tm 38) (tm 42))]
 44 (tm 43)]
def vY:LSO:=[Aa 45 4,Aa 46 8,o1 47 (.conv .u8 (tm 46)),AM 48 47,AD 49 45 48,Aa 4 49]
def ry:LSO:=[Ax 7]
def rx:LSO:=[Aa 24 8,Ah 25 24 1,Aa 8 25]
def ru:LSO:=[Aa 50 7,Az 51 50]
def rr:LSO:=[An 2,Ae 3]
def rq:LSO:=[Aa 16 6,Ah 17 16 2,Aa 6 17]
def rp:LSO:=[Aa 52 0,Ap 53 52,o1 54 (.bin .rem (tm 53) (iv 2)),Au 55 54 1]
def rn:LSO:=[An 2,Ae 3]
def rm:LSO:=[Aa 56 4,AO 57 56,Aa 2 57,Ax 3]
def ou:be:=⟨58,(.seq (.sreg wh [])
 (.seq (.sreg wg [])
 (.seq (.sreg wc Ci)
 (.seq (.seq (.sreg wb [])
 (.block 0 (.loop (.seq (.seq (.sreg wa Ck)
 (.cond (tm 15) .skip
 (.exit 0)))
 (.seq (.block 1 (.seq (.sreg v8 [])
 (.seq (.seq (.sreg v7 [])
 (.block 2 (.loop (.seq (.seq (.sreg v6 Cj)
 (.cond (tm 23) .skip
 (.exit 2)))
 (.seq (.block 3 (.seq (.sdreg vZ [.pure,.pure,.pure,(.read 0 0),.pure,.pure,(.read 0 0),.pure,.pure,.pure,.pure,.pure,(.read 0 0),.pure,.pure,.pure,(.read 0 0)] C7)
 (.cond (tm 44) (.seq (.sreg vY Cl)
 (.sreg ry []))
 .skip)))
 (.sreg rx Ci))))))
 (.seq (.sreg ru Ch)
 (.cond (tm 51) (.seq (.sreg rr [])
 .ret)
 .skip)))))
 (.sreg rq Ci))))))
 (.seq (.seq (.sreg rp Cj)
 (.cond (tm 55) (.seq (.sreg rn [])
 .ret)
 .skip))
 (.seq (.sreg rm Cs)
 .ret)))))),[(.tmp 2),(.tmp 3)]⟩
attribute [push_cast] wh wg wc wb wa v8 v7 v6 vZ vY ry rx ru rr rq rp rn rm
theorem Lc:br Tryz.prog (fun _ _=>1) 189=some ou.raw:=by kernel_rfl
attribute [push_cast] sU sR ov ou
variable {L:List Blk} {K:abD}
set_option maxHeartbeats 8000000
set_option maxRecDepth 100000
def dp (c:UInt8):UInt8:=if 65<=c.toNat/\c.toNat<=90 then c+32 else c
def ab (s:List UInt8):List UInt8:=s.map dp
theorem P6 {c:UInt8} (h1:65<=c.toNat) (h2:c.toNat<=90):((dp c).toNat:Int)=(c.toNat:Int)+32:=by
 rw [dp,if_pos ⟨h1,h2⟩,UInt8.toNat_add];have:(32:UInt8).toNat=32:=rfl;omega
theorem rI {c:UInt8} (h:¬ (65<=c.toNat/\c.toNat<=90)):dp c=c:=by rw [dp,if_neg h]
theorem fM (l:List UInt8):(u8s l).all SD=true:=by
 simp only [u8s,List.all_map,abO];intro x _;have:=x.toNat_lt;simp [SD]
theorem fa (l:List UInt8):(u8s l).map PL=l:=by
 induction l with
 | nil=>rfl
 | cons x l ih =>
   simp only [u8s,abS,ab9] at ih ⊢;rw [ih];simp [PL]
theorem Mv (l:List UInt8) (c:UInt8):u8s (l++[c])=u8s l++[.int .u8 c.toNat]:=by simp [u8s]
theorem Nz {s:List UInt8} {k:Nat} (h:k<s.length):ab (s.take (k+1))=ab (s.take k)++[dp (s.getD k 0)]:=by
 rw [ab2 h,ab,aca];simp [ab,h]
theorem bL {s:List UInt8} (hs:(s.length:Int)<=140737488351232) (h:K (.str (ab s)) L):abC 39 [.str s] L K:=by
 replace h:=hid h;refine abB Mo ?_;refine cH (l:=[]) (n:=0) 3 1 rfl (acf 1).symm ?_;refine ak (fun n T' L'=>∃ (k:Nat) (v:List AV),n=s.length - k/\k<=s.length/\v=u8s (ab (s.take k))/\T'=[(4,.int .i64 (k:Int)),(3,.gsl v k L.length 1),(2,.str []),(0,.str s)]/\L'=L++[.spare k 1]) (CutS (b:=by simp)) ⟨0,[],rfl,abL _,rfl,rfl,rfl⟩ ?_;rintro _ _ _ ⟨k,v,rfl,hk,rfl,rfl,rfl⟩;by_cases hlt:k<s.length
 ·have h1:(k:Int)<(s.length:Int):=by omega
  have h2:=abA k (by omega);have hsucc:=hid (Nz hlt);have e:s.getD k 0=s.getD k 0:=rfl;obtain ⟨c,hc⟩:=aby (s.getD k 0);rw [hc] at hsucc;have hc255:=c.toNat_lt;by_cases hu:65<=c.toNat/\c.toNat<=90
  ·have u1:(65:Int)<=(c.toNat:Int):=by omega
   have u2:(c.toNat:Int)<=90:=by omega
   have u3:=hid (P6 hu.1 hu.2);have u4:IntKind.u8.wrap ((c.toNat:Int) - 65)=(c.toNat:Int) - 65:=cx (by omega) (by omega);have u5:IntKind.u8.wrap ((c.toNat:Int) - 65+97)=(c.toNat:Int) - 65+97:=cx (by omega) (by omega);clear hu;refine wk ?_;refine ai _ _ _ (by omega) (CutS (b:=by simp)) ⟨k+1,_,rfl,hlt,?_,rfl,rfl⟩;rw [hsucc.out,Mv,u3.out];simp only [show (c.toNat:Int) - 65+97=c.toNat+32 by omega]
  ·have u3:=hid (rI hu);have u4:¬ ((65:Int)<=(c.toNat:Int)/\(c.toNat:Int)<=90):=by omega
   have u5:(decide ((65:Int)<=(c.toNat:Int)) && decide ((c.toNat:Int)<=90))=false:=by simp;omega
   clear hu
   repeat' first
    | refine a8 ?_
    | (first|refine aU (by kernel_rfl) ?_|refine aB (by kernel_rfl) ?_|refine aE ?_|refine bI ?_|refine bf (fun _=>?_)|refine ay ?_|refine aW ?_)
      refine sm ?_
    | (first|refine aO (by kernel_rfl) ?_|refine aP ?_|refine aD ?_|refine aV ?_|refine bp (ax ?_))
      refine sl ?_
    | exact bg
    | first|apply bh|apply aR|apply bj|apply aS|apply bm|apply aT
    | refine aH ?_
    | refine aC ?_
    | first|refine aF rfl ?_|refine aG rfl ?_|refine an rfl ?_ ?_|refine aJ rfl (fun _=>?_) (fun _=>?_)|refine aI rfl (fun _=>?_) (fun _=>?_)
    | ((first|refine am (fun _=>?_) (fun _=>?_)|refine aw (fun _=>?_) (fun _=>?_))<;>try refine sm ?_)
    | refine And.intro trivial ?_
    | refine And.intro (by omega) ?_
    | refine aM rfl (fun _=>?_) (fun _=>?_)
    | refine And.intro ?_ ?_
   all_goals first
    | omega
    | (refine ai _ _ _ (by omega) (CutS (b := by simp)) ⟨k + 1, _, rfl, hlt, ?_, rfl, rfl⟩
       rw [hsucc.out,Mv,u3.out])
 ·have hke:k=s.length:=by omega
  subst hke;have h1:¬ (s.length:Int)<(s.length:Int):=by omega
  have e1:=fM (ab s);have e2:=fa (ab s);have e3:s.take s.length=s:=abY;refine wk ?_;exact ae rfl h.out
theorem eR {s:List UInt8} (hs:(s.length:Int)<=140737488351232) (h:K (.str (ab s)) L):abC 38 [.str s] L K:=by
 replace h:=hid h;refine abB Mr ?_;refine ak (fun n T' L'=>∃ (k:Nat) (v:List AV),n=s.length - k/\k<=s.length/\v=u8s (ab (s.take k)++s.drop k)/\T'=[(10,.int .i64 (k:Int)),(9,.int .i64 s.length),(8,.lsl L.length 0 s.length none 1),(3,.lsl L.length 0 s.length none 1),(2,.str [])]/\L'=L++[.bytes v]) (CutS (b:=by simp)) ⟨0,_,rfl,abL _,rfl,rfl,rfl⟩ ?_;rintro _ _ _ ⟨k,v,rfl,hk,hv,rfl,rfl⟩;by_cases hlt:k<s.length
 ·have h1:(k:Int)<(s.length:Int):=by omega
  have h2:=abA k (by omega);obtain ⟨c,hc⟩:=aby (s.getD k 0);have hd:s.drop k=c::s.drop (k+1):=by
   rw [acp hlt,<- hc,ab5,abV hlt];rfl
  have hlk:(ab (s.take k)).length=k:=by simp [ab];omega
  have hv1:v=u8s (ab (s.take k)) ++ .int .u8 c.toNat::u8s (s.drop (k+1)):=by rw [hv,hd];simp [u8s]
  have hl2:(u8s (ab (s.take k))).length=k:=by simp [u8s,hlk]
  have hvl:v.length=s.length:=by rw [hv];simp [u8s,ab];omega
  have hvk:k<v.length:=by omega
  have hvg:v.getD k .undef=.int .u8 c.toNat:=by rw [hv1];simp [ab5,ab8,hl2]
  have hsucc:=Nz hlt;rw [hc] at hsucc;have hnew:u8s (ab (s.take (k+1))++s.drop (k+1))=u8s (ab (s.take k)) ++ .int .u8 (dp c).toNat::u8s (s.drop (k+1)):=by rw [hsucc];simp [u8s]
  have hspl:∀ x,v.take k++x::v.drop (k+1)=u8s (ab (s.take k))++x::u8s (s.drop (k+1)):=fun x=>by
   rw [hv1,List.take_left' hl2,List.drop_append,hl2,adl (by omega),show k+1 - k=1 by omega];rfl
  clear hv hd hlk hsucc;replace hv1:=hid hv1;replace hnew:=hid hnew;replace hspl:=hid hspl;have hc255:=c.toNat_lt;by_cases hu:65<=c.toNat/\c.toNat<=90
  ·have u1:(65:Int)<=(c.toNat:Int):=by omega
   have u2:(c.toNat:Int)<=90:=by omega
   have u3:=hid (P6 hu.1 hu.2);have u4:IntKind.u8.wrap ((c.toNat:Int)+32)=(c.toNat:Int)+32:=cx (by omega) (by omega);clear hu;refine wk ?_;refine ai _ _ _ (by omega) (CutS (b:=by simp)) ⟨k+1,_,rfl,hlt,?_,rfl,rfl⟩;rw [hnew.out,u3.out];exact hspl.out _
  ·have u3:=hid (rI hu);have u5:(decide ((65:Int)<=(c.toNat:Int)) && decide ((c.toNat:Int)<=90))=false:=by simp;omega
   clear hu
   repeat' first
    | refine a8 ?_
    | (first|refine aU (by kernel_rfl) ?_|refine aB (by kernel_rfl) ?_|refine aE ?_|refine bI ?_|refine bf (fun _=>?_)|refine ay ?_|refine aW ?_)
      refine sm ?_
    | (first|refine aO (by kernel_rfl) ?_|refine aP ?_|refine aD ?_|refine aV ?_|refine bp (ax ?_))
      refine sl ?_
    | exact bg
    | first|apply bh|apply aR|apply bj|apply aS|apply bm|apply aT
    | refine aH ?_
    | refine aC ?_
    | first|refine aF rfl ?_|refine aG rfl ?_|refine an rfl ?_ ?_|refine aJ rfl (fun _=>?_) (fun _=>?_)|refine aI rfl (fun _=>?_) (fun _=>?_)
    | ((first|refine am (fun _=>?_) (fun _=>?_)|refine aw (fun _=>?_) (fun _=>?_))<;>try refine sm ?_)
    | refine And.intro trivial ?_
    | refine And.intro (by omega) ?_
    | refine aM rfl (fun _=>?_) (fun _=>?_)
    | refine And.intro ?_ ?_
   all_goals first
    | omega
    | (refine ai _ _ _ (by omega) (CutS (b := by simp)) ⟨k + 1, _, rfl, hlt, ?_, rfl, rfl⟩
       rw [hnew.out,u3.out];exact hv1.out)
 ·have hke:k=s.length:=by omega
  subst hke;have h1:¬ (s.length:Int)<(s.length:Int):=by omega
  have hv1:v=u8s (ab s):=by rw [hv];simp
  clear hv;subst hv1;have e1:=fM (ab s);have e2:=fa (ab s);have e4:(u8s (ab s)).length=s.length:=by simp [u8s,ab]
  have e5:(u8s (ab s)).take s.length=u8s (ab s):=by rw [<- e4];exact abY
  refine wk ?_;exact ae rfl h.out
theorem jp {s:List UInt8} (hs:(s.length:Int)<=100000) (h:K (.str (ab s)) L):abC 39 [.str s] L K:=bL (by omega) h
theorem Em {s:List UInt8} (hs:(s.length:Int)<=100000) (h:K (.str (ab s)) L):abC 38 [.str s] L K:=eR (by omega) h
def gH (c:UInt8):Option Nat:=if 48<=c.toNat/\c.toNat<=57 then some (c.toNat - 48) else if 97<=c.toNat/\c.toNat<=102 then some (c.toNat - 87) else if 65<=c.toNat/\c.toNat<=70 then some (c.toNat - 55) else none
theorem EZ {c:UInt8} {x:Nat} (h:gH c=some x):x<16:=by
 unfold gH at h;split at h
 ·cases h;omega
 ·split at h
  ·cases h;omega
  ·split at h
   ·cases h;omega
   ·cases h
theorem SJ {c:UInt8} {L:List Blk} {K:abD} (h:K (.tup [.int .u8 ((gH c).getD 0:Nat),.bool (gH c).isSome]) L):abC 234 [.int .u8 c.toNat] L K:=by
 have hc:=c.toNat_lt;obtain ⟨n,hn⟩:=aby (c.toNat);unfold gH at h;rw [hn] at h hc ⊢;clear hn;refine ad Mp (by simp [sS]) ?_;simp only [sS,ao];by_cases h1:48<=n/\n<=57
 ·rw [if_pos h1] at h;replace h:=hid h;obtain ⟨a1,a2⟩:=h1;have b1:(48:Int)<=(n:Int):=by omega
  have b2:(n:Int)<=57:=by omega
  have b3:IntKind.u8.wrap ((n:Int) - 48)=(n:Int) - 48:=cx (by omega) (by omega);clear a1 a2;refine wk ?_;refine aa ?_;have:=h.out;simpa [show ((n - 48:Nat):Int)=(n:Int) - 48 by omega] using this
 ·rw [if_neg h1] at h;have c1:(decide ((48:Int)<=(n:Int)) && decide ((n:Int)<=57))=false:=by simp;omega
  by_cases h2:97<=n/\n<=102
  ·rw [if_pos h2] at h;replace h:=hid h;obtain ⟨a1,a2⟩:=h2;have b1:(97:Int)<=(n:Int):=by omega
   have b2:(n:Int)<=102:=by omega
   have b4:IntKind.u8.wrap ((n:Int) - 97)=(n:Int) - 97:=cx (by omega) (by omega);have b5:IntKind.u8.wrap ((n:Int) - 97+10)=(n:Int) - 97+10:=cx (by omega) (by omega);clear a1 a2 h1;refine wk ?_;refine aa ?_;have:=h.out;simpa [show ((n - 87:Nat):Int)=(n:Int) - 97+10 by omega] using this
  ·rw [if_neg h2] at h;have c2:(decide ((97:Int)<=(n:Int)) && decide ((n:Int)<=102))=false:=by simp;omega
   by_cases h3:65<=n/\n<=70
   ·rw [if_pos h3] at h;replace h:=hid h;obtain ⟨a1,a2⟩:=h3;have b1:(65:Int)<=(n:Int):=by omega
    have b2:(n:Int)<=70:=by omega
    have b4:IntKind.u8.wrap ((n:Int) - 65)=(n:Int) - 65:=cx (by omega) (by omega);have b5:IntKind.u8.wrap ((n:Int) - 65+10)=(n:Int) - 65+10:=cx (by omega) (by omega);clear a1 a2 h1 h2;refine wk ?_;refine aa ?_;have:=h.out;simpa [show ((n - 55:Nat):Int)=(n:Int) - 65+10 by omega] using this
   ·rw [if_neg h3] at h;have c3:(decide ((65:Int)<=(n:Int)) && decide ((n:Int)<=70))=false:=by simp;omega
    replace h:=hid h;clear h1 h2 h3
    repeat' first
     | refine a8 ?_
     | (first|refine aU (by kernel_rfl) ?_|refine aB (by kernel_rfl) ?_|refine aE ?_|refine bI ?_|refine bf (fun _=>?_)|refine ay ?_|refine aW ?_)
       refine sm ?_
     | (first|refine aO (by kernel_rfl) ?_|refine aP ?_|refine aD ?_|refine aV ?_|refine bp (ax ?_))
       refine sl ?_
     | exact bg
     | first|apply bh|apply aR|apply bj|apply aS|apply bm|apply aT
     | refine aH ?_
     | refine aC ?_
     | first|refine aF rfl ?_|refine aG rfl ?_|refine an rfl ?_ ?_|refine aJ rfl (fun _=>?_) (fun _=>?_)|refine aI rfl (fun _=>?_) (fun _=>?_)
     | ((first|refine am (fun _=>?_) (fun _=>?_)|refine aw (fun _=>?_) (fun _=>?_))<;>try refine sm ?_)
     | refine And.intro trivial ?_
     | refine And.intro (by omega) ?_
     | refine aM rfl (fun _=>?_) (fun _=>?_)
     | refine And.intro ?_ ?_
    all_goals first
     | omega
     | (refine aa ?_;simpa using h.out)
def Ke (a b:UInt8):Option UInt8:=match gH a,gH b with
 | some x,some y=>some (UInt8.ofNat (16 * x+y))
 | _,_=>none
def H5 (a b:UInt8):AV:=match Ke a b with
 | some c=>.tup [.str [c],.bool true]
 | none=>.tup [.str [],.bool false]
theorem Z4:∀ x y:_root_.Fin 16,IntKind.u8.wrap (((BitVec.ofInt IntKind.u8.bits (IntKind.u8.wrap ((x.val:Int) * 2 ^ min 4 IntKind.u8.bits)) ||| BitVec.ofInt IntKind.u8.bits (y.val:Int)).toNat:Nat):Int)=16 * (x.val:Int)+(y.val:Int):=by decide +kernel
theorem V1 {a b:UInt8} (h:K (H5 a b) L):abC 211 [.str [a,b]] L K:=by
 have hl:[a,b].length=2:=rfl;have ha:[a,b].getD 0 0=a:=rfl;have hb:[a,b].getD 1 0=b:=rfl;have d1:IntKind.i64.wrap (Int.tdiv 2 2)=1:=by decide
 have d2:Int.tmod 2 2=0:=by decide
 have d3:dM [AV.int IntKind.u8 0] 1=[AV.int IntKind.u8 0]:=rfl;have d4:IntKind.i64.wrap 1=1:=by decide
 have d5:IntKind.i64.wrap 2=2:=by decide
 replace h:=hid h;refine abB Ld ?_;refine ak (fun n T' L'=>(n=1/\T'=[(5,.int .i64 0),(4,.lsl L.length 0 0 (some 1) 1),(0,.str [a,b])]/\L'=L++[.cells [.int .u8 0]])\/(n=0/\∃ x y:Nat,Hid (gH a=some x)/\Hid (gH b=some y)/\T'=[(5,.int .i64 2),(4,.lsl (L.length+1) 0 1 none 1),(0,.str [a,b])]/\L'=L++[.dead,.cells [.int .u8 ((16 * x+y:Nat):Int)]])) (n0:=1) (T0:=[(5,.int .i64 0),(4,.lsl L.length 0 0 (some 1) 1),(0,.str [a,b])]) (L0:=L++[.cells [.int .u8 0]]) (CutS (b:=by simp)) (.inl ⟨rfl,rfl,rfl⟩) ?_;rintro _ _ _ (⟨rfl,rfl,rfl⟩|⟨rfl,x,y,hx,hy,rfl,rfl⟩)
 ·rcases hx:gH a with _|x
  ·have h':=h.out;simp only [H5,Ke,hx] at h';replace h':=hid h';have e1:(gH a).getD 0=0:=by rw [hx];rfl
   have e2:(gH a).isSome=false:=by rw [hx];rfl
   clear hx;have kk1:=@hid _ @SJ;refine wk ?_;exact ae rfl h'.out
  ·have e1:(gH a).getD 0=x:=by rw [hx];rfl
   have e2:(gH a).isSome=true:=by rw [hx];rfl
   have hx':=hid hx;rcases hy:gH b with _|y
   ·have h':=h.out;simp only [H5,Ke,hx,hy] at h';replace h':=hid h';have e3:(gH b).getD 0=0:=by rw [hy];rfl
    have e4:(gH b).isSome=false:=by rw [hy];rfl
    clear hx hy;have kk1:=@hid _ @SJ;refine wk ?_;exact ae rfl h'.out
   ·have e3:(gH b).getD 0=y:=by rw [hy];rfl
    have e4:(gH b).isSome=true:=by rw [hy];rfl
    have hy':=hid hy;have e5:=Z4 ⟨x,EZ hx⟩ ⟨y,EZ hy⟩;simp only at e5;clear hx hy;have kk1:=@hid _ @SJ;refine wk ?_;refine ai 0 _ _ (by omega) (CutL (b:=by simp)) (.inr ⟨rfl,x,y,hid rfl,hid rfl,rfl,?_⟩)
    first|rfl|rw [e5]
 ·have h':=h.out;simp only [H5,Ke,hx.out,hy.out] at h';replace h':=hid h';have lx:=EZ hx.out;have ly:=EZ hy.out;have u1:SD (.int .u8 (16 * (x:Int)+(y:Int)))=true:=rfl;have u2:PL (.int .u8 (16 * (x:Int)+(y:Int)))=UInt8.ofNat (16 * x+y):=by
   simp only [PL];rw [show (16 * (x:Int)+(y:Int)).toNat=16 * x+y by omega]
  refine wk ?_;exact ae rfl h'.out
def rR (b:List UInt8):Bool:=b.isEmpty || b.getLast? == some 32
def aK (b:List UInt8) (c:UInt8):List UInt8:=if c=32/\rR b=true then b else b++[c]
def bG (s:List UInt8):List UInt8:=s.foldl aK []
def c7 (b:List UInt8):List UInt8:=if b.getLast?=some 32 then b.dropLast else b
def bE (s:List UInt8):List UInt8:=c7 (bG (ab s))
theorem J3 (b:List UInt8) (c:UInt8):(aK b c).length<=b.length+1:=by
 unfold aK;split<;>simp
theorem si {s:List UInt8} {k:Nat} (h:k<s.length):bG (s.take (k+1))=aK (bG (s.take k)) (s.getD k 0):=by
 rw [ab2 h,bG,adM];simp [bG,h]
theorem mh (s:List UInt8):∀ k,(bG (s.take k)).length<=k
 | 0=>by simp [bG]
 | k+1=>by
   have ih:=mh s k;by_cases h:k<s.length
   ·rw [si h];have:=J3 (bG (s.take k)) (s.getD k 0);omega
   ·rw [acW (by omega),<- acW (l:=s) (i:=k) (by omega)];omega
theorem sg {s:List UInt8} (hs:(s.length:Int)<=100000) (h:K (.str (bE s)) L):abC 95 [.str s] L K:=by
 replace h:=hid h;refine ad Mq (by simp [sT]) ?_;simp only [sT,ao];obtain ⟨t,ht⟩:=aby (ab s);have htl:(t.length:Int)<=100000:=by rw [<- ht];simpa [ab] using hs
 have kk1:=@hid _ (fun L K=>Em hs (L:=L) (K:=K));refine wk ?_;refine cH (l:=[]) (n:=0) 3 1 rfl (acf 1).symm ?_;refine ak (fun n T' L'=>∃ (k:Nat) (b:List UInt8) (v:List AV) (m:Nat),n=t.length - k/\k<=t.length/\b=bG (t.take k)/\v=u8s b/\m=b.length/\T'=[(10,.int .i64 (k:Int)),(9,.int .i64 t.length),(8,.sl (u8s t) t.length none),(3,.gsl v m L.length 1),(2,.str [])]/\L'=L++[.spare m 1]) (CutS (b:=by simp)) ⟨0,[],[],0,rfl,abL _,rfl,rfl,rfl,rfl,rfl⟩ ?_;rintro _ _ _ ⟨k,b,v,m,rfl,hk,hb,rfl,rfl,rfl,rfl⟩;replace hb:=hid hb;by_cases hlt:k<t.length
 ·have h1:(k:Int)<(t.length:Int):=by omega
  have h2:=abA k (by omega);have hsucc:=hid (si hlt);obtain ⟨c,hc⟩:=aby (t.getD k 0);have hg:(u8s t).getD k .undef=.int .u8 c.toNat:=by simp [u8s,hlt,<- hc]
  have hlk:k<(u8s t).length:=by simpa [u8s] using hlt
  rw [hc] at hsucc;have hbl:b.length<=k:=by rw [hb.out];exact mh t k
  have hstep:∀ b',b'=aK b c->b'=bG (t.take (k+1)):=fun b' e=>by rw [hsucc.out,<- hb.out];exact e
  have c32:((c.toNat:Int)=32)↔c=32:=⟨fun e=>adm.1 (by have:(32:UInt8).toNat=32:=rfl;omega),fun e=>by rw [e];rfl⟩;replace hstep:=hid hstep;replace c32:=hid c32;clear hsucc hb hc;have hub:(u8s b).length=b.length:=by simp [u8s]
  have rest:∀ b',b'=aK b c->b'.length<=b.length+1:=fun b' e=>by rw [e];exact J3 b c
  clear rest;by_cases hc:(c.toNat:Int)=32
  ·rcases adw b with hb0|⟨d,x,hb0⟩
   ·have e0:(b.length:Int)=0:=by rw [hb0];rfl
    have e1:=hid (hstep.out b (by rw [aK,if_pos ⟨c32.out.1 hc,by rw [hb0];rfl⟩]));clear hb0;refine wk ?_;exact ai _ _ _ (by omega) (CutS (b:=by simp)) ⟨k+1,b,_,_,rfl,hlt,e1.out,rfl,rfl,rfl,rfl⟩
   ·have e0:¬ (b.length:Int)=0:=by rw [hb0];simp;omega
    have e1:IntKind.i64.wrap ((b.length:Int) - 1)=(d.length:Int):=by rw [ac (by omega) (by omega),hb0];simp
    have e2:(u8s b).getD d.length .undef=.int .u8 x.toNat:=by rw [hb0];simp [u8s,ab5]
    have e3:d.length<(u8s b).length:=by rw [hb0];simp [u8s]
    have e4:(d.length:Int)<(b.length:Int):=by rw [hb0];simp;omega
    have x32:x=32↔(x.toNat:Int)=32:=⟨fun e=>by rw [e];rfl,fun e=>adm.1 (by have:(32:UInt8).toNat=32:=rfl;omega)⟩;have hend:rR b=true↔x=32:=by rw [hb0];simp [rR]
    replace hb0:=hid hb0;replace x32:=hid x32;replace hend:=hid hend;by_cases hx:(x.toNat:Int)=32
    ·have e5:=hid (hstep.out b (by rw [aK,if_pos ⟨c32.out.1 hc,hend.out.2 (x32.out.2 hx)⟩]));refine wk ?_;exact ai _ _ _ (by omega) (CutS (b:=by simp)) ⟨k+1,b,_,_,rfl,hlt,e5.out,rfl,rfl,rfl,rfl⟩
    ·have e5:=hid (hstep.out (b++[c]) (by rw [aK,if_neg fun e=>hx (x32.out.1 (hend.out.1 e.2))]));refine wk ?_;exact ai _ _ _ (by omega) (CutS (b:=by simp)) ⟨k+1,b++[c],_,_,rfl,hlt,e5.out,(by rw [Mv,hc]),(by simp),rfl,rfl⟩
  ·have e1:=hid (hstep.out (b++[c]) (by rw [aK,if_neg fun e=>hc (c32.out.2 e.1)]));refine wk ?_;exact ai _ _ _ (by omega) (CutS (b:=by simp)) ⟨k+1,b++[c],_,_,rfl,hlt,e1.out,(Mv b c).symm,(by simp),rfl,rfl⟩
 ·have hke:k=t.length:=by omega
  subst hke;have h1:¬ (t.length:Int)<(t.length:Int):=by omega
  have hbl:b.length<=t.length:=by rw [hb.out];exact mh t _
  have hub:(u8s b).length=b.length:=by simp [u8s]
  have hfin:c7 b=bE s:=by rw [bE,ht,hb.out,abY]
  have e1:=fM b;have e2:=fa b;replace hb:=hid hfin;clear hfin;rcases adw b with hb0|⟨d,x,hb0⟩
  ·have e0:¬ (0:Int)<(b.length:Int):=by rw [hb0];simp
   have e3:=hid (show b=bE s by rw [<- hb.out,hb0];rfl);clear hb0;refine wk ?_;refine ae rfl ?_;rw [e3.out];exact h.out
  ·have e0:(0:Int)<(b.length:Int):=by rw [hb0];simp;try omega
   have e3:IntKind.i64.wrap ((b.length:Int) - 1)=(d.length:Int):=by rw [ac (by omega) (by omega),hb0];simp
   have e4:(u8s b).getD d.length .undef=.int .u8 x.toNat:=by rw [hb0];simp [u8s,ab5]
   have e5:d.length<(u8s b).length:=by rw [hb0];simp [u8s]
   have e6:(d.length:Int)<(b.length:Int):=by rw [hb0];simp;omega
   have e7:(u8s b).take d.length=u8s d:=by rw [hb0];simp [u8s]
   have e10:(u8s d).length=d.length:=by simp [u8s]
   have e8:=fM d;have e9:=fa d;have x32:x=32↔(x.toNat:Int)=32:=⟨fun e=>by rw [e];rfl,fun e=>adm.1 (by have:(32:UInt8).toNat=32:=rfl;omega)⟩;have htr:c7 b=if x=32 then d else b:=by rw [hb0];simp [c7]
   replace hb0:=hid hb0;replace htr:=hid htr;by_cases hx:(x.toNat:Int)=32
   ·have r:=hid (show d=bE s by rw [<- hb.out,htr.out,if_pos (x32.2 hx)]);replace x32:=hid x32;refine wk ?_;refine ae rfl ?_;rw [r.out];exact h.out
   ·have r:=hid (show b=bE s by rw [<- hb.out,htr.out,if_neg fun e=>hx (x32.1 e)]);replace x32:=hid x32;refine wk ?_;refine ae rfl ?_;rw [r.out];exact h.out
end Go.Proofs.YtcmfcpjnhephaaaGreatDoor.Av
