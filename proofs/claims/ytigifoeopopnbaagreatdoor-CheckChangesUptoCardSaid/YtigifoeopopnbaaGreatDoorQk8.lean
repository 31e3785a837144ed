/- Joined texts of the walk, made small by a program. -/
import Derived.Test.YtigifoeopopnbaaGreatDoorQk6
import Derived.Test.YtigifoeopopnbaaGreatDoorQk4
import Derived.Test.YtigifoeopopnbaaGreatDoorRows
import Derived.KernelRfl
set_option linter.unusedSimpArgs false
set_option linter.unusedVariables false
namespace Go.Proofs.YtigifoeopopnbaaGreatDoor.Av
open Go
set_option maxHeartbeats 8000000
set_option maxRecDepth 100000
abbrev Atr:=List UInt8×List (List UInt8)
theorem bV (p:Nat->Bool) (xs:List (List UInt8)):AV.refsL p (xs.map AV.str)=true:=AV.refsL_iff.2 fun a ha=>by
 obtain ⟨x,_,rfl⟩:=aey.1 ha;rfl
theorem NB (xs:List (List UInt8)):(xs.map AV.str).all AV.one=true:=by
 rw [ael];intro a ha;obtain ⟨x,_,rfl⟩:=aey.1 ha;rfl
abbrev atA (a:Atr):List AV:=[.str a.1,.sl (a.2.map AV.str) a.2.length none]
def bh (l:List Atr):List AV:=l.flatMap atA
theorem lX (a:Atr) (l:List Atr):bh (a::l)=.str a.1 :: .sl (a.2.map AV.str) a.2.length none::bh l:=rfl
theorem NZ (l m:List Atr):bh (l++m)=bh l++bh m:=by simp [bh]
theorem fZ (l:List Atr):(bh l).length=l.length * 2:=by
 induction l with
 | nil=>rfl
 | cons a l ih=>rw [lX];simp only [aet];omega
theorem jz (p:Nat->Bool):∀ l:List Atr,AV.refsL p (bh l)=true
 | []=>rfl
 | a::l=>by rw [lX];simp [AV.refsL,AV.refs,bV,jz p l]
theorem S4 {i:Nat} {l:List AV}:∀ m:List Atr,AV.snapL i l (bh m)=bh m
 | []=>rfl
 | a::m=>by rw [lX];simp [AV.snapL,AV.snap,S4 m]
theorem cy (l:List (List UInt8)):AV.frzL (l.map AV.str)=l.map AV.str:=by rw [AV.frzL_eq,afK];rfl
theorem mR:∀ l:List Atr,AV.frzL (bh l)=bh l
 | []=>rfl
 | a::l=>by rw [lX];simp only [AV.frzL,AV.frz,cy,mR l]
theorem iH:∀ {l:List Atr} {k:Nat},k<l.length->((bh l).drop (k * 2)).take 2=atA (l.getD k ([],[]))
 | a::l,0,_=>rfl
 | a::l,k+1,h=>by
   have ih:=@iH l k (by simpa using h);rw [show (k+1) * 2=k * 2+1+1 by omega,lX];simpa using ih
abbrev iI (l:List (List UInt8)):AV:=.sl (l.map AV.str) l.length none
theorem Vj {l:List Atr} {k:Nat} (hk:k<l.length):(bh l).getD (k * 2+1) .undef=iI (l.getD k ([],[])).2:=by
 have h2:=congrArg (fun l=>l[1]?) (iH hk);simp only [ae1 (show 1<2 by omega),aeZ] at h2;rw [aew,h2];rfl
end Go.Proofs.YtigifoeopopnbaaGreatDoor.Av
set_option maxRecDepth 100000
namespace Go.Proofs.YtigifoeopopnbaaGreatDoor.Av
open Go
def Eo:LSO:=[Ak 2]
def En:LSO:=[Ak 3]
def Em:LSO:=[Aa 6 0,Ah 7 6,Ab 8 0]
def El:LSO:=[Ai 9 8 7]
def Ek:LSO:=[Aj 10 2 6 8,An 11 2 10,Bf 5,Ap 2 5 11]
def Ej:List (ak×Kd) :=
 [Ay 12 3,A5 13 0 5,A8 14 1 13 0 1,od 15 (.bslice false 1 0 [] []) (.read 0 0),A5 16 1 5,A8 17 1 16 0 0,od 18 (.app 0 1 16 [(.str [])] (tm 15) (tm 17)) .eff,BO 19 14 18,
 B9 20 19 0 0]
def wa:List ak :=
 [⟨(some 21),(.app 1 2 40 [(.str []),(.sl [] 0 (some 0))] (tm 12) (tm 20)),none⟩,⟨(some 3),(.mv (tm 21)),none⟩]
def Ei:LSO:=[Af 22 8 1,Aa 8 22]
def Eh:LSO:=[Aa 23 3,Aa 2 23]
def uF:aV:=⟨24,(.seq (.sreg Eo [])
 (.seq (.sreg En [])
 (.seq (.seq (.sreg Em [])
 (.block 0 (.loop (.seq (.sreg El [])
 (.seq (.cond (tm 9) .skip
 (.exit 0))
 (.seq (.block 1 (.seq (.sreg Ek Ck)
 (.dregM Ej wa CQ)))
 (.sreg Ei Cj)))))))
 (.seq (.sreg Eh Cj)
 .ret)))),[(.tmp 2)]⟩
attribute [push_cast] Eo En Em El Ek Ej wa Ei Eh
theorem PJ:aX Tryz.prog (fun r i=>if r=5/\i=6 then 0 else 1) 21=some uF.raw:=by kernel_rfl
def JW:LSO:=[Ag 2]
def JV:LSO:=[Aa 7 0,Ah 8 7,Ab 9 0]
def JU:LSO:=[Ai 10 9 8]
def JT:LSO:=[Aj 11 2 7 9,An 12 2 11,Bf 4,Ap 2 4 12]
def JS:LSO:=[Aa 13 0,Ah 14 13,A6 15 14 60,Aa 16 15,.grp none 16 false
 [Bb 17 16 1 4,AP 18 16 1 17,Bo 19 16 18,AB 20 16 19 60]
 21 (tm 20)]
def JR:LSO:=[Ag 2]
def JQ:LSO:=[Ad 22 1 4,Ac 23 1 22,Ah 24 23,Ab 25 0]
def JP:LSO:=[Ai 26 25 24]
def JO:LSO:=[Aj 27 1 23 25,Ac 28 1 27,Aa 6 28]
def JN:LSO:=[Aa 29 6,Ax 30 29,A6 31 30 5000]
def GZ:LSO:=[Ag 2]
def GY:LSO:=[Af 32 25 1,Aa 25 32]
def GX:LSO:=[Af 33 9 1,Aa 9 33]
def GW:LSO:=[A0 2]
def HV:aV:=⟨34,(.seq (.sreg JW [])
 (.seq (.seq (.sreg JV [])
 (.block 0 (.loop (.seq (.sreg JU [])
 (.seq (.cond (tm 10) .skip
 (.exit 0))
 (.seq (.block 1 (.seq (.sreg JT Ck)
 (.seq (.seq (.sreg JS Cm)
 (.cond (tm 21) (.seq (.sreg JR [])
 .ret)
 .skip))
 (.seq (.sreg JQ Cz)
 (.block 2 (.loop (.seq (.sreg JP [])
 (.seq (.cond (tm 26) .skip
 (.exit 2))
 (.seq (.block 3 (.seq (.sreg JO Ck)
 (.seq (.sreg JN Ck)
 (.cond (tm 31) (.seq (.sreg GZ [])
 .ret)
 .skip))))
 (.sreg GY Cj))))))))))
 (.sreg GX Cj)))))))
 (.seq (.sreg GW [])
 .ret))),[(.tmp 2)]⟩
attribute [push_cast] JW JV JU JT JS JR JQ JP JO JN GZ GY GX GW
theorem Rx:aX Tryz.prog (fun _ _=>1) 18=some HV.raw:=by kernel_rfl
attribute [push_cast] uF HV
variable {L:List Blk} {K:aef}
set_option maxHeartbeats 8000000
set_option maxRecDepth 100000
def TG (n:Nat) (a:Atr):Bool:=decide (n<=60) && decide (a.2.length<=60) && a.2.all fun v=>decide (v.length<=5000)
def aad (l:List Atr):Bool:=l.all (TG l.length)
theorem abK {l:List Atr} (h:aad l=true):l.length<=60/\∀ a∈l,a.2.length<=60/\∀ v∈a.2,v.length<=5000:=by
 simp only [aad,ael,TG,aek,decide_eq_true_eq] at h;refine ⟨?_,fun a ha=>⟨(h a ha).1.2,(h a ha).2⟩⟩;rcases l with _|⟨x,t⟩
 ·simp
 ·exact (h x (by simp)).1.1
theorem adR {l:List Atr} {cap:Option Nat} (hl:(l.length:Int)<=9223372036854775807) (hz:∀ a∈l,(a.2.length:Int)<=9223372036854775807) (h:K (.bool (aad l)) L) :
  aee 18 [.sl (bh l) l.length cap] L K:=by
 obtain ⟨R,hR⟩:=aea (l.all (TG l.length));rw [aad,hR] at h;replace h:=hid h;replace hR:=hid hR;refine aed Rx ?_;refine ai (fun m T' L'=>∃ (k:Nat) (X:List Blk),m=l.length - k/\k<=l.length/\Hid ((l.drop k).all (TG l.length)=R)/\T'=[(9,.int .i64 (k:Int)),(8,.int .i64 l.length),(7,.sl (bh l) l.length cap),(0,.sl (bh l) l.length cap)]/\L'=L++X) (CutS (b:=by simp)) ⟨0,[],rfl,aej _,hid (by simpa using hR.out),rfl,by simp⟩ ?_;rintro _ _ _ ⟨k,X,rfl,hk,hI,rfl,rfl⟩;by_cases hlt:k<l.length
 ·have g1:(k:Int)<(l.length:Int):=by omega
  have g2:=aec k (by omega);have e3:=iH hlt;have e4:k * 2+2<=(bh l).length:=by rw [fZ];omega
  obtain ⟨⟨nm,vs⟩,ha⟩:∃ a,l.getD k ([],[])=a:=⟨_,rfl⟩;have hdr:l.drop k=(nm,vs)::l.drop (k+1):=by rw [aeH hlt,<- ha];simp [hlt]
  have hvs:=hz (nm,vs) (by rw [<- ha];simp [hlt]);simp only at hvs;rw [ha] at e3;simp only [atA] at e3;have hI2:=hI.out;rw [hdr,afH] at hI2;have no:TG l.length (nm,vs)=false->K (.bool false) L:=fun e=>by
   rw [e,afy] at hI2;have:=h.out
   rwa [<- hI2] at this
  replace no:=hid no;clear hI hdr ha hz hR;by_cases h1:(60:Int)<(l.length:Int)
  ·have h':=hid (no.out (by simp [TG];omega));clear hI2;refine wk ?_;exact ab rfl h'.out
  by_cases h2:(60:Int)<(vs.length:Int)
  ·have h':=hid (no.out (by simp [TG];omega));clear hI2;refine wk ?_;exact ab rfl h'.out
  obtain ⟨rv,hrv⟩:=aea (vs.all (fun v=>decide (v.length<=5000)));have hfe:TG l.length (nm,vs)=rv:=by
   rw [TG,hrv,decide_eq_true (by omega),decide_eq_true (by simp only;omega)];rfl
  rw [hfe] at hI2;replace hI2:=hid hI2;replace hrv:=hid hrv;replace no:=hid (fun e:rv=false=>no.out (hfe.trans e));clear hfe;refine wk ?_;refine ai (fun m T' L'=>∃ j:Nat,m=vs.length - j/\j<=vs.length/\Hid ((vs.drop j).all (fun v=>decide (v.length<=5000))=rv)/\T'=[(25,.int .i64 (j:Int)),(24,.int .i64 vs.length),(23,.sl (vs.map AV.str) vs.length none),(9,.int .i64 (k:Int)),(8,.int .i64 l.length),(7,.sl (bh l) l.length cap),(0,.sl (bh l) l.length cap)]/\L'=L++(X++[.cells [.str nm,.sl (vs.map AV.str) vs.length none]])) (CutS (b:=by simp)) ⟨0,rfl,aej _,hid (by simpa using hrv.out),rfl,by simp⟩ ?_;rintro _ _ _ ⟨j,rfl,hj,hJ,rfl,rfl⟩;by_cases hjl:j<vs.length
  ·have j1:(j:Int)<(vs.length:Int):=by omega
   have j2:=aec j (by omega);obtain ⟨v,hv⟩:=aea (vs.getD j []);have g3:(vs.map AV.str).getD j .undef=.str v:=by rw [<- hv];simp [hjl]
   have hdr:vs.drop j=v::vs.drop (j+1):=by rw [aeH hjl,<- hv];simp [hjl]
   have hJ2:=hJ.out;rw [hdr,afH] at hJ2;clear hv hdr hJ;by_cases h3:(5000:Int)<(v.length:Int)
   ·have h':=hid (no.out (by rw [<- hJ2,decide_eq_false (by omega),afy]));clear hJ2;refine wk ?_;exact ab rfl h'.out
   ·rw [decide_eq_true (by omega),ae7] at hJ2;replace hJ2:=hid hJ2;refine wk ?_;exact ag _ _ _ (by omega) (CutL (b:=by simp)) ⟨j+1,rfl,hjl,hJ2,rfl,rfl⟩
  ·have j1:¬ (j:Int)<(vs.length:Int):=by omega
   have hJ2:=hJ.out;rw [afE (by omega),agA] at hJ2;have hI3:=hI2.out;rw [<- hJ2,ae7] at hI3;replace hI3:=hid hI3;clear hJ hJ2;refine wk ?_;exact ag _ _ _ (by omega) (CutL (b:=by simp)) ⟨k+1,_,rfl,hlt,hI3,rfl,rfl⟩
 ·have hke:k=l.length:=by omega
  subst hke;have g1:¬ (l.length:Int)<(l.length:Int):=by omega
  have hI2:=hI.out;rw [aeC,agA] at hI2;have h':=h.out;rw [<- hI2] at h';replace h':=hid h';clear hI hI2 hR;refine wk ?_;exact ab rfl h'.out
end Go.Proofs.YtigifoeopopnbaaGreatDoor.Av
set_option maxRecDepth 100000
namespace Go.Proofs.YtigifoeopopnbaaGreatDoor.Av
open Go
def GP:LSO:=[Aq 2]
def GN:LSO:=[Aa 6 0,o1 7 (.s2bO (tm 6)),Aa 3 7]
def GM:LSO:=[Aa 8 3,Ah 9 8,Ab 10 0]
def GK:LSO:=[Ai 11 10 9]
def GJ:LSO:=[Aa 12 10,Aj 13 1 8 10,Ac 14 1 13,Aa 4 12,Aa 5 14]
def GI:LSO:=[Aa 15 5,BZ 16 15,Aa 17 16,.grp none 17 true
 [Ae 18 17 5,og 19 17 true (.bin .leq (tm 18) (.av (.int .u8 90)))]
 20 (tm 19)]
def GH:LSO:=[Aa 21 3,Aa 22 4,Aa 23 5,o1 24 (.bin .add (tm 23) (.av (.int .u8 32))),Aj 25 1 21 22,Ap 1 25 24]
def GF:LSO:=[Af 26 10 1,Aa 10 26]
def GE:LSO:=[Aa 27 3,AZ 28 27,Aa 2 28]
def uR:aV:=⟨29,(.seq (.sreg GP [])
 (.seq (.sreg GN Ck)
 (.seq (.seq (.sreg GM [])
 (.block 0 (.loop (.seq (.sreg GK [])
 (.seq (.cond (tm 11) .skip
 (.exit 0))
 (.seq (.block 1 (.seq (.sreg GJ Ct)
 (.seq (.sreg GI Cl)
 (.cond (tm 20) (.sreg GH Cs)
 .skip))))
 (.sreg GF Cj)))))))
 (.seq (.sreg GE Ck)
 .ret)))),[(.tmp 2)]⟩
attribute [push_cast] GP GN GM GK GJ GI GH GF GE
theorem PV:aX Tryz.prog (fun r i=>if r=1/\i=1 then 2 else 1) 25=some uR.raw:=by kernel_rfl
def GD:LSO:=[Aq 2]
def GC:LSO:=[Ak 3]
def GB:LSO:=[Aa 6 0,Ao 7 25 6,o1 8 (.s2b (tm 7)),Ah 9 8,Ab 10 0]
def GA:LSO:=[Ai 11 10 9]
def Gz:LSO:=[Aj 12 1 8 10,Ac 13 1 12,Aa 5 13]
def Gy:LSO:=[Aa 14 5,o1 15 (.bin .eql (tm 14) (.av (.int .u8 32))),Aa 16 15,.grp none 16 true
 [Ae 17 16 3,AT 18 16 17,AL 19 16 18 0,Ae 20 16 19,.grp (some (16,true)) 20 false
 [Al 21 20 3,Al 22 20 3,Bo 23 20 22,BY 24 20 23 1,og 25 20 false (.iaddr 1 (tm 21) (tm 24)),AP 26 20 1 25,Ca 27 20 26]
 28 (tm 27)]
 29 (tm 28)]
def Gx:LSO:=[Aa 30 3,Aa 31 5,AS 32 31,AI 33 30 32,Aa 3 33]
def Gw:LSO:=[Af 34 10 1,Aa 10 34]
def Gv:LSO:=[Aa 35 3,Ah 36 35,A6 37 36 0,Aa 38 37,.grp none 38 true
 [Ae 39 38 3,Ae 40 38 3,AT 41 38 40,Cb 42 38 41 1,AU 43 38 1 39 42,A3 44 38 1 43,Bv 45 38 44]
 46 (tm 45)]
def Gu:LSO:=[Aa 47 3,Aa 48 3,Ah 49 48,Bk 50 49 1,BR 51 47 50,Aa 3 51]
def zn:LSO:=[Aa 52 3,AZ 53 52,Aa 2 53]
def uQ:aV:=⟨54,(.seq (.sreg GD [])
 (.seq (.sreg GC [])
 (.seq (.seq (.sreg GB C7)
 (.block 0 (.loop (.seq (.sreg GA [])
 (.seq (.cond (tm 11) .skip
 (.exit 0))
 (.seq (.block 1 (.seq (.sreg Gz Ck)
 (.seq (.seq (.sreg Gy Cl)
 (.cond (tm 29) (.exit 1)
 .skip))
 (.sreg Gx Cm))))
 (.sreg Gw Cj)))))))
 (.seq (.seq (.sreg Gv Cm)
 (.cond (tm 46) (.sreg Gu Co)
 .skip))
 (.seq (.sreg zn Ck)
 .ret))))),[(.tmp 2)]⟩
attribute [push_cast] GD GC GB GA Gz Gy Gx Gw Gv Gu zn
theorem PU:aX Tryz.prog (fun _ _=>1) 76=some uQ.raw:=by kernel_rfl
def Gk:LSO:=[Aq 2]
def Gj:LSO:=[Ak 3]
def Gi:LSO:=[Ab 4 0]
def Gh:LSO:=[Aa 6 4,Aa 7 0,Ax 8 7,Ai 9 6 8]
def Gg:LSO:=[Aa 12 0,Aa 13 4,A9 14 12 13,Aa 5 14]
def Gf:LSO:=[Aa 15 5,BZ 16 15,Aa 17 16,.grp none 17 true
 [Ae 18 17 5,og 19 17 true (.bin .leq (tm 18) (.av (.int .u8 90)))]
 20 (tm 19)]
def Ge:LSO:=[Aa 21 5,o1 22 (.bin .sub (tm 21) (.av (.int .u8 65))),o1 23 (.bin .add (tm 22) (.av (.int .u8 97))),Aa 5 23]
def Gd:LSO:=[Aa 24 3,Aa 25 5,AS 26 25,AI 27 24 26,Aa 3 27]
def Gc:LSO:=[Aa 10 4,Af 11 10 1,Aa 4 11]
def Gb:LSO:=[Aa 28 3,AZ 29 28,Aa 2 29]
def uO:aV:=⟨30,(.seq (.sreg Gk [])
 (.seq (.sreg Gj [])
 (.seq (.seq (.sreg Gi [])
 (.block 0 (.loop (.seq (.seq (.sreg Gh Cl)
 (.cond (tm 9) .skip
 (.exit 0)))
 (.seq (.block 1 (.seq (.sreg Gg Cl)
 (.seq (.seq (.sreg Gf Cl)
 (.cond (tm 20) (.sreg Ge Cl)
 .skip))
 (.sreg Gd Cm))))
 (.sreg Gc Ck))))))
 (.seq (.sreg Gb Ck)
 .ret)))),[(.tmp 2)]⟩
attribute [push_cast] Gk Gj Gi Gh Gg Gf Ge Gd Gc Gb
theorem PS:aX Tryz.prog (fun _ _=>1) 33=some uO.raw:=by kernel_rfl
def Ga:LSO:=[Aq 2]
def F9:LSO:=[Aa 8 0,Ao 9 33 8,Aa 3 9]
def F8:LSO:=[Ak 4]
def F7:LSO:=[Ab 5 0]
def F6:LSO:=[Aa 10 5,Aa 11 3,Ax 12 11,Ai 13 10 12]
def F5:LSO:=[Ag 6]
def F4:LSO:=[Aa 16 5,Aa 7 16]
def F3:LSO:=[Aa 17 7,Aa 18 3,Ax 19 18,Ai 20 17 19,Aa 21 20,.grp none 21 true
 [Ae 22 21 6,B7 23 21 22]
 24 (tm 23)]
def F2:LSO:=[Aa 27 3,Aa 28 7,A9 29 27 28,o1 30 (.bin .neq (tm 29) (.av (.int .u8 32))),Aa 6 30]
def F1:LSO:=[Aa 25 7,Af 26 25 1,Aa 7 26]
def zc:LSO:=[Aa 31 6,Aw 32 31,Aa 33 32,.grp none 33 false
 [Al 34 33 3,Al 35 33 5,Br 36 33 34 35,Ca 37 33 36,Al 38 33 37,.grp (some (33,false)) 38 true
 [Ae 39 38 4,AT 40 38 39,AL 41 38 40 0,Ae 42 38 41,.grp (some (38,true)) 42 false
 [Al 43 42 3,Al 44 42 5,BY 45 42 44 1,Br 46 42 43 45,Ca 47 42 46]
 48 (tm 47)]
 49 (tm 48)]
 50 (tm 49)]
def zb:LSO:=[Aa 51 4,Aa 52 3,Aa 53 5,A9 54 52 53,AS 55 54,AI 56 51 55,Aa 4 56]
def za:LSO:=[Aa 14 5,Af 15 14 1,Aa 5 15]
def y9:LSO:=[Aa 57 4,AZ 58 57,Aa 2 58]
def uN:aV:=⟨59,(.seq (.sreg Ga [])
 (.seq (.sreg F9 Ck)
 (.seq (.sreg F8 [])
 (.seq (.seq (.sreg F7 [])
 (.block 0 (.loop (.seq (.seq (.sreg F6 Cl)
 (.cond (tm 13) .skip
 (.exit 0)))
 (.seq (.block 1 (.seq (.sreg F5 [])
 (.seq (.seq (.sreg F4 Cj)
 (.block 2 (.loop (.seq (.seq (.sreg F3 Co)
 (.cond (tm 24) .skip
 (.exit 2)))
 (.seq (.block 3 (.sreg F2 Cm))
 (.sreg F1 Ck))))))
 (.seq (.seq (.sreg zc Cl)
 (.cond (tm 50) (.exit 1)
 .skip))
 (.sreg zb Cq)))))
 (.sreg za Ck))))))
 (.seq (.sreg y9 Ck)
 .ret))))),[(.tmp 2)]⟩
attribute [push_cast] Ga F9 F8 F7 F6 F5 F4 F3 F2 F1 zc zb za y9
theorem PR:aX Tryz.prog (fun _ _=>1) 62=some uN.raw:=by kernel_rfl
def Gt:LSO:=[Cc 2,Ag 3]
def Gs:LSO:=[Aa 5 0,o1 6 (.bin .geq (tm 5) (.av (.int .u8 48))),Aa 7 6,.grp none 7 true
 [Ae 8 7 0,og 9 7 true (.bin .leq (tm 8) (.av (.int .u8 57)))]
 10 (tm 9),Aa 4 10]
def Gr:LSO:=[Aa 11 0,BF 12 11,Aa 2 12,A0 3]
def Gq:LSO:=[Aa 14 0,o1 15 (.bin .geq (tm 14) (.av (.int .u8 97))),Aa 16 15,.grp none 16 true
 [Ae 17 16 0,og 18 16 true (.bin .leq (tm 17) (.av (.int .u8 102)))]
 19 (tm 18),Aa 13 19]
def Gp:LSO:=[Aa 20 0,o1 21 (.bin .sub (tm 20) (.av (.int .u8 97))),o1 22 (.bin .add (tm 21) (.av (.int .u8 10))),Aa 2 22,A0 3]
def Gn:LSO:=[Aa 24 0,BZ 25 24,Aa 26 25,.grp none 26 true
 [Ae 27 26 0,og 28 26 true (.bin .leq (tm 27) (.av (.int .u8 70)))]
 29 (tm 28),Aa 23 29]
def Gm:LSO:=[Aa 30 0,o1 31 (.bin .sub (tm 30) (.av (.int .u8 65))),o1 32 (.bin .add (tm 31) (.av (.int .u8 10))),Aa 2 32,A0 3]
def Gl:LSO:=[Cc 2,Ag 3]
def uP:aV:=⟨33,(.seq (.sreg Gt [])
 (.seq (.block 0 (.seq (.sreg Gs Cm)
 (.cond (tm 4) (.seq (.sreg Gr Cw)
 .ret)
 (.seq (.sreg Gq Cm)
 (.cond (tm 13) (.seq (.sreg Gp Ct)
 .ret)
 (.seq (.sreg Gn Cm)
 (.cond (tm 23) (.seq (.sreg Gm Ct)
 .ret)
 .skip)))))))
 (.seq (.sreg Gl [])
 .ret))),[(.tmp 2),(.tmp 3)]⟩
attribute [push_cast] Gt Gs Gr Gq Gp Gn Gm Gl
theorem PT:aX Tryz.prog (fun _ _=>1) 179=some uP.raw:=by kernel_rfl
def zm:LSO:=[Aq 2,Ag 3]
def zl:LSO:=[Aa 10 0,Ax 11 10,o1 12 (.bin .rem (tm 11) (iv 2)),Au 13 12 1]
def zk:LSO:=[Aq 2,Ag 3]
def zj:LSO:=[Aa 14 0,Ax 15 14,o1 16 (.bin .quo (tm 15) (iv 2)),o1 17 (.mkslice 1 1 [(.int .u8 0)] (iv 0) (tm 16)),Aa 4 17]
def zi:LSO:=[Ab 5 0]
def zh:LSO:=[Aa 18 5,Aa 19 0,Ax 20 19,Ai 21 18 20]
def zg:LSO:=[Aa 25 0,Aa 26 5,A9 27 25 26,Ao 28 179 27,Aa 24 28,Ar 29 24,As 30 24,Aa 6 29,Aa 7 30]
def zf:LSO:=[Aa 32 0,Aa 33 5,Af 34 33 1,A9 35 32 34,Ao 36 179 35,Aa 31 36,Ar 37 31,As 38 31,Aa 8 37,Aa 9 38]
def ze:LSO:=[Aa 39 7,Aw 40 39,Aa 41 40,.grp none 41 false
 [Al 42 41 9,Bg 43 41 42]
 44 (tm 43)]
def zd:LSO:=[Aq 2,Ag 3]
def tK:LSO:=[Aa 45 4,Aa 46 6,o1 47 (.bin .shl (tm 46) (.av (.int .u64 4))),Aa 48 8,o1 49 (.bin .or (tm 47) (tm 48)),AS 50 49,AI 51 45 50,Aa 4 51]
def tJ:LSO:=[Aa 22 5,Af 23 22 2,Aa 5 23]
def tI:LSO:=[Aa 52 4,AZ 53 52,Aa 2 53,A0 3]
def o5:aV:=⟨54,(.seq (.sreg zm [])
 (.seq (.seq (.sreg zl Cl)
 (.cond (tm 13) (.seq (.sreg zk [])
 .ret)
 .skip))
 (.seq (.sreg zj Cm)
 (.seq (.seq (.sreg zi [])
 (.block 0 (.loop (.seq (.seq (.sreg zh Cl)
 (.cond (tm 21) .skip
 (.exit 0)))
 (.seq (.block 1 (.seq (.sreg zg C0)
 (.seq (.sreg zf CP)
 (.seq (.seq (.sreg ze Cl)
 (.cond (tm 44) (.seq (.sreg zd [])
 .ret)
 .skip))
 (.sreg tK Cr)))))
 (.sreg tJ Ck))))))
 (.seq (.sreg tI Cw)
 .ret))))),[(.tmp 2),(.tmp 3)]⟩
attribute [push_cast] zm zl zk zj zi zh zg zf ze zd tK tJ tI
theorem OG:aX Tryz.prog (fun _ _=>1) 160=some o5.raw:=by kernel_rfl
def yU:LSO:=[Cc 2]
def yT:LSO:=[Aa 3 0,o1 4 (.bin .lss (tm 3) (.av (.int .u8 10)))]
def yS:LSO:=[Aa 5 0,o1 6 (.bin .add (.av (.int .u8 48)) (tm 5)),Aa 2 6]
def yR:LSO:=[Aa 7 0,o1 8 (.bin .add (.av (.int .u8 97)) (tm 7)),o1 9 (.bin .sub (tm 8) (.av (.int .u8 10))),Aa 2 9]
def o3:aV:=⟨10,(.seq (.sreg yU [])
 (.seq (.seq (.sreg yT Cj)
 (.cond (tm 4) (.seq (.sreg yS Ck)
 .ret)
 .skip))
 (.seq (.sreg yR Cl)
 .ret))),[(.tmp 2)]⟩
attribute [push_cast] yU yT yS yR
theorem OE:aX Tryz.prog (fun _ _=>1) 166=some o3.raw:=by kernel_rfl
def y8:LSO:=[Aq 2,Ag 3]
def y7:LSO:=[Ak 4]
def y6:LSO:=[Aa 9 0,Ao 10 33 9,Aa 5 10]
def y5:LSO:=[Ab 6 0]
def y0:LSO:=[Aa 11 6,Af 12 11 1,Aa 13 5,Ax 14 13,Ai 15 12 14]
def yZ:LSO:=[Ag 7]
def yY:LSO:=[Ab 8 0]
def yX:LSO:=[Aa 18 8,AA 19 18 256,Aa 20 19,.grp none 20 true
 [Ae 21 20 7,B7 22 20 21]
 23 (tm 22)]
def yW:LSO:=[Aa 26 8,o1 27 (.bin .quo (tm 26) (iv 16)),o1 28 (.conv .u8 (tm 27)),Ao 29 166 28,Aa 30 5,Aa 31 6,A9 32 30 31,A7 33 29 32,Aa 34 33,.grp none 34 true
 [Ae 35 34 8,BD 36 34 35 16,og 37 34 true (.conv .u8 (tm 36)),AN 38 34 166 37,Ae 39 34 5,Ae 40 34 6,og 41 34 true (.bin .add (tm 40) (iv 1)),Bc 42 34 39 41,B4 43 34 38 42]
 44 (tm 43)]
def yV:LSO:=[Aa 45 4,Aa 46 8,o1 47 (.conv .u8 (tm 46)),AS 48 47,AI 49 45 48,Aa 4 49]
def tH:LSO:=[A0 7]
def tG:LSO:=[Aa 24 8,Af 25 24 1,Aa 8 25]
def tF:LSO:=[Aa 50 7,Aw 51 50]
def tE:LSO:=[Aq 2,Ag 3]
def tD:LSO:=[Aa 16 6,Af 17 16 2,Aa 6 17]
def tC:LSO:=[Aa 52 0,Ax 53 52,o1 54 (.bin .rem (tm 53) (iv 2)),Au 55 54 1]
def tz:LSO:=[Aq 2,Ag 3]
def tx:LSO:=[Aa 56 4,AZ 57 56,Aa 2 57,A0 3]
def o4:aV:=⟨58,(.seq (.sreg y8 [])
 (.seq (.sreg y7 [])
 (.seq (.sreg y6 Ck)
 (.seq (.seq (.sreg y5 [])
 (.block 0 (.loop (.seq (.seq (.sreg y0 Cm)
 (.cond (tm 15) .skip
 (.exit 0)))
 (.seq (.block 1 (.seq (.sreg yZ [])
 (.seq (.seq (.sreg yY [])
 (.block 2 (.loop (.seq (.seq (.sreg yX Cl)
 (.cond (tm 23) .skip
 (.exit 2)))
 (.seq (.block 3 (.seq (.sdreg yW [.pure,.pure,.pure,(.read 0 0),.pure,.pure,(.read 0 0),.pure,.pure,.pure,.pure,.pure,(.read 0 0),.pure,.pure,.pure,(.read 0 0)] Cv)
 (.cond (tm 44) (.seq (.sreg yV Co)
 (.sreg tH []))
 .skip)))
 (.sreg tG Ck))))))
 (.seq (.sreg tF Cj)
 (.cond (tm 51) (.seq (.sreg tE [])
 .ret)
 .skip)))))
 (.sreg tD Ck))))))
 (.seq (.seq (.sreg tC Cl)
 (.cond (tm 55) (.seq (.sreg tz [])
 .ret)
 .skip))
 (.seq (.sreg tx Cw)
 .ret)))))),[(.tmp 2),(.tmp 3)]⟩
attribute [push_cast] y8 y7 y6 y5 y0 yZ yY yX yW yV tH tG tF tE tD tC tz tx
theorem OF:aX Tryz.prog (fun _ _=>1) 139=some o4.raw:=by kernel_rfl
attribute [push_cast] uR uO o5 o4
variable {L:List Blk} {K:aef}
set_option maxHeartbeats 8000000
set_option maxRecDepth 100000
def kz (c:UInt8):UInt8:=if 65<=c.toNat/\c.toNat<=90 then c+32 else c
def aa (s:List UInt8):List UInt8:=s.map kz
theorem W0 {c:UInt8} (h1:65<=c.toNat) (h2:c.toNat<=90):((kz c).toNat:Int)=(c.toNat:Int)+32:=by
 rw [kz,if_pos ⟨h1,h2⟩,UInt8.toNat_add];have:(32:UInt8).toNat=32:=rfl;omega
theorem UK {c:UInt8} (h:¬ (65<=c.toNat/\c.toNat<=90)):kz c=c:=by rw [kz,if_neg h]
theorem ij (l:List UInt8):(u8s l).all V3=true:=by
 simp only [u8s,List.all_map,ael];intro x _;have:=x.toNat_lt;simp [V3]
theorem gF (l:List UInt8):(u8s l).map Ta=l:=by
 induction l with
 | nil=>rfl
 | cons x l ih =>
   simp only [u8s,aeG,afK] at ih ⊢;rw [ih];simp [Ta]
theorem P1 (l:List UInt8) (c:UInt8):u8s (l++[c])=u8s l++[.int .u8 c.toNat]:=by simp [u8s]
theorem Q6 {s:List UInt8} {k:Nat} (h:k<s.length):aa (s.take (k+1))=aa (s.take k)++[kz (s.getD k 0)]:=by
 rw [aeL h,aa,ae8];simp [aa,h]
theorem bg {s:List UInt8} (hs:(s.length:Int)<=140737488351232) (h:K (.str (aa s)) L):aee 33 [.str s] L K:=by
 replace h:=hid h;refine aed PS ?_;refine cz (l:=[]) (n:=0) 3 1 rfl (aeX 1).symm ?_;refine ai (fun n T' L'=>∃ (k:Nat) (v:List AV),n=s.length - k/\k<=s.length/\v=u8s (aa (s.take k))/\T'=[(4,.int .i64 (k:Int)),(3,.gsl v k L.length 1),(2,.str []),(0,.str s)]/\L'=L++[.spare k 1]) (CutS (b:=by simp)) ⟨0,[],rfl,aej _,rfl,rfl,rfl⟩ ?_;rintro _ _ _ ⟨k,v,rfl,hk,rfl,rfl,rfl⟩;by_cases hlt:k<s.length
 ·have h1:(k:Int)<(s.length:Int):=by omega
  have h2:=aec k (by omega);have hsucc:=hid (Q6 hlt);have e:s.getD k 0=s.getD k 0:=rfl;obtain ⟨c,hc⟩:=aea (s.getD k 0);rw [hc] at hsucc;have hc255:=c.toNat_lt;by_cases hu:65<=c.toNat/\c.toNat<=90
  ·have u1:(65:Int)<=(c.toNat:Int):=by omega
   have u2:(c.toNat:Int)<=90:=by omega
   have u3:=hid (W0 hu.1 hu.2);have u4:IntKind.u8.wrap ((c.toNat:Int) - 65)=(c.toNat:Int) - 65:=cx (by omega) (by omega);have u5:IntKind.u8.wrap ((c.toNat:Int) - 65+97)=(c.toNat:Int) - 65+97:=cx (by omega) (by omega);clear hu;refine wk ?_;refine ag _ _ _ (by omega) (CutS (b:=by simp)) ⟨k+1,_,rfl,hlt,?_,rfl,rfl⟩;rw [hsucc.out,P1,u3.out];simp only [show (c.toNat:Int) - 65+97=c.toNat+32 by omega]
  ·have u3:=hid (UK hu);have u4:¬ ((65:Int)<=(c.toNat:Int)/\(c.toNat:Int)<=90):=by omega
   have u5:(decide ((65:Int)<=(c.toNat:Int)) && decide ((c.toNat:Int)<=90))=false:=by simp;omega
   clear hu
   repeat' first
    | refine aY ?_
    | (first|refine aO (by kernel_rfl) ?_|refine aA (by kernel_rfl) ?_|refine aB ?_|refine bw ?_|refine a6 (fun _=>?_)|refine ax ?_|refine aR ?_)
      refine sm ?_
    | (first|refine aK (by kernel_rfl) ?_|refine aP ?_|refine aQ ?_|refine bd (aw ?_))
      refine sl ?_
    | exact a7
    | first|apply a8|apply aL|apply ba|apply aM|apply bc|apply aN
    | refine aE ?_
    | first|refine aC rfl ?_|refine aD rfl ?_|refine ap rfl ?_ ?_|refine aG rfl (fun _=>?_) (fun _=>?_)|refine aF rfl (fun _=>?_) (fun _=>?_)
    | ((first|refine ao (fun _=>?_) (fun _=>?_)|refine au (fun _=>?_) (fun _=>?_))<;>try refine sm ?_)
    | refine And.intro trivial ?_
    | refine And.intro (by omega) ?_
    | refine aI rfl (fun _=>?_) (fun _=>?_)
    | refine And.intro ?_ ?_
   all_goals first
    | omega
    | (refine ag _ _ _ (by omega) (CutS (b := by simp)) ⟨k + 1, _, rfl, hlt, ?_, rfl, rfl⟩
       rw [hsucc.out,P1,u3.out])
 ·have hke:k=s.length:=by omega
  subst hke;have h1:¬ (s.length:Int)<(s.length:Int):=by omega
  have e1:=ij (aa s);have e2:=gF (aa s);have e3:s.take s.length=s:=aeE;refine wk ?_;exact ab rfl h.out
theorem gN {s:List UInt8} (hs:(s.length:Int)<=140737488351232) (h:K (.str (aa s)) L):aee 25 [.str s] L K:=by
 replace h:=hid h;refine aed PV ?_;refine ai (fun n T' L'=>∃ (k:Nat) (v:List AV),n=s.length - k/\k<=s.length/\v=u8s (aa (s.take k)++s.drop k)/\T'=[(10,.int .i64 (k:Int)),(9,.int .i64 s.length),(8,.lsl L.length 0 s.length none 1),(3,.lsl L.length 0 s.length none 1),(2,.str [])]/\L'=L++[.bytes v]) (CutS (b:=by simp)) ⟨0,_,rfl,aej _,rfl,rfl,rfl⟩ ?_;rintro _ _ _ ⟨k,v,rfl,hk,hv,rfl,rfl⟩;by_cases hlt:k<s.length
 ·have h1:(k:Int)<(s.length:Int):=by omega
  have h2:=aec k (by omega);obtain ⟨c,hc⟩:=aea (s.getD k 0);have hd:s.drop k=c::s.drop (k+1):=by
   rw [aeH hlt,<- hc,aew,aev hlt];rfl
  have hlk:(aa (s.take k)).length=k:=by simp [aa];omega
  have hv1:v=u8s (aa (s.take k)) ++ .int .u8 c.toNat::u8s (s.drop (k+1)):=by rw [hv,hd];simp [u8s]
  have hl2:(u8s (aa (s.take k))).length=k:=by simp [u8s,hlk]
  have hvl:v.length=s.length:=by rw [hv];simp [u8s,aa];omega
  have hvk:k<v.length:=by omega
  have hvg:v.getD k .undef=.int .u8 c.toNat:=by rw [hv1];simp [aew,aes,hl2]
  have hsucc:=Q6 hlt;rw [hc] at hsucc;have hnew:u8s (aa (s.take (k+1))++s.drop (k+1))=u8s (aa (s.take k)) ++ .int .u8 (kz c).toNat::u8s (s.drop (k+1)):=by rw [hsucc];simp [u8s]
  have hspl:∀ x,v.take k++x::v.drop (k+1)=u8s (aa (s.take k))++x::u8s (s.drop (k+1)):=fun x=>by
   rw [hv1,List.take_left' hl2,List.drop_append,hl2,afE (by omega),show k+1 - k=1 by omega];rfl
  clear hv hd hlk hsucc;replace hv1:=hid hv1;replace hnew:=hid hnew;replace hspl:=hid hspl;have hc255:=c.toNat_lt;by_cases hu:65<=c.toNat/\c.toNat<=90
  ·have u1:(65:Int)<=(c.toNat:Int):=by omega
   have u2:(c.toNat:Int)<=90:=by omega
   have u3:=hid (W0 hu.1 hu.2);have u4:IntKind.u8.wrap ((c.toNat:Int)+32)=(c.toNat:Int)+32:=cx (by omega) (by omega);clear hu;refine wk ?_;refine ag _ _ _ (by omega) (CutS (b:=by simp)) ⟨k+1,_,rfl,hlt,?_,rfl,rfl⟩;rw [hnew.out,u3.out];exact hspl.out _
  ·have u3:=hid (UK hu);have u5:(decide ((65:Int)<=(c.toNat:Int)) && decide ((c.toNat:Int)<=90))=false:=by simp;omega
   clear hu
   repeat' first
    | refine aY ?_
    | (first|refine aO (by kernel_rfl) ?_|refine aA (by kernel_rfl) ?_|refine aB ?_|refine bw ?_|refine a6 (fun _=>?_)|refine ax ?_|refine aR ?_)
      refine sm ?_
    | (first|refine aK (by kernel_rfl) ?_|refine aP ?_|refine aQ ?_|refine bd (aw ?_))
      refine sl ?_
    | exact a7
    | first|apply a8|apply aL|apply ba|apply aM|apply bc|apply aN
    | refine aE ?_
    | first|refine aC rfl ?_|refine aD rfl ?_|refine ap rfl ?_ ?_|refine aG rfl (fun _=>?_) (fun _=>?_)|refine aF rfl (fun _=>?_) (fun _=>?_)
    | ((first|refine ao (fun _=>?_) (fun _=>?_)|refine au (fun _=>?_) (fun _=>?_))<;>try refine sm ?_)
    | refine And.intro trivial ?_
    | refine And.intro (by omega) ?_
    | refine aI rfl (fun _=>?_) (fun _=>?_)
    | refine And.intro ?_ ?_
   all_goals first
    | omega
    | (refine ag _ _ _ (by omega) (CutS (b := by simp)) ⟨k + 1, _, rfl, hlt, ?_, rfl, rfl⟩
       rw [hnew.out,u3.out];exact hv1.out)
 ·have hke:k=s.length:=by omega
  subst hke;have h1:¬ (s.length:Int)<(s.length:Int):=by omega
  have hv1:v=u8s (aa s):=by rw [hv];simp
  clear hv;subst hv1;have e1:=ij (aa s);have e2:=gF (aa s);have e4:(u8s (aa s)).length=s.length:=by simp [u8s,aa]
  have e5:(u8s (aa s)).take s.length=u8s (aa s):=by rw [<- e4];exact aeE
  refine wk ?_;exact ab rfl h.out
theorem jE {s:List UInt8} (hs:(s.length:Int)<=100000) (h:K (.str (aa s)) L):aee 33 [.str s] L K:=bg (by omega) h
theorem HF {s:List UInt8} (hs:(s.length:Int)<=100000) (h:K (.str (aa s)) L):aee 25 [.str s] L K:=gN (by omega) h
def iy (c:UInt8):Option Nat:=if 48<=c.toNat/\c.toNat<=57 then some (c.toNat - 48) else if 97<=c.toNat/\c.toNat<=102 then some (c.toNat - 87) else if 65<=c.toNat/\c.toNat<=70 then some (c.toNat - 55) else none
theorem Ih {c:UInt8} {x:Nat} (h:iy c=some x):x<16:=by
 unfold iy at h;split at h
 ·cases h;omega
 ·split at h
  ·cases h;omega
  ·split at h
   ·cases h;omega
   ·cases h
theorem V6 {c:UInt8} {L:List Blk} {K:aef} (h:K (.tup [.int .u8 ((iy c).getD 0:Nat),.bool (iy c).isSome]) L):aee 179 [.int .u8 c.toNat] L K:=by
 have hc:=c.toNat_lt;obtain ⟨n,hn⟩:=aea (c.toNat);unfold iy at h;rw [hn] at h hc ⊢;clear hn;refine af PT (by simp [uP]) ?_;simp only [uP,aq];by_cases h1:48<=n/\n<=57
 ·rw [if_pos h1] at h;replace h:=hid h;obtain ⟨a1,a2⟩:=h1;have b1:(48:Int)<=(n:Int):=by omega
  have b2:(n:Int)<=57:=by omega
  have b3:IntKind.u8.wrap ((n:Int) - 48)=(n:Int) - 48:=cx (by omega) (by omega);clear a1 a2;refine wk ?_;refine ac ?_;have:=h.out;simpa [show ((n - 48:Nat):Int)=(n:Int) - 48 by omega] using this
 ·rw [if_neg h1] at h;have c1:(decide ((48:Int)<=(n:Int)) && decide ((n:Int)<=57))=false:=by simp;omega
  by_cases h2:97<=n/\n<=102
  ·rw [if_pos h2] at h;replace h:=hid h;obtain ⟨a1,a2⟩:=h2;have b1:(97:Int)<=(n:Int):=by omega
   have b2:(n:Int)<=102:=by omega
   have b4:IntKind.u8.wrap ((n:Int) - 97)=(n:Int) - 97:=cx (by omega) (by omega);have b5:IntKind.u8.wrap ((n:Int) - 97+10)=(n:Int) - 97+10:=cx (by omega) (by omega);clear a1 a2 h1;refine wk ?_;refine ac ?_;have:=h.out;simpa [show ((n - 87:Nat):Int)=(n:Int) - 97+10 by omega] using this
  ·rw [if_neg h2] at h;have c2:(decide ((97:Int)<=(n:Int)) && decide ((n:Int)<=102))=false:=by simp;omega
   by_cases h3:65<=n/\n<=70
   ·rw [if_pos h3] at h;replace h:=hid h;obtain ⟨a1,a2⟩:=h3;have b1:(65:Int)<=(n:Int):=by omega
    have b2:(n:Int)<=70:=by omega
    have b4:IntKind.u8.wrap ((n:Int) - 65)=(n:Int) - 65:=cx (by omega) (by omega);have b5:IntKind.u8.wrap ((n:Int) - 65+10)=(n:Int) - 65+10:=cx (by omega) (by omega);clear a1 a2 h1 h2;refine wk ?_;refine ac ?_;have:=h.out;simpa [show ((n - 55:Nat):Int)=(n:Int) - 65+10 by omega] using this
   ·rw [if_neg h3] at h;have c3:(decide ((65:Int)<=(n:Int)) && decide ((n:Int)<=70))=false:=by simp;omega
    replace h:=hid h;clear h1 h2 h3
    repeat' first
     | refine aY ?_
     | (first|refine aO (by kernel_rfl) ?_|refine aA (by kernel_rfl) ?_|refine aB ?_|refine bw ?_|refine a6 (fun _=>?_)|refine ax ?_|refine aR ?_)
       refine sm ?_
     | (first|refine aK (by kernel_rfl) ?_|refine aP ?_|refine aQ ?_|refine bd (aw ?_))
       refine sl ?_
     | exact a7
     | first|apply a8|apply aL|apply ba|apply aM|apply bc|apply aN
     | refine aE ?_
     | first|refine aC rfl ?_|refine aD rfl ?_|refine ap rfl ?_ ?_|refine aG rfl (fun _=>?_) (fun _=>?_)|refine aF rfl (fun _=>?_) (fun _=>?_)
     | ((first|refine ao (fun _=>?_) (fun _=>?_)|refine au (fun _=>?_) (fun _=>?_))<;>try refine sm ?_)
     | refine And.intro trivial ?_
     | refine And.intro (by omega) ?_
     | refine aI rfl (fun _=>?_) (fun _=>?_)
     | refine And.intro ?_ ?_
    all_goals first
     | omega
     | (refine ac ?_;simpa using h.out)
def NI (a b:UInt8):Option UInt8:=match iy a,iy b with
 | some x,some y=>some (UInt8.ofNat (16 * x+y))
 | _,_=>none
def Lj (a b:UInt8):AV:=match NI a b with
 | some c=>.tup [.str [c],.bool true]
 | none=>.tup [.str [],.bool false]
theorem acw:∀ x y:_root_.Fin 16,IntKind.u8.wrap (((BitVec.ofInt IntKind.u8.bits (IntKind.u8.wrap ((x.val:Int) * 2 ^ min 4 IntKind.u8.bits)) ||| BitVec.ofInt IntKind.u8.bits (y.val:Int)).toNat:Nat):Int)=16 * (x.val:Int)+(y.val:Int):=by decide +kernel
theorem YR {a b:UInt8} (h:K (Lj a b) L):aee 160 [.str [a,b]] L K:=by
 have hl:[a,b].length=2:=rfl;have ha:[a,b].getD 0 0=a:=rfl;have hb:[a,b].getD 1 0=b:=rfl;have d1:IntKind.i64.wrap (Int.tdiv 2 2)=1:=by decide
 have d2:Int.tmod 2 2=0:=by decide
 have d3:de [AV.int IntKind.u8 0] 1=[AV.int IntKind.u8 0]:=rfl;have d4:IntKind.i64.wrap 1=1:=by decide
 have d5:IntKind.i64.wrap 2=2:=by decide
 replace h:=hid h;refine aed OG ?_;refine ai (fun n T' L'=>(n=1/\T'=[(5,.int .i64 0),(4,.lsl L.length 0 0 (some 1) 1),(0,.str [a,b])]/\L'=L++[.cells [.int .u8 0]])\/(n=0/\∃ x y:Nat,Hid (iy a=some x)/\Hid (iy b=some y)/\T'=[(5,.int .i64 2),(4,.lsl (L.length+1) 0 1 none 1),(0,.str [a,b])]/\L'=L++[.dead,.cells [.int .u8 ((16 * x+y:Nat):Int)]])) (n0:=1) (T0:=[(5,.int .i64 0),(4,.lsl L.length 0 0 (some 1) 1),(0,.str [a,b])]) (L0:=L++[.cells [.int .u8 0]]) (CutS (b:=by simp)) (.inl ⟨rfl,rfl,rfl⟩) ?_;rintro _ _ _ (⟨rfl,rfl,rfl⟩|⟨rfl,x,y,hx,hy,rfl,rfl⟩)
 ·rcases hx:iy a with _|x
  ·have h':=h.out;simp only [Lj,NI,hx] at h';replace h':=hid h';have e1:(iy a).getD 0=0:=by rw [hx];rfl
   have e2:(iy a).isSome=false:=by rw [hx];rfl
   clear hx;have kk1:=@hid _ @V6;refine wk ?_;exact ab rfl h'.out
  ·have e1:(iy a).getD 0=x:=by rw [hx];rfl
   have e2:(iy a).isSome=true:=by rw [hx];rfl
   have hx':=hid hx;rcases hy:iy b with _|y
   ·have h':=h.out;simp only [Lj,NI,hx,hy] at h';replace h':=hid h';have e3:(iy b).getD 0=0:=by rw [hy];rfl
    have e4:(iy b).isSome=false:=by rw [hy];rfl
    clear hx hy;have kk1:=@hid _ @V6;refine wk ?_;exact ab rfl h'.out
   ·have e3:(iy b).getD 0=y:=by rw [hy];rfl
    have e4:(iy b).isSome=true:=by rw [hy];rfl
    have hy':=hid hy;have e5:=acw ⟨x,Ih hx⟩ ⟨y,Ih hy⟩;simp only at e5;clear hx hy;have kk1:=@hid _ @V6;refine wk ?_;refine ag 0 _ _ (by omega) (CutL (b:=by simp)) (.inr ⟨rfl,x,y,hid rfl,hid rfl,rfl,?_⟩)
    first|rfl|rw [e5]
 ·have h':=h.out;simp only [Lj,NI,hx.out,hy.out] at h';replace h':=hid h';have lx:=Ih hx.out;have ly:=Ih hy.out;have u1:V3 (.int .u8 (16 * (x:Int)+(y:Int)))=true:=rfl;have u2:Ta (.int .u8 (16 * (x:Int)+(y:Int)))=UInt8.ofNat (16 * x+y):=by
   simp only [Ta];rw [show (16 * (x:Int)+(y:Int)).toNat=16 * x+y by omega]
  refine wk ?_;exact ab rfl h'.out
def Pr (b:List UInt8):Bool:=b.isEmpty || b.getLast? == some 32
def ed (b:List UInt8) (c:UInt8):List UInt8:=if c=32/\Pr b=true then b else b++[c]
def iw (s:List UInt8):List UInt8:=s.foldl ed []
def uX (b:List UInt8):List UInt8:=if b.getLast?=some 32 then b.dropLast else b
def fG (s:List UInt8):List UInt8:=uX (iw (aa s))
theorem Nu (b:List UInt8) (c:UInt8):(ed b c).length<=b.length+1:=by
 unfold ed;split<;>simp
theorem um {s:List UInt8} {k:Nat} (h:k<s.length):iw (s.take (k+1))=ed (iw (s.take k)) (s.getD k 0):=by
 rw [aeL h,iw,agq];simp [iw,h]
theorem tO (s:List UInt8):∀ k,(iw (s.take k)).length<=k
 | 0=>by simp [iw]
 | k+1=>by
   have ih:=tO s k;by_cases h:k<s.length
   ·rw [um h];have:=Nu (iw (s.take k)) (s.getD k 0);omega
   ·rw [aeV (by omega),<- aeV (l:=s) (i:=k) (by omega)];omega
theorem ul {s:List UInt8} (hs:(s.length:Int)<=100000) (h:K (.str (fG s)) L):aee 76 [.str s] L K:=by
 replace h:=hid h;refine af PU (by simp [uQ]) ?_;simp only [uQ,aq];obtain ⟨t,ht⟩:=aea (aa s);have htl:(t.length:Int)<=100000:=by rw [<- ht];simpa [aa] using hs
 have kk1:=@hid _ (fun L K=>HF hs (L:=L) (K:=K));refine wk ?_;refine cz (l:=[]) (n:=0) 3 1 rfl (aeX 1).symm ?_;refine ai (fun n T' L'=>∃ (k:Nat) (b:List UInt8) (v:List AV) (m:Nat),n=t.length - k/\k<=t.length/\b=iw (t.take k)/\v=u8s b/\m=b.length/\T'=[(10,.int .i64 (k:Int)),(9,.int .i64 t.length),(8,.sl (u8s t) t.length none),(3,.gsl v m L.length 1),(2,.str [])]/\L'=L++[.spare m 1]) (CutS (b:=by simp)) ⟨0,[],[],0,rfl,aej _,rfl,rfl,rfl,rfl,rfl⟩ ?_;rintro _ _ _ ⟨k,b,v,m,rfl,hk,hb,rfl,rfl,rfl,rfl⟩;replace hb:=hid hb;by_cases hlt:k<t.length
 ·have h1:(k:Int)<(t.length:Int):=by omega
  have h2:=aec k (by omega);have hsucc:=hid (um hlt);obtain ⟨c,hc⟩:=aea (t.getD k 0);have hg:(u8s t).getD k .undef=.int .u8 c.toNat:=by simp [u8s,hlt,<- hc]
  have hlk:k<(u8s t).length:=by simpa [u8s] using hlt
  rw [hc] at hsucc;have hbl:b.length<=k:=by rw [hb.out];exact tO t k
  have hstep:∀ b',b'=ed b c->b'=iw (t.take (k+1)):=fun b' e=>by rw [hsucc.out,<- hb.out];exact e
  have c32:((c.toNat:Int)=32)↔c=32:=⟨fun e=>afZ.1 (by have:(32:UInt8).toNat=32:=rfl;omega),fun e=>by rw [e];rfl⟩;replace hstep:=hid hstep;replace c32:=hid c32;clear hsucc hb hc;have hub:(u8s b).length=b.length:=by simp [u8s]
  have rest:∀ b',b'=ed b c->b'.length<=b.length+1:=fun b' e=>by rw [e];exact Nu b c
  clear rest;by_cases hc:(c.toNat:Int)=32
  ·rcases List.eq_nil_or_concat b with hb0|⟨d,x,hb0⟩
   ·have e0:(b.length:Int)=0:=by rw [hb0];rfl
    have e1:=hid (hstep.out b (by rw [ed,if_pos ⟨c32.out.1 hc,by rw [hb0];rfl⟩]));clear hb0;refine wk ?_;exact ag _ _ _ (by omega) (CutS (b:=by simp)) ⟨k+1,b,_,_,rfl,hlt,e1.out,rfl,rfl,rfl,rfl⟩
   ·have e0:¬ (b.length:Int)=0:=by rw [hb0];simp;omega
    have e1:IntKind.i64.wrap ((b.length:Int) - 1)=(d.length:Int):=by rw [ad (by omega) (by omega),hb0];simp
    have e2:(u8s b).getD d.length .undef=.int .u8 x.toNat:=by rw [hb0];simp [u8s,aew]
    have e3:d.length<(u8s b).length:=by rw [hb0];simp [u8s]
    have e4:(d.length:Int)<(b.length:Int):=by rw [hb0];simp;omega
    have x32:x=32↔(x.toNat:Int)=32:=⟨fun e=>by rw [e];rfl,fun e=>afZ.1 (by have:(32:UInt8).toNat=32:=rfl;omega)⟩;have hend:Pr b=true↔x=32:=by rw [hb0];simp [Pr]
    replace hb0:=hid hb0;replace x32:=hid x32;replace hend:=hid hend;by_cases hx:(x.toNat:Int)=32
    ·have e5:=hid (hstep.out b (by rw [ed,if_pos ⟨c32.out.1 hc,hend.out.2 (x32.out.2 hx)⟩]));refine wk ?_;exact ag _ _ _ (by omega) (CutS (b:=by simp)) ⟨k+1,b,_,_,rfl,hlt,e5.out,rfl,rfl,rfl,rfl⟩
    ·have e5:=hid (hstep.out (b++[c]) (by rw [ed,if_neg fun e=>hx (x32.out.1 (hend.out.1 e.2))]));refine wk ?_;exact ag _ _ _ (by omega) (CutS (b:=by simp)) ⟨k+1,b++[c],_,_,rfl,hlt,e5.out,(by rw [P1,hc]),(by simp),rfl,rfl⟩
  ·have e1:=hid (hstep.out (b++[c]) (by rw [ed,if_neg fun e=>hc (c32.out.2 e.1)]));refine wk ?_;exact ag _ _ _ (by omega) (CutS (b:=by simp)) ⟨k+1,b++[c],_,_,rfl,hlt,e1.out,(P1 b c).symm,(by simp),rfl,rfl⟩
 ·have hke:k=t.length:=by omega
  subst hke;have h1:¬ (t.length:Int)<(t.length:Int):=by omega
  have hbl:b.length<=t.length:=by rw [hb.out];exact tO t _
  have hub:(u8s b).length=b.length:=by simp [u8s]
  have hfin:uX b=fG s:=by rw [fG,ht,hb.out,aeE]
  have e1:=ij b;have e2:=gF b;replace hb:=hid hfin;clear hfin;rcases List.eq_nil_or_concat b with hb0|⟨d,x,hb0⟩
  ·have e0:¬ (0:Int)<(b.length:Int):=by rw [hb0];simp
   have e3:=hid (show b=fG s by rw [<- hb.out,hb0];rfl);clear hb0;refine wk ?_;refine ab rfl ?_;rw [e3.out];exact h.out
  ·have e0:(0:Int)<(b.length:Int):=by rw [hb0];simp;try omega
   have e3:IntKind.i64.wrap ((b.length:Int) - 1)=(d.length:Int):=by rw [ad (by omega) (by omega),hb0];simp
   have e4:(u8s b).getD d.length .undef=.int .u8 x.toNat:=by rw [hb0];simp [u8s,aew]
   have e5:d.length<(u8s b).length:=by rw [hb0];simp [u8s]
   have e6:(d.length:Int)<(b.length:Int):=by rw [hb0];simp;omega
   have e7:(u8s b).take d.length=u8s d:=by rw [hb0];simp [u8s]
   have e10:(u8s d).length=d.length:=by simp [u8s]
   have e8:=ij d;have e9:=gF d;have x32:x=32↔(x.toNat:Int)=32:=⟨fun e=>by rw [e];rfl,fun e=>afZ.1 (by have:(32:UInt8).toNat=32:=rfl;omega)⟩;have htr:uX b=if x=32 then d else b:=by rw [hb0];simp [uX]
   replace hb0:=hid hb0;replace htr:=hid htr;by_cases hx:(x.toNat:Int)=32
   ·have r:=hid (show d=fG s by rw [<- hb.out,htr.out,if_pos (x32.2 hx)]);replace x32:=hid x32;refine wk ?_;refine ab rfl ?_;rw [r.out];exact h.out
   ·have r:=hid (show b=fG s by rw [<- hb.out,htr.out,if_neg fun e=>hx (x32.1 e)]);replace x32:=hid x32;refine wk ?_;refine ab rfl ?_;rw [r.out];exact h.out
end Go.Proofs.YtigifoeopopnbaaGreatDoor.Av
