/- Joined texts of the walk, made small by a program. -/
import Derived.Test.YtcmfcpjnhephaaaGreatDoorVk4
import Derived.Test.YtcmfcpjnhephaaaGreatDoorRows
import Derived.KernelRfl
import Derived.Test.YtcmfcpjnhephaaaGreatDoorVk8
import Derived.Test.YtcmfcpjnhephaaaGreatDoorVk10
import Derived.Test.YtcmfcpjnhephaaaGreatDoorVk5
import Derived.Test.YtcmfcpjnhephaaaGreatDoorVk7
import Derived.Laws.Externs
import Derived.Shelf.SlIterI.Nil
import Derived.Lib.SlKeysI
set_option linter.unusedSimpArgs false
set_option linter.unusedVariables false
set_option maxRecDepth 100000
namespace Go.Proofs.YtcmfcpjnhephaaaGreatDoor.Av
open Go
variable {cap:Option Nat}{n:List UInt8}{l:List bd}{k:aF}{f:FuncId}{it im ie ip ii ck ec pc i:Nat}{L:List Blk}{K:ag7}{em:List (aY Int (List Atr))}{pm:List (aY (List UInt8) Nat)}{id:Int}{Q:List UInt8->Int->Prop}{B:Nat->Prop}{es:List (AV×AV×Nat)}{seen:List Nat}{q:Int->Bool}
def MO:LSO:=[Ac 4 0]
def MN:LSO:=[Aa 6 0,Am 7 6,Ac 8 0]
def MM:LSO:=[Al 9 8 7]
def ML:LSO:=[Aa 10 8,Aa 5 10]
def MK:LSO:=[Aa 11 0,Aa 12 5,An 13 4 11 12,Ad 14 0 13,Ab 15 1 14,Ak 16 39 15,Aa 17 1,Ak 18 39 17,AC 19 16 18]
def MJ:LSO:=[Aa 20 5,Aa 4 20]
def MI:LSO:=[Ag 21 8 1,Aa 8 21]
def MH:LSO:=[Ac 4 (-1)]
def L8:aO:=⟨22,(akg MO [] (.seq (akg MN Cv (akj 0 (akg MM [] (.seq (akk 9 0) (.seq (.block 1 (akg ML Cq (akg MK CC (aki 19 (.sreg MJ Cq))))) (.sreg MI Cq)))))) (akg MH [] .ret))),[(.tmp 4)]⟩
attribute [push_cast] MO MN MM ML MK MJ MI MH
theorem SN:akl 12=akm L8:=by kernel_rfl
def sK:LSO:=[Aj 4]
def sJ:LSO:=[Aa 7 0,Am 8 7,Ac 9 0]
def sI:LSO:=[Al 10 9 8]
def sH:LSO:=[An 11 2 7 9,Ap 12 2 11,Bu 6,Ai 2 6 12]
def sG:LSO:=[Ad 13 0 6,Ab 14 1 13,Ak 15 39 14,Aa 16 1,Ak 17 39 16,AC 18 15 17]
def sF:LSO:=[o1 19 (.bslice false 1 0 [] []),Ad 20 1 6,Ab 21 1 20,Bh 22 19 21,Aa 4 22]
def sE:LSO:=[Ag 23 9 1,Aa 9 23]
def sD:LSO:=[Aj 4]
def qn:aO:=⟨24,(akg sK [] (.seq (akg sJ [] (akj 0 (akg sI [] (.seq (akk 10 0) (.seq (.block 1 (akg sH Cr (akg sG Cu (aki 18 (.sreg sF Ct))))) (.sreg sE Cq)))))) (akg sD [] .ret))),[(.tmp 4)]⟩
attribute [push_cast] sK sJ sI sH sG sF sE sD
theorem Ob:akl 15=akm qn:=by kernel_rfl
def Eb:LSO:=[Ao 4]
def Ea:LSO:=[Aa 8 0,Aa 9 1,Ax 10 45 8 9,Aa 7 10,Ar 11 7,Aw 12 7,Aa 5 11,Aa 6 12]
def D9:LSO:=[Aa 13 5,Aa 4 13]
def vU:aO:=⟨14,(akg Eb [] (akg Ea CU (akg D9 Cq .ret))),[(.tmp 4)]⟩
attribute [push_cast] Eb Ea D9
theorem Qc:akl 164=akm vU:=by kernel_rfl
def MG:LSO:=[Af 6]
def MF:LSO:=[Aa 9 1,Am 10 9,Ac 11 0]
def ME:LSO:=[Al 12 11 10]
def MD:LSO:=[An 13 1 9 11,Ab 14 1 13,Aa 8 14]
def MC:LSO:=[Aa 15 0,Aa 16 8,Ax 17 164 15 16,Aa 18 2,AC 19 17 18]
def MB:LSO:=[A0 6]
def MA:LSO:=[Ag 20 11 1,Aa 11 20]
def Mz:LSO:=[Af 6]
def L7:aO:=⟨21,(akg MG [] (.seq (akg MF [] (akj 0 (akg ME [] (.seq (akk 12 0) (.seq (.block 1 (akg MD Cr (akg MC Ct (aki 19 (.sreg MB []))))) (.sreg MA Cq)))))) (akg Mz [] .ret))),[(.tmp 6)]⟩
attribute [push_cast] MG MF ME MD MC MB MA Mz
theorem SM:akl 127=akm L7:=by kernel_rfl
def El:LSO:=[Aj 6]
def Ek:LSO:=[Aj 7]
def Ej:LSO:=[Af 8]
def Ei:LSO:=[Aa 11 1,Am 12 11,Ac 13 0]
def Eh:LSO:=[Al 14 13 12]
def Eg:LSO:=[An 15 1 11 13,Ab 16 1 15,Aa 10 16]
def Ef:LSO:=[Aa 17 8,Ay 18 17,Aa 19 18,.grp none 19 true
 [Ae 20 19 0,Ae 21 19 2,og 22 19 true (.call 164 [(tm 20),(tm 21)]),Ae 23 19 0,Ae 24 19 10,og 25 19 true (.call 164 [(tm 23),(tm 24)]),Bt 26 19 22 25]
 27 (tm 26)]
def Ee:LSO:=[Aa 28 7,Aa 29 2,Bl 30 29,Bh 31 28 30,Aa 7 31]
def Ed:LSO:=[A0 8]
def Ec:LSO:=[Aa 32 7,Aa 33 10,Bl 34 33,Bh 35 32 34,Aa 7 35]
def wL:LSO:=[Ag 36 13 1,Aa 13 36]
def wK:LSO:=[Aa 37 8,Ay 38 37]
def wJ:LSO:=[Aa 39 7,Aa 40 2,Bl 41 40,Bh 42 39 41,Aa 7 42]
def wI:LSO:=[Aa 43 7,Aa 6 43]
def vV:aO:=⟨44,(akg El [] (akg Ek [] (akg Ej [] (.seq (akg Ei [] (akj 0 (akg Eh [] (.seq (akk 14 0) (.seq (.block 1 (akg Eg Cr (.seq (akg Ef Cs (akh 27 (akg Ee Ct (.sreg Ed [])) .skip)) (.sreg Ec Ct)))) (.sreg wL Cq)))))) (.seq (akg wK Cq (akh 38 (.sreg wJ Ct) .skip)) (akg wI Cq .ret)))))),[(.tmp 6)]⟩
attribute [push_cast] El Ek Ej Ei Eh Eg Ef Ee Ed Ec wL wK wJ wI
theorem Qd:akl 128=akm vV:=by kernel_rfl
def Jh:LSO:=[A4 3 0,Aj 6,Ac 7 0]
def Jg:LSO:=[Aa 12 2,Am 13 12,Ac 14 0]
def Jf:LSO:=[Al 15 14 13]
def Je:LSO:=[An 16 1 12 14,Ab 17 1 16,Aa 9 17]
def Jd:LSO:=[Ad 19 1 3,Ab 20 1 19,Aa 21 9,Ax 22 45 20 21,Aa 18 22,Ar 23 18,Aw 24 18,Aa 10 23,Aa 11 24]
def Jc:LSO:=[Aa 25 11,Ay 26 25]
def Jb:LSO:=[Aj 6,Ac 7 21]
def Ja:LSO:=[Ad 27 1 3,Ab 28 1 27,Aa 29 1,Aa 30 10,AB 31 127 28 29 30]
def I9:LSO:=[Aj 6,Ac 7 20]
def I8:LSO:=[Ad 32 1 3,Ab 33 1 32,Aa 34 1,Aa 35 9,AB 36 128 33 34 35,Aa 1 36]
def Ep:LSO:=[Ag 37 14 1,Aa 14 37]
def Eo:LSO:=[Ad 38 2 3,Ab 39 1 38,Aa 40 39,.grp none 40 true
 [Ae 41 40 1,AT 42 40 41,Cj 43 40 42 1]
 44 (tm 43)]
def En:LSO:=[Aj 6,Ac 7 19]
def Em:LSO:=[Aa 45 1,Aa 6 45,Ac 7 0]
def H6:aO:=⟨46,(akg Jh [] (.seq (akg Jg [] (akj 0 (akg Jf [] (.seq (akk 15 0) (.seq (.block 1 (akg Je Cr (akg Jd CF (.seq (akg Jc Cq (aki 26 (.sreg Jb []))) (.seq (akg Ja Ct (aki 31 (.sreg I9 []))) (.sreg I8 Cu)))))) (.sreg Ep Cq)))))) (.seq (akg Eo Cs (aki 44 (.sreg En []))) (akg Em Cv .ret)))),[(.tmp 6),(.tmp 7)]⟩
attribute [push_cast] Jh Jg Jf Je Jd Jc Jb Ja I9 I8 Ep Eo En Em
theorem RZ:akl 83=akm H6:=by kernel_rfl
def Jr:LSO:=[Aj 6]
def Jq:LSO:=[Aj 7]
def Jp:LSO:=[Aa 11 2,Am 12 11,Aq 13 12 0,Aa 8 13]
def Jo:LSO:=[Aa 14 0,Am 15 14,Ac 16 0]
def Jn:LSO:=[Al 17 16 15]
def Jm:LSO:=[An 18 2 14 16,Ap 19 2 18,Bu 10,Ai 2 10 19]
def Jl:LSO:=[Aa 20 8,Ay 21 20,Aa 22 21,.grp none 22 true
 [Ae 23 22 1,AJ 24 22 39 23,A8 25 22 0 10,A7 26 22 1 25,AJ 27 22 39 26,BY 28 22 24 27]
 29 (tm 28)]
def Jk:LSO:=[Aa 30 7,Aa 31 1,Aa 32 2,o1 33 (.build [(.str []),(.sl [] 0 (some 0))] [(0,(1,(tm 31))),(1,(1,(tm 32)))]),BM 34 33,Ck 35 30 34,Aa 7 35]
def Jj:LSO:=[A0 8]
def Ji:LSO:=[Aa 36 1,Ak 37 39 36,Ad 38 0 10,Ab 39 1 38,Ak 40 39 39,BN 41 37 40]
def ED:LSO:=[Aa 42 7,Ap 43 2 10,BM 44 43,Ck 45 42 44,Aa 7 45]
def EC:LSO:=[Ag 46 16 1,Aa 16 46]
def EB:LSO:=[Aa 47 8,Ay 48 47]
def EA:LSO:=[Aa 49 7,Aa 50 1,Aa 51 2,o1 52 (.build [(.str []),(.sl [] 0 (some 0))] [(0,(1,(tm 50))),(1,(1,(tm 51)))]),BM 53 52,Ck 54 49 53,Aa 7 54]
def Ez:LSO:=[Aa 55 7,Aa 6 55]
def H7:aO:=⟨56,(akg Jr [] (akg Jq [] (akg Jp Cs (.seq (akg Jo [] (akj 0 (akg Jn [] (.seq (akk 17 0) (.seq (.block 1 (akg Jm Cr (.seq (.seq (.sdreg Jl [.pure,.pure,.pure,.pure,(.read 0 0),.pure,(.read 0 0)] Cs) (akh 29 (akg Jk Cw (.sreg Jj [])) .skip)) (.seq (.sdreg Ji [.pure,(.read 0 0),.pure,(.read 0 0)] Cu) (akh 41 (.sreg ED Ct) .skip))))) (.sreg EC Cq)))))) (.seq (akg EB Cq (akh 48 (.sreg EA Cw) .skip)) (akg Ez Cq .ret)))))),[(.tmp 6)]⟩
attribute [push_cast] Jr Jq Jp Jo Jn Jm Jl Jk Jj Ji ED EC EB EA Ez
theorem R2:akl 84=akm H7:=by kernel_rfl
def EN:LSO:=[A4 2 0,Aj 4,Ac 5 0]
def EM:LSO:=[Aj 6]
def EL:LSO:=[Aa 12 1,Am 13 12,Ac 14 0]
def EK:LSO:=[Al 15 14 13]
def EJ:LSO:=[An 16 2 12 14,Ap 17 2 16,Bu 8,Ai 2 8 17]
def EI:LSO:=[Ad 18 0 2,Ab 19 1 18,Ad 20 0 8,Ab 21 1 20,Ax 22 12 19 21,Aa 9 22]
def EH:LSO:=[Aa 23 9,AH 24 23 0]
def EG:LSO:=[Aj 4,Ac 5 17]
def EF:LSO:=[Ad 25 1 8,Ab 26 1 25,Am 27 26,Aq 28 27 0]
def EE:LSO:=[Aj 4,Ac 5 19]
def wS:LSO:=[Ad 30 0 2,Ab 31 1 30,Aa 32 9,An 33 4 31 32,Ap 34 4 33,Aa 35 6,Ad 36 0 8,Ab 37 1 36,Ax 38 15 35 37,Ad 39 1 8,Ab 40 1 39,AB 41 83 34 38 40,Aa 29 41,
 Ar 42 29,Aw 43 29,Aa 10 42,Aa 11 43]
def wR:LSO:=[Aa 44 11,AF 45 44 0]
def wQ:LSO:=[Aa 46 11,Aj 4,Aa 5 46]
def wP:LSO:=[Aa 47 6,Ad 48 0 2,Ab 49 1 48,Aa 50 9,An 51 4 49 50,Ad 52 0 51,Ab 53 1 52,Aa 54 10,AB 55 84 47 53 54,Aa 6 55]
def wO:LSO:=[Ag 56 14 1,Aa 14 56]
def wN:LSO:=[Aa 57 6,Aa 4 57,Ac 5 0]
def vX:aO:=⟨58,(akg EN [] (akg EM [] (.seq (akg EL [] (akj 0 (akg EK [] (.seq (akk 15 0) (.seq (.block 1 (akg EJ Cr (akg EI Cu (.seq (akg EH Cq (aki 24 (.sreg EG []))) (.seq (akg EF Cs (aki 28 (.sreg EE []))) (.seq (.sdreg wS [.pure,(.read 0 0),.pure,(.read 0 0),(.read 0 0),.pure,.pure,(.read 0 0),(.read 0 0),.pure,(.read 0 0),(.read 0 0),.pure,.pure,.pure,.pure] [true,true,false,false,false,false,false,false,false,false,false,false,false,false,false,false,false]) (.seq (akg wR Cq (aki 45 (.sreg wQ Cv))) (.sreg wP CD)))))))) (.sreg wO Cq)))))) (akg wN Cv .ret)))),[(.tmp 4),(.tmp 5)]⟩
attribute [push_cast] EN EM EL EK EJ EI EH EG EF EE wS wR wQ wP wO wN
theorem Qf:akl 34=akm vX:=by kernel_rfl
attribute [push_cast] L8 qn vU L7 vV H6 H7 vX
variable {L:List Blk}{K:ag7}
set_option maxHeartbeats 8000000
set_option maxRecDepth 100000
theorem agB{ts:List Typ}(hl:ts.length<=1100000)(hts:∀t∈ts,a7 t.1)(hn:a7 n)(h1:fw ts n=none->K (.int .i64 (-1)) L)(h2:∀k:Nat,k<ts.length->fw ts n=some (ts.getD k oM)->K (.int .i64 k) L):
  ag6 12 [.sl (cG ts) ts.length cap,.str n] L K:=by
 replace h1:=hid h1;replace h2:=hid h2;refine ag5 SN ?_;refine ak (λm T' L'=>∃k:Nat,m=ts.length-k/\k<=ts.length/\T'=[(8,.int .i64 (k:Int)),(7,.int .i64 ts.length),(0,.sl (cG ts) ts.length cap),(1,.str n)]/\L=L' /\
  ∀j,j<k->¬af (ts.getD j oM).1=af n) (CutS (b:=ag9 _)) ⟨0,rfl,ahf _,rfl,rfl,by simp⟩ ?_
 rintro _ _ L' ⟨k,rfl,hk,rfl,e,hr⟩;subst e;replace hr:=hid hr;by_cases hlt:k<ts.length;have g1:(k:Int)<(ts.length:Int):=by omega
 have g2:=ag4 k (by omega);have e4:k*4<(cG ts).length:=by rw[Mn];omega
 have e3:(cG ts).getD (k*4) .undef=.str (ts.getD k oM).1:=by have h3:=congrArg (λl=>l[0]?) (Iw hlt);simp only[aid (show 0<4 by omega),ah3,aiu]at h3;rw[ahz,h3];rfl
 obtain⟨ty,hty⟩:=ag2 (ts.getD k oM);have hm:a7 ty.1:=hts _ (by rw[<- hty];simp[hlt]);rw[hty]at e3;replace hty:=hid hty;by_cases hq:af ty.1=af n;have e:fw ts n=some (ts.getD k oM):=LT (d:=oM) hlt (λj hj=>decide_eq_false (hr.out j hj)) (by rw[hty.out];exact decide_eq_true hq);have h':=hid (h2.out k hlt e);have kk1:=@hid _ (λL K=>ce hm (L:=L) (K:=K));have kk2:=@hid _ (λL K=>ce hn (L:=L) (K:=K));refine wk ?_;exact aa h'.out;have kk1:=@hid _ (λL K=>ce hm (L:=L) (K:=K));have kk2:=@hid _ (λL K=>ce hn (L:=L) (K:=K));refine wk ?_;refine ah _ _ _ (by omega) (CutL (b:=by simp)) ⟨k+1,rfl,hlt,rfl,rfl,λj hj=>?_⟩;rcases aht j k with h|h;exact hr.out j h;have:j=k:=by omega
 subst this;rw[hty.out];exact hq;have g1:¬(k:Int)<(ts.length:Int):=by omega
 have h':=hid (h1.out (ajZ.2 λty hty=>by obtain⟨j,hj,e⟩:=aiq.1 hty;have:=hr.out j (by omega);simpa[hj,e]using this))
 refine wk ?_;exact aa h'.out
theorem LF{syn:Int}{v:List UInt8}{L:List Blk}{K:ag7}(h:K (.str (gV syn v)) L):ag6 164 [.int .i64 syn,.str v] L K:=by
 unfold gV at h;refine ag5 Qc ?_;refine Pm ?_;rcases hm:dh syn v with _|m
 all_goals rw[hm]at h
 replace h:Hid (K (.str []) L):=hid h;simp only[Rm];refine sk ?_;refine wk ?_;exact aa h.out;replace h:Hid (K (.str m) L):=hid h;simp only[Rm];refine sk ?_;refine wk ?_;exact aa h.out
theorem agp{syn:Int}{l:List (List UInt8)}(hl:l.length<=1100000)(h:K (.bool (inM syn l n)) L):
  ag6 127 [.int .i64 syn,.sl (l.map AV.str) l.length cap,.str n] L K:=by
 obtain⟨R,hR⟩:=ag2 (inM syn l n);rw[hR]at h;replace h:=hid h;refine ag5 SM ?_;refine ak (λm T' L'=>∃k:Nat,m=l.length-k/\k<=l.length/\Hid (inM syn (l.drop k) n=R)/\T'=[(11,.int .i64 (k:Int)),(10,.int .i64 l.length),(9,.sl (l.map AV.str) l.length cap),(0,.int .i64 syn),(2,.str n)]/\L=L') (CutS (b:=ag9 _)) ⟨0,rfl,ahf _,hid (by simpa using hR),rfl,rfl⟩ ?_;rintro _ _ L' ⟨k,rfl,hk,hI,rfl,e⟩;subst e;by_cases hlt:k<l.length;have g1:(k:Int)<(l.length:Int):=by omega
 have g2:=ag4 k (by omega);obtain⟨v,hv⟩:=ag2 (l.getD k []);have g3:(l.map AV.str).getD k .undef=.str v:=by rw[<- hv];simp[hlt]
 have hdr:l.drop k=v::l.drop (k+1):=by rw[ahV hlt,<- hv];simp[hlt]
 have hI2:=hI.out;rw[hdr,inM,List.any_cons]at hI2;clear hv hdr hI hR;by_cases hq:gV syn v=n;rw[decide_eq_true hq,ajk]at hI2;have h':=h.out;rw[<- hI2]at h';replace h':=hid h';clear hI2;have kk1:=@hid _ @LF;refine wk ?_;exact aa h'.out;rw[decide_eq_false hq,aiJ]at hI2;replace hI2:=hid hI2;have kk1:=@hid _ @LF;refine wk ?_;exact ah _ _ _ (by omega) (CutL (b:=by simp)) ⟨k+1,rfl,hlt,hI2,rfl,rfl⟩;have hke:k=l.length:=by omega
 subst hke;have g1:¬(l.length:Int)<(l.length:Int):=by omega
 have h':=h.out;rw[<- hI.out,ahU]at h';replace h':=hid h';clear hI hR;refine wk ?_;exact aa h'.out
theorem afu{syn:Int}{l:List (List UInt8)}{v:List UInt8}(hl:l.length<=1100000)(h:K (LE (gN syn v false l)) L):
  ag6 128 [.int .i64 syn,.sl (l.map AV.str) l.length cap,.str v] L K:=by
 obtain⟨R,hR⟩:=ag2 (gN syn v false l);rw[hR]at h;replace h:=hid h;refine ag5 Qd ?_;refine bX (l:=[]) (n:=0) 7 1 rfl (ahD 1).symm ?_;refine ak (λm T' L'=>∃(k:Nat) (d:Bool) (u:List (List UInt8)) (C:List AV) (n:Nat),m=l.length-k/\k<=l.length/\n<=k+1/\(d=false->n<=k)/\Hid (C=u.map AV.str/\n=u.length)/\Hid (u++gN syn v d (l.drop k)=R)/\T'=[(13,.int .i64 (k:Int)),(12,.int .i64 l.length),(11,.sl (l.map AV.str) l.length cap),(8,.bool d),(7,.gsl C n L.length 1),(0,.int .i64 syn),(2,.str v)]/\L'=L++[.spare n 1]) (CutS (b:=by simp)) ⟨0,false,[],[],0,rfl,ahf _,by simp,by simp,hid ⟨rfl,rfl⟩,hid (by simpa using hR),rfl,rfl⟩ ?_;rintro _ _ _ ⟨k,d,u,C,n,rfl,hk,hul,hul2,hC,hI,rfl,rfl⟩;by_cases hlt:k<l.length
 .have g1:(k:Int)<(l.length:Int):=(by omega);have g2:=ag4 k (by omega);obtain⟨x,hx⟩:=ag2 (l.getD k []);have g3:(l.map AV.str).getD k .undef=.str x:=(by rw[<- hx];simp[hlt]);have hdr:l.drop k=x::l.drop (k+1):=(by rw[ahV hlt,<- hx];simp[hlt]);have hI2:=hI.out;rw[hdr,gN]at hI2;clear hx hdr hI hR;have fin:∀(y:List UInt8),(C++[.str y]=(u++[y]).map AV.str/\n+1=(u++[y]).length):=λy=>by obtain⟨rfl,rfl⟩:=hC.out;simp
  replace fin:=hid fin;replace hI2:=hid hI2;cases d with
  | true =>
    have hI3:=hI2.out;rw[if_neg (by simp)]at hI3;simp only[ahJ,ajk]at hI3;replace hI3:=hid hI3;clear hI2;have kk1:=@hid _ @LF;refine wk ?_;refine ah _ _ _ (by omega) (CutL (b:=by simp)) ⟨k+1,true,u++[x],C++[.str x],n+1,rfl,hlt,by omega,by simp,hid (fin.out x),hid (by simpa using hI3.out),rfl,rfl⟩
  | false =>
    have hul3:=hul2 rfl
    repeat' first
     |refine br ?_
     | (first|refine bh (by kernel_rfl) ?_|refine aH (by kernel_rfl) ?_|refine aK ?_|refine cO ?_|refine bB (fun _=>?_)|refine aB ?_|refine bm ?_|refine LF ?_|refine bb (LF ⟨rfl,rfl⟩) (LF ⟨rfl,rfl⟩) ?_|refine aC (LF ⟨rfl,rfl⟩) ?_)
       refine sm ?_
     | (first|refine a8 (by kernel_rfl) ?_|refine bc ?_|refine aJ ?_|refine bj ?_|refine bG (aA ?_))
       refine sl ?_
     |exact bC
     |first|apply bD|apply be|apply bE|apply bf|apply bF|apply bg
     |refine aN ?_
     |refine aI ?_
     |first|refine aL rfl ?_|refine aM rfl ?_|refine aw rfl ?_ ?_|refine aQ rfl (λ_=>?_) (λ_=>?_)|refine aP rfl (λ_=>?_) (λ_=>?_)
     |((first|refine au (λ_=>?_) (λ_=>?_)|refine az (λ_=>?_) (λ_=>?_))<;>try refine sm ?_)
     |refine And.intro trivial ?_
     |refine And.intro (by omega) ?_
     |refine aU rfl (λ_=>?_) (λ_=>?_)
     |refine And.intro ?_ ?_
    .rename_i hq;rw[bytesLess_eq,decide_eq_true_eq]at hq;have hI3:=hI2.out;rw[if_pos ⟨rfl,hq⟩,decide_eq_true hq,ajB]at hI3;refine ah _ _ _ (by omega) (CutL (b:=by simp)) ⟨k+1,true,u++[v]++[x],C++[.str v]++[.str x],n+1+1,rfl,hlt,by omega,by simp,hid ?_,hid (by simpa using hI3),rfl,rfl⟩;obtain⟨rfl,rfl⟩:=hC.out;simp
    .rename_i hq;rw[bytesLess_eq,decide_eq_false_iff_not]at hq;have hI3:=hI2.out;rw[if_neg (λe=>hq e.2),decide_eq_false hq]at hI3;refine ah _ _ _ (by omega) (CutL (b:=by simp)) ⟨k+1,false,u++[x],C++[.str x],n+1,rfl,hlt,by omega,by omega,hid (fin.out x),hid (by simpa using hI3),rfl,rfl⟩
 have hke:k=l.length:=by omega
 subst hke;have g1:¬(l.length:Int)<(l.length:Int):=by omega
 have hI2:=hI.out;rw[ahU,gN]at hI2;have e0:AV.frzL (R.map AV.str)=R.map AV.str:=eh R;have hfin:∀X:List Blk,Fin L (.sl (R.map AV.str) R.length none) (L++X) K:=λX=>ae (by simp only[AV.refs,hP]) h.out
 replace hfin:=hid hfin;cases d with
 | true =>
   rw[if_pos rfl,ahG]at hI2;subst hI2;refine wk ?_;refine ba ?_;simp only[AV.frz];rw[hC.out.1,e0,hC.out.2];exact hfin.out _
 | false =>
   rw[if_neg (by simp)]at hI2;subst hI2;have hul3:=hul2 rfl;refine wk ?_;refine ba ?_;simp only[AV.frz];rw[show C++[AV.str v]=(u++[v]).map AV.str by rw[hC.out.1];simp,e0,show n+1=(u++[v]).length by rw[hC.out.2];simp];exact hfin.out _
theorem Rp(syn:Int)(v:List UInt8):∀(l:List (List UInt8)) (d:Bool),(gN syn v d l).length<=l.length+1
 |[],d=>by rw[gN];split<;>simp
 | x::t,d=>by
   rw[gN];by_cases h:d=false/\gV syn v<gV syn x
   .rw[if_pos h,decide_eq_true h.2,ajB,LK];simp
   .have:=Rp syn v t (d ||decide (gV syn v<gV syn x));rw[if_neg h];simp;omega
theorem afo{ty:Typ}{l vs:List (List UInt8)}{capV:Option Nat}(hl:l.length+vs.length<=1100000){R:List (List UInt8)×Int}(hR:eS ty.2.1 ty.2.2.1 l vs=R)(h:K (.tup [LE R.1,.int .i64 R.2]) L):
  ag6 83 [.agg (tyC ty),.sl (l.map AV.str) l.length cap,.sl (vs.map AV.str) vs.length capV] L K:=by
 replace h:=hid h;replace hR:=hid hR;simp only[tyC];refine ag5 RZ ?_;refine ak (λm T' L'=>∃(i:Nat) (u:List (List UInt8)) (cu:Option Nat),m=vs.length-i/\i<=vs.length/\u.length<=l.length+i/\Hid (eS ty.2.1 ty.2.2.1 u (vs.drop i)=R)/\T'=[(14,.int .i64 (i:Int)),(13,.int .i64 vs.length),(12,.sl (vs.map AV.str) vs.length capV),(1,.sl (u.map AV.str) u.length cu),(3,.ptr L.length 0)]/\L'=L++[Blk.cells (tyC ty)]) (CutS (b:=by simp)) ⟨0,l,cap,rfl,ahf _,ag9 _,hid (by simpa using hR.out),rfl,rfl⟩ ?_;rintro _ _ _ ⟨i,u,cu,rfl,hi,hul,hI,rfl,rfl⟩;simp only[tyC];by_cases hlt:i<vs.length
 .have g1:(i:Int)<(vs.length:Int):=(by omega);have g2:=ag4 i (by omega);obtain⟨v,hv⟩:=ag2 (vs.getD i []);have g3:(vs.map AV.str).getD i .undef=.str v:=(by rw[<- hv];simp[hlt]);have hdr:vs.drop i=v::vs.drop (i+1):=(by rw[ahV hlt,<- hv];simp[hlt]);have hI2:=hI.out;rw[hdr]at hI2;have hu1:u.length<=1100000:=(by omega);clear hv hdr hI hR;refine wk ?_;refine Pm ?_;rcases hn:dh ty.2.1 v with _|n;rw[aao hn]at hI2;have h':=h.out;rw[<- hI2]at h';replace h':=hid h';simp only[Rm];clear hI2 hn;refine sk ?_;refine wk ?_;exact ba (ae rfl h'.out);rw[aan hn]at hI2;simp only[Rm];rcases hb:inM ty.2.1 u n with _|_
  rotate_left
  rw[if_pos hb]at hI2;have h':=h.out;rw[<- hI2]at h';replace h':=hid h';clear hI2 hn;refine sk ?_;have kk1:=@hid _ (λL K=>agp (syn:=ty.2.1) (n:=n) (cap:=cu) hu1 (L:=L) (K:=K));refine wk ?_;exact ba (ae rfl h'.out);rw[if_neg (by rw[hb];simp)]at hI2;obtain⟨u',hu'⟩:=ag2 (gN ty.2.1 v false u);have hl':=Rp ty.2.1 v u false;rw[hu']at hI2 hl';replace hI2:=hid hI2;clear hn;refine sk ?_;have kk1:=@hid _ (λL K=>agp (syn:=ty.2.1) (n:=n) (cap:=cu) hu1 (L:=L) (K:=K));have kk2:=@hid _ (λL K=>afu (syn:=ty.2.1) (v:=v) (cap:=cu) hu1 (L:=L) (K:=K));refine wk ?_;exact ah _ _ _ (by omega) (CutL (b:=by simp)) ⟨i+1,u',none,rfl,hlt,by omega,hI2,rfl,rfl⟩
 have hke:i=vs.length:=by omega
 subst hke;have g1:¬(vs.length:Int)<(vs.length:Int):=by omega
 have hI2:=hI.out;rw[ahU,eS]at hI2;by_cases hs:ty.2.2.1=true/\1<u.length;rw[if_pos hs]at hI2;have h':=h.out;rw[<- hI2]at h';replace h':=hid h';obtain⟨hs1,hs2⟩:=hs;have g3:(1:Int)<(u.length:Int):=by omega
 clear hI hI2 hR hs2;refine wk ?_;exact ba (ae rfl h'.out);rw[if_neg hs]at hI2;have g3:(ty.2.2.1&&decide ((1:Int)<(u.length:Int)))=false:=by rcases hsg:ty.2.2.1 with _|_;rfl;simp only[aia,decide_eq_false_iff_not];intro e;exact hs ⟨hsg,by omega⟩
 have h':=h.out;rw[<- hI2]at h';replace h':=hid h';clear hI hI2 hR hs;refine wk ?_;refine ba (ae ?_ ?_);simp only[AV.frz,AV.frzL,eh,AV.refs,AV.refsL,hP];rfl;simp only[AV.frz,AV.frzL,eh];exact h'.out
theorem Zc{l:List Atr}(hl:l.length<=1100000)(hz:∀a∈l,a7 a.1/\a.2.length<=1100000)(hn:a7 n)(h:K (LE (dM l n)) L):
  ag6 15 [.sl (bo l) l.length cap,.str n] L K:=by
 obtain⟨R,hR⟩:=ag2 (dM l n);rw[hR]at h;replace h:=hid h;replace hR:=hid hR;refine ag5 Ob ?_;refine ak (λm T' L'=>∃(k:Nat) (X:List Blk),m=l.length-k/\k<=l.length/\Hid (dM (l.drop k) n=R)/\T'=[(9,.int .i64 (k:Int)),(8,.int .i64 l.length),(7,.sl (bo l) l.length cap),(1,.str n)]/\L'=L++X) (CutS (b:=by simp)) ⟨0,[],rfl,ahf _,hid (by simpa using hR.out),rfl,by simp⟩ ?_;rintro _ _ _ ⟨k,X,rfl,hk,hI,rfl,rfl⟩;by_cases hlt:k<l.length;have g1:(k:Int)<(l.length:Int):=by omega
 have g2:=ag4 k (by omega);have e3:=pK hlt;have e4:k*2+2<=(bo l).length:=by rw[oK];omega
 obtain⟨⟨nm,vs⟩,ha⟩:∃a,l.getD k ([],[])=a:=⟨_,rfl⟩;have hdr:l.drop k=(nm,vs)::l.drop (k+1):=by rw[ahV hlt,<- ha];simp[hlt]
 obtain⟨hnm,hvs⟩:=hz (nm,vs) (by rw[<- ha];simp[hlt]);simp only at hnm hvs;rw[ha]at e3;simp only[atA]at e3;have hI2:=hI.out;rw[hdr,dM]at hI2;simp only at hI2;clear hI hdr ha hz hR;by_cases hq:af nm=af n;rw[if_pos hq]at hI2;subst hI2;have e0:AV.frzL (vs.map AV.str)=vs.map AV.str:=eh vs;have kk1:=@hid _ (λL K=>ce hnm (L:=L) (K:=K));have kk2:=@hid _ (λL K=>ce hn (L:=L) (K:=K));refine wk ?_;refine ba ?_;simp only[AV.frz,e0];exact ae (by simp only[AV.refs,hP]) h.out;rw[if_neg hq]at hI2;replace hI2:=hid hI2;have kk1:=@hid _ (λL K=>ce hnm (L:=L) (K:=K));have kk2:=@hid _ (λL K=>ce hn (L:=L) (K:=K));refine wk ?_;exact ah _ _ _ (by omega) (CutL (b:=by simp)) ⟨k+1,_,rfl,hlt,hI2,rfl,rfl⟩;have hke:k=l.length:=by omega
 subst hke;have g1:¬(l.length:Int)<(l.length:Int):=by omega
 have hI2:=hI.out;rw[ahU,dM]at hI2;subst hI2;refine wk ?_;exact ba (ae rfl h.out)
theorem afm{l:List Atr}{capV:Option Nat}{vs:List (List UInt8)}(hl:l.length<=1100000)(hz:∀a∈l,a7 a.1/\a.2.length<=1100000)(hn:a7 n)(h:K (.sl (bo (pU n vs vs.isEmpty l)) (pU n vs vs.isEmpty l).length none) L):
  ag6 84 [.sl (bo l) l.length cap,.str n,.sl (vs.map AV.str) vs.length capV] L K:=by
 obtain⟨R,hR⟩:=ag2 (pU n vs vs.isEmpty l);rw[hR]at h;replace h:=hid h;obtain⟨d0,hd0⟩:=ag2 (vs.isEmpty);have hd1:decide ((vs.length:Int)=0)=d0:=by rw[<- hd0];cases vs<;>simp;omega
 rw[hd0]at hR;replace hR:=hid hR;have ev:AV.frzL (vs.map AV.str)=vs.map AV.str:=eh vs;replace hd0:=hid hd0;refine ag5 R2 ?_;refine bX (l:=[]) (n:=0) 7 2 rfl (ahD 2).symm ?_;refine ak (λm T' L'=>∃(k:Nat) (d:Bool) (u:List Atr) (C:List AV) (z:Nat) (X:List Blk),m=l.length-k/\k<=l.length/\z<=k+1/\(d=false->z<=k)/\Hid (C=bo u/\z=u.length)/\Hid (u++pU n vs d (l.drop k)=R)/\T'=[(16,.int .i64 (k:Int)),(15,.int .i64 l.length),(14,.sl (bo l) l.length cap),(8,.bool d),(7,.gsl C z L.length 2),(1,.str n),(2,.sl (vs.map AV.str) vs.length capV)]/\L'=L++(.spare z 2::X)) (CutS (b:=by simp)) ⟨0,d0,[],[],0,[],rfl,ahf _,by simp,by simp,hid ⟨rfl,rfl⟩,hid (by simpa using hR.out),rfl,rfl⟩ ?_;rintro _ _ _ ⟨k,d,u,C,z,X,rfl,hk,hul,hul2,hC,hI,rfl,rfl⟩;by_cases hlt:k<l.length;have g1:(k:Int)<(l.length:Int):=by omega
 have g2:=ag4 k (by omega);have e3:=pK hlt;have e4:k*2+2<=(bo l).length:=by rw[oK];omega
 obtain⟨⟨nm,ws⟩,ha⟩:∃a,l.getD k ([],[])=a:=⟨_,rfl⟩;have hdr:l.drop k=(nm,ws)::l.drop (k+1):=by rw[ahV hlt,<- ha];simp[hlt]
 obtain⟨hnm,hws⟩:=hz (nm,ws) (by rw[<- ha];simp[hlt]);simp only at hnm hws;rw[ha]at e3;simp only[atA]at e3;have ew:AV.frzL (ws.map AV.str)=ws.map AV.str:=eh ws;have hI2:=hI.out;rw[hdr,pU]at hI2;simp only at hI2;have fin:∀(C':List AV) (u':List Atr) (z':Nat) (a:Atr),C'=bo u'/\z'=u'.length->C'++[.str a.1,.sl (a.2.map AV.str) a.2.length none]=bo (u'++[a])/\z'+1=(u'++[a]).length:=λC' u' z' a e=>by obtain⟨rfl,rfl⟩:=e;simp[Oh,bo]
 replace fin:=hid fin;replace hd1:=hid hd1;clear hI hdr ha hz hR;by_cases hx:af nm<af n;have hq:af n≠af nm:=λe=>by rw[e]at hx;exact aio _ hx
 have hb:Op.bytesLess (af n) (af nm)=false:=by rw[bytesLess_eq,decide_eq_false_iff_not];exact λe=>aio _ (ai8 hx e)
 cases d with
 | true =>
   have hI3:=hI2;rw[if_neg (λe=>by cases e.1),if_pos hq]at hI3;rw[show(true || !decide (af nm<af n))=true by simp[hx]]at hI3;replace hI3:=hid hI3;clear hI2;have kk1:=@hid _ (λL K=>ce hn (L:=L) (K:=K));have kk2:=@hid _ (λL K=>ce hnm (L:=L) (K:=K));refine wk ?_;exact ah _ _ _ (by omega) (CutL (b:=by simp)) ⟨k+1,true,u++[(nm,ws)],C++[.str nm,.sl (ws.map AV.str) ws.length none],z+1,_,rfl,hlt,by omega,by simp,hid (fin.out _ _ _ (nm,ws) hC.out),hid (by simpa using hI3.out),rfl,rfl⟩
 | false =>
   have hul3:=hul2 rfl;have hI3:=hI2;rw[if_neg (λe=>e.2 hx),if_pos hq]at hI3;rw[show(false || !decide (af nm<af n))=false by simp[hx]]at hI3;replace hI3:=hid hI3;clear hI2;have kk1:=@hid _ (λL K=>ce hn (L:=L) (K:=K));have kk2:=@hid _ (λL K=>ce hnm (L:=L) (K:=K));refine wk ?_;exact ah _ _ _ (by omega) (CutL (b:=by simp)) ⟨k+1,false,u++[(nm,ws)],C++[.str nm,.sl (ws.map AV.str) ws.length none],z+1,_,rfl,hlt,by omega,by simp;omega,hid (fin.out _ _ _ (nm,ws) hC.out),hid (by simpa using hI3.out),rfl,rfl⟩
 by_cases hq:af n=af nm;have hb:Op.bytesLess (af n) (af nm)=false:=by rw[bytesLess_eq,decide_eq_false_iff_not,hq];exact aio _
 cases d with
 | true =>
   have hI3:=hI2;rw[if_neg (λe=>by cases e.1),if_neg (λe=>e hq)]at hI3;rw[show(true || !decide (af nm<af n))=true by simp[hx]]at hI3;replace hI3:=hid hI3;clear hI2;have kk1:=@hid _ (λL K=>ce hn (L:=L) (K:=K));have kk2:=@hid _ (λL K=>ce hnm (L:=L) (K:=K));refine wk ?_;exact ah _ _ _ (by omega) (CutL (b:=by simp)) ⟨k+1,true,u,C,z,_,rfl,hlt,by omega,by simp,hid hC.out,hid (by simpa using hI3.out),rfl,rfl⟩
 | false =>
   have hul3:=hul2 rfl;have hI3:=hI2;rw[if_pos ⟨rfl,hx⟩,if_neg (λe=>e hq)]at hI3;rw[show(false || !decide (af nm<af n))=true by simp[hx]]at hI3;replace hI3:=hid hI3;clear hI2;have kk1:=@hid _ (λL K=>ce hn (L:=L) (K:=K));have kk2:=@hid _ (λL K=>ce hnm (L:=L) (K:=K));refine wk ?_;exact ah _ _ _ (by omega) (CutL (b:=by simp)) ⟨k+1,true,u++[(n,vs)],C++[.str n,.sl (vs.map AV.str) vs.length none],z+1,_,rfl,hlt,by omega,by simp,hid (fin.out _ _ _ (n,vs) hC.out),hid (by simpa using hI3.out),rfl,rfl⟩
 have hb:Op.bytesLess (af n) (af nm)=true:=by rw[bytesLess_eq,decide_eq_true_eq];exact(ajn.1 (aiw.1 hx)).resolve_right hq
 cases d with
 | true =>
   have hI3:=hI2;rw[if_neg (λe=>by cases e.1),if_pos hq]at hI3;rw[show(true || !decide (af nm<af n))=true by simp[hx]]at hI3;replace hI3:=hid hI3;clear hI2;have kk1:=@hid _ (λL K=>ce hn (L:=L) (K:=K));have kk2:=@hid _ (λL K=>ce hnm (L:=L) (K:=K));refine wk ?_;exact ah _ _ _ (by omega) (CutL (b:=by simp)) ⟨k+1,true,u++[(nm,ws)],C++[.str nm,.sl (ws.map AV.str) ws.length none],z+1,_,rfl,hlt,by omega,by simp,hid (fin.out _ _ _ (nm,ws) hC.out),hid (by simpa using hI3.out),rfl,rfl⟩
 | false =>
   have hul3:=hul2 rfl;have hI3:=hI2;rw[if_pos ⟨rfl,hx⟩,if_pos hq]at hI3;rw[show(false || !decide (af nm<af n))=true by simp[hx]]at hI3;replace hI3:=hid hI3;clear hI2;have kk1:=@hid _ (λL K=>ce hn (L:=L) (K:=K));have kk2:=@hid _ (λL K=>ce hnm (L:=L) (K:=K));refine wk ?_;exact ah _ _ _ (by omega) (CutL (b:=by simp)) ⟨k+1,true,u++[(n,vs)]++[(nm,ws)],C++[.str n,.sl (vs.map AV.str) vs.length none]++[.str nm,.sl (ws.map AV.str) ws.length none],z+1+1,_,rfl,hlt,by omega,by simp,hid (fin.out _ _ _ (nm,ws) (fin.out _ _ _ (n,vs) hC.out)),hid (by simpa using hI3.out),rfl,rfl⟩
 have hke:k=l.length:=by omega
 subst hke;have g1:¬(l.length:Int)<(l.length:Int):=by omega
 have hI2:=hI.out;rw[ahU,pU]at hI2;have e0:=ln R;have hfin:∀X:List Blk,Fin L (.sl (bo R) R.length none) (L++X) K:=λX=>ae (by simp only[AV.refs,II]) h.out
 replace hfin:=hid hfin;replace hd1:=hid hd1;clear hI hR;cases d with
 | true =>
   rw[if_pos rfl,ahG]at hI2;subst hI2;refine wk ?_;refine ba ?_;simp only[AV.frz];rw[hC.out.1,e0,hC.out.2];exact hfin.out _
 | false =>
   rw[if_neg (by simp)]at hI2;subst hI2;have hul3:=hul2 rfl;refine wk ?_;refine ba ?_;simp only[AV.frz];rw[show C++[AV.str n,.sl (vs.map AV.str) vs.length none]=bo (u++[(n,vs)])by rw[hC.out.1,Oh];simp[bo],e0,show z+1=(u++[(n,vs)]).length by rw[hC.out.2];simp];exact hfin.out _
theorem adS{ts:List Typ}{capT:Option Nat}{c2:List AV}{n2:Nat}{cap2:Option Nat}{list:List Atr}(hts:agF ts)(hl:list.length<=100)(hv:∀a∈list,a7 a.1/\a.2.length<=9000){R:List Atr×Int}(hR:vK ts [] list=R)(h:K (.tup [.sl (bo R.1) R.1.length none,.int .i64 R.2]) L):
  ag6 34 [.agg [.sl (cG ts) ts.length capT,.sl c2 n2 cap2],.sl (bo list) list.length cap] L K:=by
 replace h:=hid h;replace hR:=hid hR;refine ag5 Qf ?_;obtain⟨sC,hsC⟩:=ag2 (AV.sl c2 n2 cap2);rw[hsC];refine ak (λm T' L'=>∃(i:Nat) (out:List Atr) (co:Option Nat) (X:List Blk),m=list.length-i/\i<=list.length/\out.length<=i/\Hid (vK ts out (list.drop i)=R)/\Hid (∀a∈out,a7 a.1/\a.2.length<=9000*i)/\T'=[(14,.int .i64 (i:Int)),(13,.int .i64 list.length),(12,.sl (bo list) list.length cap),(6,.sl (bo out) out.length co),(2,.ptr L.length 0)]/\L'=L++(.cells [.sl (cG ts) ts.length capT,sC]::X)) (CutS (b:=by simp)) ⟨0,[],some 0,[],rfl,ahf _,ag9 _,hid (by simpa using hR.out),hid (by simp),rfl,by simp⟩ ?_;rintro _ _ _ ⟨i,out,co,X,rfl,hi,hol,hI,ho,rfl,rfl⟩;by_cases hlt:i<list.length;have g1:(i:Int)<(list.length:Int):=by omega
 have g2:=ag4 i (by omega);have e3:=pK hlt;have e4:i*2+2<=(bo list).length:=by rw[oK];omega
 obtain⟨⟨nm,vs⟩,ha⟩:∃a,list.getD i ([],[])=a:=⟨_,rfl⟩;have hdr:list.drop i=(nm,vs)::list.drop (i+1):=by rw[ahV hlt,<- ha];simp[hlt]
 obtain⟨hnm,hvs⟩:=hv (nm,vs) (by rw[<- ha];simp[hlt]);simp only at hnm hvs;rw[ha]at e3;simp only[atA]at e3;have hI2:=hI.out;rw[hdr,vK]at hI2;simp only at hI2;replace hI2:=hid hI2;clear hI hdr ha hv hR;refine wk ?_;refine agB hts.1 hts.2.1 hnm (λhty=>?_) (λt ht hty=>?_);have hI3:=hI2.out;rw[hty]at hI3;simp only at hI3;have h':=h.out;rw[<- hI3]at h';replace h':=hid h';clear hI2 hI3 hty;refine sk ?_;refine wk ?_;exact ba (ae rfl h'.out);have hI3:=hI2.out;have e5:=Iw ht;have e6:t*4+4<=(cG ts).length:=by rw[Mn];omega
 have e8:(cG ts).getD (t*4) .undef=.str (ts.getD t oM).1:=by have h3:=congrArg (λl=>l[0]?) (Iw ht);simp only[aid (show 0<4 by omega),ah3,aiu]at h3;rw[ahz,h3];rfl
 have g3:¬(t:Int)<0:=by omega
 have g4:(t:Int)<(ts.length:Int):=by omega
 have g6:t*4<(cG ts).length:=by omega
 have htn:=S5 hty;obtain⟨ty,hte⟩:=ag2 (ts.getD t oM);rw[hte]at hty e5 e8 htn;rw[hty]at hI3;simp only at hI3;simp only[tyC]at e5;by_cases hvn:vs=[];rw[if_pos hvn]at hI3;have h':=h.out;rw[<- hI3]at h';replace h':=hid h';subst hvn;clear hI2 hI3 hty htn hte;refine sk ?_;refine wk ?_;exact ba (ae rfl h'.out);rw[if_neg hvn]at hI3;have g5:¬(vs.length:Int)=0:=by rcases vs with _|⟨x,t⟩;exact absurd rfl hvn;simp;omega
 obtain⟨V,hV⟩:=ag2 (dM out nm);have hVl:V.length<=9000*i:=by rw[<- hV];exact aaF λa ha=>(ho.out a ha).2
 rw[hV]at hI3;obtain⟨A,hA⟩:=ag2 (eS ty.2.1 ty.2.2.1 V vs);rw[hA]at hI3;have kk1:Hid (Ctr Tryz.prog 15 [.sl (bo out) out.length co,.str nm] (.sl (V.map AV.str) V.length none)):=hid λq=>Zc (by omega) (λa ha=>⟨(ho.out a ha).1,by have:=(ho.out a ha).2;omega⟩) hnm (by rw[hV];exact q)
 have kk2:Hid (Ctr Tryz.prog 83 [.agg [.str ty.1,.int .i64 ty.2.1,.bool ty.2.2.1,.bool ty.2.2.2],.sl (V.map AV.str) V.length none,.sl (vs.map AV.str) vs.length none] (.tup [.sl (A.1.map AV.str) A.1.length none,.int .i64 A.2])):=hid λq=>afo (ty:=ty) (by omega) hA q
 have kk3:Hid (Ctr Tryz.prog 84 [.sl (bo out) out.length co,.str ty.1,.sl (A.1.map AV.str) A.1.length none] (.sl (bo (pU ty.1 A.1 A.1.isEmpty out)) (pU ty.1 A.1 A.1.isEmpty out).length none)):=hid λq=>afm (by omega) (λa ha=>⟨(ho.out a ha).1,by have:=(ho.out a ha).2;omega⟩) (hts.2.1 ty htn.1) q
 obtain⟨A1,A2⟩:=A;simp only at kk2 kk3 hI3;obtain⟨out',hout'⟩:=ag2 (pU ty.1 A1 A1.isEmpty out);rw[hout']at kk3 hI3;clear hI2 hvn hty;by_cases hc0:A2=0;subst hc0;rw[if_neg (by simp)]at hI3;have hAl:=Sn (by rw[hA]:(eS ty.2.1 ty.2.2.1 V vs).2=0);rw[hA]at hAl;simp only at hAl;have hol':out'.length<=i+1:=by have:=@Un ty.1 A1 A1.isEmpty out;rw[hout']at this;split at this<;>omega
 have ho':∀a∈out',a7 a.1/\a.2.length<=9000*(i+1):=λa ha=>by rw[<- hout']at ha;rcases QQ ha with e|e;rw[e];exact⟨hts.2.1 ty htn.1,by simp only;omega⟩;have:=ho.out a e;exact⟨this.1,by omega⟩
 replace hI3:=hid hI3;replace ho':=hid ho';clear hA hV hout' hAl htn hte;refine sk ?_;refine wk ?_;exact ah _ _ _ (by omega) (CutL (b:=by simp)) ⟨i+1,out',none,_,rfl,hlt,hol',hI3,ho',rfl,rfl⟩;rw[if_pos hc0]at hI3;have h':=h.out;rw[<- hI3]at h';replace h':=hid h';clear hA hV hout' htn hI3 hte;refine sk ?_;refine wk ?_;exact ba (ae rfl h'.out);have hke:i=list.length:=by omega
 subst hke;have g1:¬(list.length:Int)<(list.length:Int):=by omega
 have hI2:=hI.out;rw[ahU,vK]at hI2;have h':=h.out;rw[<- hI2]at h';replace h':=hid h';clear hI hI2 hR hv;have e0:=ln out;refine wk ?_;refine ba ?_;simp only[AV.frz,AV.frzL,e0];exact ae (by simp only[AV.refs,AV.refsL,II];rfl) h'.out
theorem abM{ts:List Typ}{B:Nat}:∀{l out:List Atr}{i:Nat},out.length<=i->(∀a∈out,a.2.length<=B*i)->(∀a∈l,a.2.length<=B)->(vK ts out l).1.length<=i+l.length/\∀a∈(vK ts out l).1,a.2.length<=B*(i+l.length)
 |[],out,i,h1,h2,_=>by rw[vK];exact⟨h1,h2⟩
 | x::t,out,i,h1,h2,h3=>by
   have nil:([]:List Atr).length<=i+(x::t).length/\∀a∈([]:List Atr),a.2.length<=B*(i+(x::t).length):=⟨by simp,λa ha=>by cases ha⟩;rw[vK];rcases hty:fw ts x.1 with _|ty
   .exact nil
   .simp only;split
    .exact nil
    .split
     .exact nil
     .rename_i hd;simp only[ne_eq,ajp]at hd;have hl:=Sn hd;have hv:=aaF (l:=out) (n:=x.1) h2;have hx:=h3 x (by simp);have hB:=Nat.mul_add_one B i;have:=@abM ts B t (pU ty.1 (eS ty.2.1 ty.2.2.1 (dM out x.1) x.2).1 (eS ty.2.1 ty.2.2.1 (dM out x.1) x.2).1.isEmpty out) (i+1) (by
       have:=@Un ty.1 (eS ty.2.1 ty.2.2.1 (dM out x.1) x.2).1 (eS ty.2.1 ty.2.2.1 (dM out x.1) x.2).1.isEmpty out;split at this<;>omega) (λa ha=>by
       rcases QQ ha with e|e
       .rw[e];simp only;omega
       .have:=h2 a e;omega) (λa ha=>h3 a (by simp[ha]))
      rw[ahj,show i+(t.length+1)=i+1+t.length by omega];exact this
abbrev Cls:=List UInt8×List UInt8×Int×List (List UInt8)×List (List UInt8)
abbrev abE:Cls:=([],[],0,[],[])
def af8(cs:List Cls)(j:Nat):Prop:=eT (cs.getD j abE).1=true/\(∀c∈cs.take j,af c.1≠af (cs.getD j abE).1)/\((cs.getD j abE).2.1≠[]->∃w,w<j/\af (cs.getD w abE).1=af (cs.getD j abE).2.1)
def af9(cs:List Cls):Prop:=∀j,j<cs.length->af8 cs j
theorem acJ{xs:List (List UInt8)}(hn:xs.length<=2000000)(h:K (.sl (xs.map AV.str) xs.length none) L):
  ag6 51 [.sl (xs.map AV.str) xs.length cap] L K:=by
 replace h:=hid h;by_cases h0:xs=[]
 .subst h0;refine ad cc (by simp[aD]) ?_;simp only[aD,am]
  repeat' first
   |refine br ?_
   | (first|refine bh (by kernel_rfl) ?_|refine aH (by kernel_rfl) ?_|refine aK ?_|refine cO ?_|refine bB (fun _=>?_)|refine aB ?_|refine bm ?_)
     refine sm ?_
   | (first|refine a8 (by kernel_rfl) ?_|refine bc ?_|refine aJ ?_|refine bj ?_|refine bG (aA ?_))
     refine sl ?_
   |exact bC
   |first|apply bD|apply be|apply bE|apply bf|apply bF|apply bg
   |refine aN ?_
   |refine aI ?_
   |first|refine aL rfl ?_|refine aM rfl ?_|refine aw rfl ?_ ?_|refine aQ rfl (λ_=>?_) (λ_=>?_)|refine aP rfl (λ_=>?_) (λ_=>?_)
   |((first|refine au (λ_=>?_) (λ_=>?_)|refine az (λ_=>?_) (λ_=>?_))<;>try refine sm ?_)
   |refine And.intro trivial ?_
   |refine And.intro (by omega) ?_
   |refine aU rfl (λ_=>?_) (λ_=>?_)
   |refine And.intro ?_ ?_
  all_goals
   refine ba ?_;rw[show(AV.sl [] 0 (some 0)).frz=.sl (([]:List (List UInt8)).map AV.str) ([]:List (List UInt8)).length none from rfl];exact aa h.out
 have h1:¬xs.length=0:=λc=>h0 (ahH.1 c)
 have h2:(xs.map AV.str).all AV.one=true:=by rw[ahk];intro a ha;obtain⟨r,_,rfl⟩:=ahd.1 ha;rfl
 refine ag5 cc ?_;refine Io (i:=L.length) (l:=xs.map AV.str) (by simp) ?_;rw[show(AV.lsl L.length 0 xs.length none 1).snap L.length (xs.map AV.str)=.sl (xs.map AV.str) xs.length none from by simp[AV.snap,aib],show(L++[Blk.cells (xs.map AV.str)]).set L.length .dead=L++[.dead]by simp];exact ae (by simp only[AV.refs];exact hP _ _) h.out
structure ag0(cs:List Cls):Prop where
 d:af9 cs
 l:cs.length<=40
 r:∀c∈cs,a7 c.1/\a7 c.2.1/\c.2.2.2.1.length<=2000000/\c.2.2.2.2.length<=2000000/\(∀v∈c.2.2.2.1,a7 v)/\∀v∈c.2.2.2.2,a7 v
theorem Z7(a b:List (List UInt8×Int))(l:List Atr):fo (a++b) l=fo a l++fo b l:=by unfold fo;rw[ajt]
theorem aaL(a b:TMp):iV (a++b)=iV a++iV b:=by unfold iV;rw[ahE]
theorem Z6(f:List UInt8)(s:Int)(l:List Atr):fo [(f,s)] l=(dM l f).flatMap (H1 f s):=by unfold fo;simp
theorem TV{t:List (List UInt8×Int)}{l:List Atr}:k∈fo t l↔∃p∈t,k∈(dM l p.1).flatMap (H1 p.1 p.2):=by unfold fo;rw[List.mem_flatMap]
theorem X4{B:Nat}(n:List UInt8):∀{l:List Atr},(∀x∈l,x.2.length<=B)->(dM l n).length<=B
 |[],_=>by simp[dM]
 | a::l,h=>by
   rw[dM];split
   .exact h a (by simp)
   .exact X4 n λx hx=>h x (by simp[hx])
theorem acy{caps:List AV}{tm:TMp}{J:List aF->(Nat->Prop)->List Blk->Prop}(hd:DoK Tryz.prog f caps it im ie ip ii tm J){a:List Atr}(hal:a.length<=1100000)(har:lp dQ a)(haz:∀x∈a,a7 x.1/\x.2.length<=1100000)(hm:cP tm tm.length)(hf:∀e∈tm,a7 e.1){B0:Nat->Prop}(h0:J [] B0 L)(h:∀L',EaI J B0 L [] (λk=>k∈fo (iV tm) a) L'->K (.tup []) L'):
  ag6 53 [.ptr it 0,.sl (bo a) a.length cap,.func f caps] L K:=by
 have hE0:=hid ((EaI.start h0).app hd (.miter (some im) tm.length [] tm.length));obtain⟨st,ty⟩:=(EaI.start h0).st hd;replace h:=hid h;replace hm:=hid hm;replace hf:=hid hf;replace hd:=hid hd;have hvl:Hid (∀n,(dM a n).length<=1100000):=hid (λn=>X4 n λx hx=>(haz x hx).2);have kG:Hid (∀{n:List UInt8},a7 n->∀{L:List Blk}{K:ag7},K (LE (dM a n)) L->ag6 52 [.sl (bo a) a.length cap,.str n] L K):=@hid _ (λ{n} hn {L K} q=>acx hal har haz hn q);clear hal har haz h0;refine ag5 DT ?_;refine ak (λn T' L'=>∃(seen:List Nat) (ps:TMp),n=(tm.filter λr => !seen.contains r.2.2).length/\Hid (vz tm ps seen)/\Hid (EaI J B0 L [(L.length,.miter (some im) tm.length seen tm.length)] (λk=>k∈fo (iV ps) a) L')/\T'=[(18,.ptr L.length 0),(0,.ptr it 0),(1,.sl (bo a) a.length cap),(2,.func f caps)]) (CutS (b:=by simp)) ⟨[],[],rfl,hid vz.nil,hid (hE0.out.iff λk=>by simp[fo,iV]),rfl⟩ ?_;clear hE0 st ty;rintro _ _ L' ⟨seen,ps,rfl,hcm,hE,rfl⟩;have hat:=hE.out.at (i:=L.length) (ahs.2 rfl);obtain⟨hst,hty⟩:=hE.out.st hd.out;have hnl:(L++[Blk.miter (some im) tm.length [] tm.length]).length<=L'.length:=by have:=(ag8.1 hat).1;simp;omega
 refine br ?_;refine QJ (i:=L.length) (j:=im) (es:=aT AV.str tyV tm) (by kernel_rfl) rfl hat hty (λe he=>?_) (ag9 _) (λhall=>?_) (λe he hs=>?_);obtain⟨p,hp,rfl⟩:=ahd.1 he;exact hm.out.lt p hp;have hall2:=hcm.out.all hm.out λx hx=>hall (DP AV.str tyV x) (ahd.2 ⟨x,hx,rfl⟩)
 have hfin:=hid (h.out L' ((hE.out.iff λk=>by rw[TV,TV];unfold iV;simp only[ahd];constructor;rintro⟨q,⟨e,h1,h2⟩,h3⟩;exact⟨q,⟨e,(hall2 e).1 h1,h2⟩,h3⟩;rintro⟨q,⟨e,h1,h2⟩,h3⟩;exact⟨q,⟨e,(hall2 e).2 h1,h2⟩,h3⟩).sub (F':=[]) (by simp)))
 clear hall hall2 hE hcm h kG hd hm hf;refine sk ?_;refine wk ?_;exact dU rfl trivial (aa hfin.out);obtain⟨p,hp,rfl⟩:=ahd.1 he;clear he;have hs':seen.contains p.2.2=false:=hs;have hlt:=hid (afd hp hs');have hcm':=hid (hcm.out.next hp);have hmat:=abL (ka:=AV.str) (va:=tyV) (ck:=tm.length) (seen:=seen) hm.out.born hp;have hfr:=hf.out p hp;have hE2:=hid (hE.out.turn hd.out (.miter (some im) tm.length (seen++[p.2.2]) tm.length) (by simp));obtain⟨fn,⟨t1,t2,t3,t4⟩,bn⟩:=p;simp only[DP]at *;clear hs hs' hcm hE hat hst hty hp;obtain⟨L2,hL2⟩:=ag2 (L'.set L.length (Blk.miter (some im) tm.length (seen++[bn]) tm.length));have hl2:L'.length=L2.length:=by rw[<- hL2];simp
 rw[hL2]at hE2⊢;clear hL2;have hat:=hE2.out.at (i:=L.length) (ahs.2 rfl);obtain⟨hst,hty⟩:=hE2.out.st hd.out;have kk1:Hid (Ctr Tryz.prog 52 [.sl (bo a) a.length cap,.str fn] (LE (dM a fn))):=@hid _ (λ{L K} q=>kG.out hfr q);obtain⟨vs,hvs⟩:=ag2 (dM a fn);rw[hvs]at kk1;replace hvs:=hid hvs;have hE3:=hid (hE2.out.app hd.out (.cells [.str t1,.int .i64 t2,.bool t3,.bool t4]));have hvn:=hid (show vs.length<=1100000 by rw[<- hvs.out];exact hvl.out fn);clear hE2 hfr;refine sk ?_;refine wk ?_;refine ak (λm T' L3=>∃i:Nat,m=vs.length-i/\i<=vs.length/\Hid (EaI J B0 L [(L2.length,.cells [.str t1,.int .i64 t2,.bool t3,.bool t4]),(L.length,.miter (some im) tm.length (seen++[bn]) tm.length)] (λk=>k∈fo (iV ps) a\/k∈(vs.take i).flatMap (H1 fn t2)) L3)/\T'=[(28,.int .i64 (i:Int)),(27,.int .i64 vs.length),(26,.sl (vs.map AV.str) vs.length none),(6,.str fn),(7,.ptr L2.length 0),(18,.ptr L.length 0),(0,.ptr it 0),(1,.sl (bo a) a.length cap),(2,.func f caps)]) (CutS (b:=by simp)) ⟨0,rfl,ahf _,hid (hE3.out.iff λk=>by simp),rfl⟩ ?_;clear hE3 kk1 hat hst hty hmat;rintro _ _ L3 ⟨i,rfl,hi,hE,rfl⟩;have hat:=hE.out.at (i:=L2.length) ai4;have hl3:L2.length+1<=L3.length:=(ag8.1 hat).1;have hvn':=hvn.out;by_cases hiv:i<vs.length;have j1:(i:Int)<(vs.length:Int):=by omega
 have j2:=ag4 i (by omega);have j3:(vs.map AV.str).getD i .undef=.str (vs.getD i []):=by simp[hiv]
 have j4:i<(vs.map AV.str).length:=by simpa using hiv
 obtain⟨v,hv⟩:=ag2 (vs.getD i []);have htk:vs.take (i+1)=vs.take i++[v]:=by rw[ahw hiv,<- hv];simp[hiv]
 rw[hv]at j3;replace htk:=hid htk;obtain⟨VS,hVS⟩:=ag2 (vs.map AV.str);rw[hVS]at j3 j4⊢;clear hv hvn';rcases hno:dh t2 v with _|n;have kk1:Hid (Ctr Tryz.prog 48 [.int .i64 t2,.str v] (.tup [.str [],.bool false])):=@hid _ (λ{L K} q=>LJ (by rw[hno];exact q));have hE5:=hid (hE.out.iff (M':=λk=>k∈fo (iV ps) a\/k∈(vs.take (i+1)).flatMap (H1 fn t2)) λk=>by rw[htk.out,ajt,ahb];simp[H1,hno])
 clear hE hno htk;refine wk ?_;rw[<- hVS];exact ah _ _ _ (by omega) (CutL (b:=hl3)) ⟨i+1,rfl,hiv,hE5,rfl⟩;have kk1:Hid (Ctr Tryz.prog 48 [.int .i64 t2,.str v] (.tup [.str n,.bool true])):=@hid _ (λ{L K} q=>LJ (by rw[hno];exact q));have hnl2:=abC hno;have kk2:Hid (Ctr Tryz.prog 41 [.str n] (LE (dI n))):=@hid _ (λ{L K} q=>Yw (by omega) q);have hgl:=qh n;obtain⟨gs,hgs⟩:=ag2 (dI n);rw[hgs]at kk2 hgl;have hgb:gs.length<=100000:=by omega
 clear hgl;replace hgb:=hid hgb;have hev:Hid (H1 fn t2 v=(fn,false,n)::gs.map λg=>(fn,true,g)):=hid (by unfold H1;rw[hno];simp only[hgs]);clear hno hgs;refine wk ?_;refine hE.out.go hd.out (k:=(fn,false,n)) λL4 hE4 hl4=>?_
 replace hE4:=hid hE4;replace hl4:=hid (ahy hl3 hl4);clear hE hat hl3;refine wk ?_;refine ak (λm T' L5=>∃j:Nat,m=gs.length-j/\j<=gs.length/\Hid (L4.length<=L5.length)/\Hid (EaI J B0 L [(L2.length,.cells [.str t1,.int .i64 t2,.bool t3,.bool t4]),(L.length,.miter (some im) tm.length (seen++[bn]) tm.length)] (λk=>(k∈fo (iV ps) a\/k∈(vs.take i).flatMap (H1 fn t2))\/k=(fn,false,n)\/k∈(gs.take j).map λg=>(fn,true,g)) L5)/\T'=[(49,.int .i64 (j:Int)),(48,.int .i64 gs.length),(47,.sl (gs.map AV.str) gs.length none),(28,.int .i64 (i:Int)),(27,.int .i64 vs.length),(26,.sl VS vs.length none),(6,.str fn),(7,.ptr L2.length 0),(18,.ptr L.length 0),(0,.ptr it 0),(1,.sl (bo a) a.length cap),(2,.func f caps)]) (CutS (b:=ag9 _)) ⟨0,rfl,ahf _,hid (ag9 _),hid (hE4.out.iff λk=>by simp[or_assoc]),rfl⟩ ?_;clear hE4 kk1 kk2 j3 j4;rintro _ _ L5 ⟨j,rfl,hj,hl5,hE,rfl⟩;have hat:=hE.out.at (i:=L2.length) ai4;have hgb2:=hgb.out;by_cases hjg:j<gs.length;have g1:(j:Int)<(gs.length:Int):=by omega
 have g2:=ag4 j (by omega);clear hgb2;have g3:(gs.map AV.str).getD j .undef=.str (gs.getD j []):=by simp[hjg]
 have g4:j<(gs.map AV.str).length:=by simpa using hjg
 obtain⟨g,hg⟩:=ag2 (gs.getD j []);have htj:gs.take (j+1)=gs.take j++[g]:=by rw[ahw hjg,<- hg];simp[hjg]
 rw[hg]at g3;replace htj:=hid htj;obtain⟨GS,hGS⟩:=ag2 (gs.map AV.str);rw[hGS]at g3 g4⊢;clear hg;refine wk ?_;refine hE.out.go hd.out (k:=(fn,true,g)) λL6 hE6 hl6=>?_
 have hE7:=hid (hE6.iff (M':=λk=>(k∈fo (iV ps) a\/k∈(vs.take i).flatMap (H1 fn t2))\/k=(fn,false,n)\/k∈(gs.take (j+1)).map λg=>(fn,true,g)) λk=>by rw[htj.out];simp[or_assoc])
 replace hl6:=hid (ahy hl5.out hl6);clear hE hE6 hat;refine wk ?_;rw[<- hGS];exact ah _ _ _ (by omega) (CutL (b:=hl6.out)) ⟨j+1,rfl,hjg,hl6,hE7,rfl⟩;have hje:j=gs.length:=by omega
 subst hje;have g1:¬(gs.length:Int)<(gs.length:Int):=by omega
 have hE5:=hid (hE.out.iff (M':=λk=>k∈fo (iV ps) a\/k∈(vs.take (i+1)).flatMap (H1 fn t2)) λk=>by rw[htk.out,ajt,ahb,ahr];simp[hev.out,or_assoc])
 have hl7:=ahy hl4.out hl5.out;clear hE hat;refine wk ?_;rw[<- hVS];exact ah _ _ _ (by omega) (CutL (b:=hl7)) ⟨i+1,rfl,hiv,hE5,rfl⟩;have hie:i=vs.length:=by omega
 subst hie;have j1:¬(vs.length:Int)<(vs.length:Int):=by omega
 have hE5:=hid ((hE.out.sub (F':=[(L.length,.miter (some im) tm.length (seen++[bn]) tm.length)]) (by simp)).iff (M':=λk=>k∈fo (iV (ps++[(fn,(t1,t2,t3,t4),bn)])) a) λk=>by rw[ahr,aaL,Z7,ahb];show _↔_\/k∈fo [(fn,t2)] a;rw[Z6,hvs.out])
 have hl7:L.length+1<=L3.length:=by rw[ahq]at hnl;simp only[ahj,ahX]at hnl;omega
 clear hE hat;refine wk ?_;exact ah _ _ _ hlt.out (CutL (b:=hl7)) ⟨_,_,rfl,hcm',hE5,rfl⟩
section
variable {L:List Blk}{it im ie ip ii:Nat}{tm:TMp}{em:List (aY Int (List Atr))}{ec:Nat}{pm:List (aY (List UInt8) Nat)}{pc:Nat}{dm:List (aY aF Nat)}{dc:Nat}{Q:List UInt8->Int->Prop}{R:aF->Int->Prop}
theorem IxH.noOwn(h:IxH L it im ie ip ii tm tm.length em ec pm pc dm dc Q R){j:Nat}{c:List AV}(hj:L[j]?=some (.cells c))(hc:c.length≠4):j∉it::im::ie::ip::ii::(pm.map (·.2.1)++dm.map (·.2.1)):=by intro hm;simp only[ahc,ahb]at hm;rcases hm with rfl|rfl|rfl|rfl|rfl|hi|hi;rw[h.st]at hj;cases hj;exact hc rfl;rw[h.ty]at hj;cases hj;rw[h.en]at hj;cases hj;rw[h.pr]at hj;cases hj;rw[h.ids]at hj;cases hj;obtain⟨e,he,rfl⟩:=ahd.1 hi;obtain⟨xs,ck,q,_⟩:=h.ps e.1 e.2.1 (HP h.pok.keys he);rw[q]at hj;cases hj;obtain⟨e,he,rfl⟩:=ahd.1 hi;obtain⟨xs,ck,q,_⟩:=h.ds e.1 e.2.1 (HP h.dok.keys he);rw[q]at hj;cases hj
end
def JX(it im ie ip ii:Nat)(tm:TMp)(em:List (aY Int (List Atr)))(ec:Nat)(pm:List (aY (List UInt8) Nat))(pc:Nat)(xb ib:Nat)(id:Int)(Q:List UInt8->Int->Prop)(R:List aF->aF->Int->Prop)(ks:List aF)(B:Nat->Prop)(L:List Blk):Prop :=
 ∃dm dc,IxH L it im ie ip ii tm tm.length em ec pm pc dm dc Q (R ks)/\L[xb]?=some (.cells [.ptr it 0])/\L[ib]?=some (.cells [.int .i64 id])/\∀i,B i↔i=xb\/i=ib\/i∈it::im::ie::ip::ii::(pm.map (·.2.1)++dm.map (·.2.1))
section
variable {it im ie ip ii:Nat}{tm:TMp}{em:List (aY Int (List Atr))}{ec:Nat}{pm:List (aY (List UInt8) Nat)}{pc:Nat}{xb ib:Nat}{id:Int}{Q:List UInt8->Int->Prop}{R:List aF->aF->Int->Prop}
theorem JX.lt{ks:List aF}{B:Nat->Prop}{L:List Blk}(h:JX it im ie ip ii tm em ec pm pc xb ib id Q R ks B L)(i:Nat)(hi:B i):i<L.length:=by obtain⟨dm,dc,h1,h2,h3,h4⟩:=h;rcases(h4 i).1 hi with rfl|rfl|e;exact(ag8.1 h2).1;exact(ag8.1 h3).1;exact h1.lt i e
theorem JX.keep{ks:List aF}{B:Nat->Prop}{L L':List Blk}(h:JX it im ie ip ii tm em ec pm pc xb ib id Q R ks B L)(hb:bH (λi=>¬B i) L L'):JX it im ie ip ii tm em ec pm pc xb ib id Q R ks B L':=by
 have hlt:=h.lt;obtain⟨dm,dc,h1,h2,h3,h4⟩:=h;have key:∀i,B i->L'[i]?=L[i]?:=λi hi=>hb.eq i (hlt i hi) λe=>e hi
 exact⟨dm,dc,h1.keep λi hi=>key i ((h4 i).2 (.inr (.inr hi))),by rw[key xb ((h4 xb).2 (.inl rfl))];exact h2,by rw[key ib ((h4 ib).2 (.inr (.inl rfl)))];exact h3,h4⟩
theorem JX.dok{f:FuncId}(hg:∀ks B L k (K:AV->List Blk->Prop),JX it im ie ip ii tm em ec pm pc xb ib id Q R ks B L->(∀L' B',JX it im ie ip ii tm em ec pm pc xb ib id Q R (ks++[k]) B' L'->bH B L L'->(∀i,B' i->B i\/L.length<=i)->K (.tup []) L')->ag6 f [oN k,.ptr xb 0,.ptr ib 0] L K):DoK Tryz.prog f [.ptr xb 0,.ptr ib 0] it im ie ip ii tm (JX it im ie ip ii tm em ec pm pc xb ib id Q R):=by refine⟨λks B L h=>?_,λks B L h=>?_,λks B L h=>h.lt,λks B L L' h hb=>h.keep hb,hg⟩;obtain⟨dm,dc,h1,_⟩:=h;exact h1.st;obtain⟨dm,dc,h1,_⟩:=h;exact h1.ty
theorem JX.of{ks:List aF}{B:Nat->Prop}{L L':List Blk}{dm dm':List (aY aF Nat)}{dc':Nat}{k:aF}{R':aF->Int->Prop}(h4:∀i,B i↔i=xb\/i=ib\/i∈it::im::ie::ip::ii::(pm.map (·.2.1)++dm.map (·.2.1)))(h1:IxH L' it im ie ip ii tm tm.length em ec pm pc dm' dc' Q R')(hR:∀g x,R' g x↔R (ks++[k]) g x)(h2:L'[xb]?=some (.cells [.ptr it 0]))(h3:L'[ib]?=some (.cells [.int .i64 id]))(hdm:∀b∈dm'.map (·.2.1),b∈dm.map (·.2.1)\/L.length<=b):
  ∃B',JX it im ie ip ii tm em ec pm pc xb ib id Q R (ks++[k]) B' L'/\∀i,B' i->B i\/L.length<=i:=by
 refine⟨_,⟨dm',dc',h1.iff (λ_ _ _=>Iff.rfl) hR,h2,h3,λi=>Iff.rfl⟩,λi hi=>?_⟩;rcases hi with e|e|e;exact .inl ((h4 i).2 (.inl e));exact .inl ((h4 i).2 (.inr (.inl e)));simp only[ahc,ahb]at e;rcases e with e|e|e|e|e|e|e;exact .inl ((h4 i).2 (.inr (.inr (by simp[e]))));exact .inl ((h4 i).2 (.inr (.inr (by simp[e]))));exact .inl ((h4 i).2 (.inr (.inr (by simp[e]))));exact .inl ((h4 i).2 (.inr (.inr (by simp[e]))));exact .inl ((h4 i).2 (.inr (.inr (by simp[e]))));exact .inl ((h4 i).2 (.inr (.inr (by simp only[ahc,ahb];exact .inr (.inr (.inr (.inr (.inr (.inl e)))))))));rcases hdm i e with e|e;exact .inl ((h4 i).2 (.inr (.inr (by simp only[ahc,ahb];exact .inr (.inr (.inr (.inr (.inr (.inr e)))))))));exact .inr e
end
theorem cU{κ υ:Type}[DecidableEq κ]{ka:κ->AV}{va:υ->AV}(hka:Su ka){xs:List (aY κ υ)}(h:cP xs ck)(k:κ)(u:υ):
  (∃j w,cy xs k=some w/\dW (ka k) (aT ka va xs) 0=some (some (j,va w))/\UA (ka k) (va u) (aT ka va xs) j=aT ka va (pV xs k u ck)/\(k∈xs.map (·.1)))\/(cy xs k=none/\dW (ka k) (aT ka va xs) 0=some none/\aT ka va xs++[(ka k,va u,ck)]=aT ka va (pV xs k u ck)/\k∉xs.map (·.1)):=by
 by_cases hk:k∈xs.map (·.1);obtain⟨j,w,h1,h2,h3,_⟩:=qi (va:=va) hka 0 h.keys hk;refine .inl ⟨j,w,h1,by rw[h2,air],?_,hk⟩;rw[h3];unfold pV;rw[if_pos hk];refine .inr ⟨vm.2 hk,OL hka 0 hk,?_,hk⟩;unfold pV;rw[if_neg hk];simp[aT,DP]
theorem adY{tm:TMp}{xb ib:Nat}{R0:aF->Int->Prop}{ks:List aF}(hj:JX it im ie ip ii tm em ec pm pc xb ib id Q (SC R0 id) ks B L)(h:∀L' B',JX it im ie ip ii tm em ec pm pc xb ib id Q (SC R0 id) (ks++[k]) B' L'->bH B L L'->(∀i,B' i->B i\/L.length<=i)->K (.tup []) L'):
  ag6 54 [oN k,.ptr xb 0,.ptr ib 0] L K:=by
 obtain⟨dm,dc,h1,h2,h3,h4⟩:=hj;have hii:ii<L.length:=h1.lt ii (by simp);have hxl:=(ag8.1 h2).1;have hbl:=(ag8.1 h3).1;have xn:=h1.noOwn h2 (by simp);have bn:=h1.noOwn h3 (by simp);have aX:∀(X:List Blk){i:Nat}{b:Blk},L[i]?=some b->(L++X)[i]?=some b:=λX {i b} e=>ag3 e
 obtain⟨f,g,t⟩:=k;have hkf:bw (.st [.str,.bool,.str]) (.agg [.str f,.bool g,.str t])=true:=rfl;have hki:bw .int (.int .i64 id)=true:=rfl;rcases cU (va:=AV.lmap) vi h1.dok (f,g,t) (L.length+1)with⟨j,b,q1,q2,q3,q4⟩|⟨q1,q2,q3,q4⟩;have hb:=rz q1;have hbo:b∈it::im::ie::ip::ii::(pm.map (·.2.1)++dm.map (·.2.1)):=by simp only[ahc,ahb];exact .inr (.inr (.inr (.inr (.inr (.inr hb)))))
 have hbL:=h1.lt b hbo;obtain⟨xs,ck,s1,s2,s3,s4⟩:=h1.ds _ _ q1;have hL1:=h1.more [.cells [.str f,.bool g,.str t]];have hs1:(L++[Blk.cells [.str f,.bool g,.str t]])[b]?=some (lq xs ck):=aX _ s1;have hS:=qy.add hs1 (hL1.ds _ _ q1) id s2 s3 s4;have hJ:=hL1.dmSet q1 hS;have hst:∀(X:List Blk) c,(L++X).set b c=L.set b c++X:=λX c=>ahY _ _ hbL
 rw[hst]at hJ;obtain⟨B',j1,j2⟩:=JX.of (L:=L) (k:=(f,g,t)) h4 hJ (λy x=>Tk y x) (by
  rw[ahi (by simpa using hxl),ahx (λe=>xn (by rw[<- e];exact hbo))];exact h2) (by
  rw[ahi (by simpa using hbl),ahx (λe=>bn (by rw[<- e];exact hbo))];exact h3) (λc hc=>.inl hc)
 have hfin:=h _ B' j1 ((bH.set L (.inl ((h4 b).2 (.inr (.inr hbo)))) _).trans (bH.app (B:=λ_=>False) _ _) λi _ e=>e.elim) j2;replace hfin:=hid hfin;have a1:∀X,(L++X)[xb]?=some (.cells [.ptr it 0]):=λX=>aX X h2
 have a2:∀X,(L++X)[ib]?=some (.cells [.int .i64 id]):=λX=>aX X h3
 have a3:∀X,(L++X)[it]?=some (.cells [.lmap im,.lmap ie,.lmap ip,.lmap ii]):=λX=>aX X h1.st
 have a4:∀X,(L++X)[ii]?=some (.map (aT oN AV.lmap dm) dc):=λX=>aX X h1.ids
 have a5:∀X,(L++X)[b]?=some (.map (aT (AV.int .i64) AV.bool xs) ck):=λX=>aX X s1
 simp only[oN]at q2;clear h aX hJ hS hL1 h1 j1 j2 h4 xn bn s3 s4 q3 hs1 q1;rcases cU (va:=AV.bool) rn s2 id true with⟨j',w,p1,p2,p3,p4⟩|⟨p1,p2,p3,p4⟩;have hck:ckS xs id ck=ck:=if_pos p4;rw[hck]at hfin;clear hck p1 p4 s2;refine ag5 eR ?_;exact dU rfl trivial (aa hfin.out);have hck:ckS xs id ck=ck+1:=if_neg p4;rw[hck]at hfin;clear hck p1 p4 s2;refine ag5 eR ?_;exact dU rfl trivial (aa hfin.out);have hL1:=h1.more [.cells [.str f,.bool g,.str t]];have hN:=hL1.dmNew q1;have hlen:(L++[Blk.cells [.str f,.bool g,.str t]]).length=L.length+1:=by simp
 have hst:∀(X:List Blk) c,(L++X).set ii c=L.set ii c++X:=λX c=>ahY _ _ hii
 rw[hlen,aho,hst]at hN;have hg:cy (dm++[((f,g,t),L.length+1,dc)]) (f,g,t)=some (L.length+1):=by rw[HX (vm.1 q1),if_pos rfl]
 have hs1:(L.set ii (UJ (dm++[((f,g,t),L.length+1,dc)]) (dc+1))++([Blk.cells [.str f,.bool g,.str t]]++[lq [] 0]))[L.length+1]?=some (lq [] 0):=by rw[ahB (by simp)];simp
 have hS:=qy.add hs1 (hN.ds _ _ hg) id cP.nil (λe he=>by cases he) (by
  obtain⟨xs,ck,r1,r2,r3,r4⟩:=hN.ds _ _ hg;rw[hs1]at r1;cases xs with
  |nil=>exact r4
  |cons x xs=>simp[lq,aT]at r1)
 have hJ:=hN.dmSet hg hS;have he:(L.set ii (UJ (dm++[((f,g,t),L.length+1,dc)]) (dc+1))++([Blk.cells [.str f,.bool g,.str t]]++[lq [] 0])).set (L.length+1) (lq (pV [] id true 0) (ckS [] id 0))=L.set ii (UJ (dm++[((f,g,t),L.length+1,dc)]) (dc+1))++[Blk.cells [.str f,.bool g,.str t],.map [(.int .i64 id,.bool true,0)] 1]:=by rw[ahT _ _ (by simp)];simp[pV,ckS,aT,DP]
 rw[he]at hJ;have hnx:ii≠xb:=λe=>xn (by rw[<- e];simp)
 have hnb:ii≠ib:=λe=>bn (by rw[<- e];simp)
 have hnt:ii≠it:=λe=>by have:=h1.ids;rw[e,h1.st]at this;cases this
 have gl:∀(X:List Blk) c{i:Nat}{b:Blk},ii≠i->L[i]?=some b->(L.set ii c++X)[i]?=some b:=λX c {i b} n e=>by rw[ahi (by simpa using(ag8.1 e).1),ahx n];exact e
 obtain⟨B',j1,j2⟩:=JX.of (L:=L) (k:=(f,g,t)) h4 hJ (λy x=>Tk y x) (gl _ _ hnx h2) (gl _ _ hnb h3) (λc hc=>by rw[ahE,ahb]at hc;rcases hc with hc|hc;exact .inl hc;simp only[ahl,aix,ahs]at hc;exact .inr (by omega))
 have hfin:=h _ B' j1 ((bH.set L (.inl ((h4 ii).2 (.inr (.inr (by simp))))) _).trans (bH.app (B:=λ_=>False) _ _) λi _ e=>e.elim) j2;replace hfin:=hid hfin;have a1:∀X,(L++X)[xb]?=some (.cells [.ptr it 0]):=λX=>aX X h2
 have a3:∀X,(L++X)[it]?=some (.cells [.lmap im,.lmap ie,.lmap ip,.lmap ii]):=λX=>aX X h1.st
 have a4:∀X,(L++X)[ii]?=some (.map (aT oN AV.lmap dm) dc):=λX=>aX X h1.ids
 have b1:∀X c,(L.set ii c++X)[xb]?=some (.cells [.ptr it 0]):=λX c=>gl X c hnx h2
 have b2:∀X c,(L.set ii c++X)[ib]?=some (.cells [.int .i64 id]):=λX c=>gl X c hnb h3
 have b3:∀X c,(L.set ii c++X)[it]?=some (.cells [.lmap im,.lmap ie,.lmap ip,.lmap ii]):=λX c=>gl X c hnt h1.st
 have b4:∀X c,(L.set ii c++X)[ii]?=some c:=λX c=>by rw[ahi (by simpa using hii),ah2 hii]
 have b5:∀a c d (X:List Blk),(L.set ii c++a::d::X)[L.length+1]?=some d:=λa c d X=>by rw[ahB (by simp)];simp
 have b6:∀a c d e (X:List Blk),(L.set ii c++a::d::X).set (L.length+1) e=L.set ii c++a::e::X:=λa c d e X=>by rw[ahT _ _ (by simp)];simp
 have b7:∀a c (X:List Blk),(L.set ii c++a::X)[L.length]?=some a:=λa c X=>by rw[ahB (by simp)];simp
 obtain⟨j,w,r1,r2,_⟩:=qi (va:=AV.lmap) vi (xs:=dm++[((f,g,t),L.length+1,dc)]) (k:=(f,g,t)) 0 (hN.dok.keys) (by simp);rw[hg]at r1;simp only[aha]at r1;subst r1;have q3':aT oN AV.lmap dm++[(.agg [.str f,.bool g,.str t],.lmap (L.length+1),dc)]=aT oN AV.lmap (dm++[((f,g,t),L.length+1,dc)]):=by simp[aT,DP,oN]
 rw[air]at r2;simp only[oN]at q2 r2;clear h aX hJ hS hL1 j1 j2 h4 xn bn q3 q4 hs1 hg gl he hnx hnb hnt hN hlen h1 q1;refine ag5 eR ?_;exact dU rfl trivial (aa hfin.out)
theorem qd{κ υ:Type}[DecidableEq κ]{ka:κ->AV}{va:υ->AV}(hka:Su ka){xs:List (aY κ υ)}(h:cP xs ck)(k:κ):
  (∃j w,cy xs k=some w/\dW (ka k) (aT ka va xs) 0=some (some (j,va w))/\(aT ka va xs).eraseIdx j=aT ka va (gQ xs k))\/(dW (ka k) (aT ka va xs) 0=some none/\gQ xs k=xs):=by
 by_cases hk:k∈xs.map (·.1);obtain⟨j,w,h1,h2,_,h3⟩:=qi (va:=va) hka 0 h.keys hk;exact .inl ⟨j,w,h1,by rw[h2,air],h3⟩;refine .inr ⟨OL hka 0 hk,?_⟩;unfold gQ;refine ajq.2 λe he=>?_
 have:e.1≠k:=λq=>hk (ahd.2 ⟨e,he,q⟩)
 simpa using this
theorem acA{tm:TMp}{xb ib:Nat}{R0:aF->Int->Prop}{ks:List aF}(hj:JX it im ie ip ii tm em ec pm pc xb ib id Q (OV R0 id) ks B L)(h:∀L' B',JX it im ie ip ii tm em ec pm pc xb ib id Q (OV R0 id) (ks++[k]) B' L'->bH B L L'->(∀i,B' i->B i\/L.length<=i)->K (.tup []) L'):
  ag6 85 [oN k,.ptr xb 0,.ptr ib 0] L K:=by
 obtain⟨dm,dc,h1,h2,h3,h4⟩:=hj;have hii:ii<L.length:=h1.lt ii (by simp);have hxl:=(ag8.1 h2).1;have hbl:=(ag8.1 h3).1;have xn:=h1.noOwn h2 (by simp);have bn:=h1.noOwn h3 (by simp);have aX:∀(X:List Blk){i:Nat}{b:Blk},L[i]?=some b->(L++X)[i]?=some b:=λX {i b} e=>ag3 e
 obtain⟨f,g,t⟩:=k;have hkf:bw (.st [.str,.bool,.str]) (.agg [.str f,.bool g,.str t])=true:=rfl;have hki:bw .int (.int .i64 id)=true:=rfl;have a1:∀X,(L++X)[xb]?=some (.cells [.ptr it 0]):=λX=>aX X h2
 have a2:∀X,(L++X)[ib]?=some (.cells [.int .i64 id]):=λX=>aX X h3
 have a3:∀X,(L++X)[it]?=some (.cells [.lmap im,.lmap ie,.lmap ip,.lmap ii]):=λX=>aX X h1.st
 have a4:∀X,(L++X)[ii]?=some (.map (aT oN AV.lmap dm) dc):=λX=>aX X h1.ids
 have hL1:=h1.more [.cells [.str f,.bool g,.str t]];rcases qd (va:=AV.lmap) vi h1.dok (f,g,t)with⟨j,b,q1,q2,q3⟩|⟨q2,q3⟩
 rotate_left
 have q1:cy dm (f,g,t)=none:=by have:=HW (xs:=dm) (k:=(f,g,t)) (j:=(f,g,t));rw[q3,if_pos rfl]at this;exact this
 have hset:∀X,(L++X).set ii (.map (aT oN AV.lmap dm) dc)=L++X:=λX=>by apply aiB;intro i;by_cases e:ii=i;subst e;rw[ah2 (by simp;omega),a4];rw[ahx e]
 obtain⟨B',j1,j2⟩:=JX.of (L:=L) (k:=(f,g,t)) h4 hL1 (λy x=>by refine Iff.trans ?_ (OU (R:=R0) (id:=id) (ks:=ks) (j:=(f,g,t)) y x);by_cases e:y=(f,g,t);subst e;rw[if_pos rfl];have:=h1.dn _ q1 x;simp[this];rw[if_neg e]) (a1 _) (a2 _) (λc hc=>.inl hc)
 have hfin:=h _ B' j1 (bH.app _ _) j2;replace hfin:=hid hfin;simp only[oN]at q2;clear h aX hL1 h1 j1 j2 h4 xn bn q3 q1;refine ag5 cE ?_;exact dU rfl trivial (aa hfin.out);have hb:=rz q1;have hbo:b∈it::im::ie::ip::ii::(pm.map (·.2.1)++dm.map (·.2.1)):=by simp only[ahc,ahb];exact .inr (.inr (.inr (.inr (.inr (.inr hb)))))
 have hbL:=h1.lt b hbo;obtain⟨xs,ck,s1,s2,s3,s4⟩:=h1.ds _ _ q1;have hs1:(L++[Blk.cells [.str f,.bool g,.str t]])[b]?=some (lq xs ck):=aX _ s1;have hS:=qy.del hs1 id s2 s3 s4;have hJ:=hL1.dmSet q1 hS;have hst:∀(X:List Blk) c,(L++X).set b c=L.set b c++X:=λX c=>ahY _ _ hbL
 rw[hst]at hJ;have hbx:b≠xb:=λe=>xn (by rw[<- e];exact hbo)
 have hbb:b≠ib:=λe=>bn (by rw[<- e];exact hbo)
 have hbt:b≠it:=λe=>by rw[e,h1.st]at s1;cases s1
 have hbi:b≠ii:=(h1.ne.2.2.2.1 b hb).2.2.2.2;have gl:∀(X:List Blk) c{i:Nat}{d:Blk},b≠i->L[i]?=some d->(L.set b c++X)[i]?=some d:=λX c {i d} n e=>by rw[ahi (by simpa using(ag8.1 e).1),ahx n];exact e
 have a5:∀X,(L++X)[b]?=some (.map (aT (AV.int .i64) AV.bool xs) ck):=λX=>aX X s1
 have b1:∀X c,(L.set b c++X)[xb]?=some (.cells [.ptr it 0]):=λX c=>gl X c hbx h2
 have b2:∀X c,(L.set b c++X)[ib]?=some (.cells [.int .i64 id]):=λX c=>gl X c hbb h3
 have b3:∀X c,(L.set b c++X)[it]?=some (.cells [.lmap im,.lmap ie,.lmap ip,.lmap ii]):=λX c=>gl X c hbt h1.st
 have b4:∀X c,(L.set b c++X)[ii]?=some (.map (aT oN AV.lmap dm) dc):=λX c=>gl X c hbi h1.ids
 have b5:∀X c,(L.set b c++X)[b]?=some c:=λX c=>by rw[ahi (by simpa using hbL),ah2 hbL]
 have b7:∀a c (X:List Blk),(L.set b c++a::X)[L.length]?=some a:=λa c X=>by rw[ahB (by simp)];simp
 have hB1:bH B L (L.set b (lq (gQ xs id) ck)++[Blk.cells [.str f,.bool g,.str t]]):=(bH.set L (.inl ((h4 b).2 (.inr (.inr hbo)))) _).trans (bH.app (B:=λ_=>False) _ _) λi _ e=>e.elim
 simp only[oN]at q2;by_cases hz:gQ xs id=[];have hno:∀x,¬(if((f,g,t):aF)=(f,g,t)then OV R0 id ks (f,g,t) x/\x≠id else OV R0 id ks (f,g,t) x):=λx=>by rw[if_pos rfl,<- s4 x,<- TY,hz];simp
 have hD:=hJ.dmDel hno;have hst2:∀(X:List Blk) c d,(L.set b c++X).set ii d=(L.set b c).set ii d++X:=λX c d=>ahY _ _ (by simpa using hii)
 rw[hst2]at hD;have hnx:ii≠xb:=λe=>xn (by rw[<- e];simp)
 have hnb:ii≠ib:=λe=>bn (by rw[<- e];simp)
 obtain⟨B',j1,j2⟩:=JX.of (L:=L) (k:=(f,g,t)) h4 hD (λy x=>OU y x) (by
  rw[ahi (by simpa using hxl),ahx hnx,ahx hbx];exact h2) (by
  rw[ahi (by simpa using hbl),ahx hnb,ahx hbb];exact h3) (λc hc=>.inl (by
  obtain⟨e,he,rfl⟩:=ahd.1 hc;exact ahd.2 ⟨e,(ahI.1 he).1,rfl⟩))
 have hfin:=h _ B' j1 (by rw[<- hst2];exact hB1.trans (bH.set (B:=λi=>i=ii) _ (.inl rfl) _) λi _ e=>by rw[e];exact(h4 ii).2 (.inr (.inr (by simp)))) j2
 rw[hz]at hfin;replace hfin:=hid hfin;have hz0:(aT (AV.int .i64) AV.bool (gQ xs id)).length=0:=by rw[hz];rfl
 have hzn:aT (AV.int .i64) AV.bool (gQ xs id)=[]:=by rw[hz];rfl
 clear h aX hJ hS hL1 h1 j1 j2 h4 xn bn s3 s4 hs1 q1 hD hno hB1 hb hbo gl;rcases qd (va:=AV.bool) rn s2 id with⟨j',w,p1,p2,p3⟩|⟨p2,p3⟩;clear p1 s2 hz hz0;refine ag5 cE ?_;exact dU rfl trivial (aa hfin.out);rw[p3]at hz;subst hz;clear s2 hz0 hzn p3;refine ag5 cE ?_;exact dU rfl trivial (aa hfin.out);have hfinJ:∃B',JX it im ie ip ii tm em ec pm pc xb ib id Q (OV R0 id) (ks++[(f,g,t)]) B' (L.set b (lq (gQ xs id) ck)++[Blk.cells [.str f,.bool g,.str t]])/\∀i,B' i->B i\/L.length<=i :=
  JX.of (L:=L) (k:=(f,g,t)) h4 hJ (λy x=>OU y x) (gl _ _ hbx h2) (gl _ _ hbb h3) (λc hc=>.inl hc)
 obtain⟨B',j1,j2⟩:=hfinJ;have hfin:=h _ B' j1 hB1 j2;replace hfin:=hid hfin;have hz0:¬((aT (AV.int .i64) AV.bool (gQ xs id)).length:Int)=0:=λe=>hz (by have:(aT (AV.int .i64) AV.bool (gQ xs id)).length=0:=(by omega);unfold aT at this;rw[ahP]at this;exact ahH.1 this)
 clear h aX hJ hS hL1 h1 j1 j2 h4 xn bn s3 s4 hs1 q1 hB1 hb hbo gl hz;rcases qd (va:=AV.bool) rn s2 id with⟨j',w,p1,p2,p3⟩|⟨p2,p3⟩;clear p1 s2;refine ag5 cE ?_;refine bc ?_;exact dU rfl trivial (aa hfin.out);rw[p3]at hfin hz0;clear s2 p3;refine ag5 cE ?_;refine bc ?_;exact dU rfl trivial (aa hfin.out)
set_option maxHeartbeats 8000000
set_option maxRecDepth 100000
structure Sx(a:List Atr):Prop where
 len:a.length<=1100000
 rise:lp dQ a
 sz:∀x∈a,a7 x.1/\x.2.length<=1100000
structure IxG(tm:TMp)(l:List bd):Prop where
 ok:cP tm tm.length
 key:∀e∈tm,a7 e.1
 ats:∀e∈l,Sx e.2
theorem bH.app2{L1:List Blk}(h:bH B L L1)(X:List Blk):bH B L (L1++X):=h.trans (bH.app (B:=λ_=>False) _ _) λi _ e=>e.elim
structure mL(L0:List Blk)(B0 B:Nat->Prop)(it im ie ip ii:Nat)(tm:TMp)(em:List (aY Int (List Atr)))(ec:Nat)(pm:List (aY (List UInt8) Nat))(pc:Nat)(dm:List (aY aF Nat))(dc:Nat)(F:List (Nat×Blk))(Q:List UInt8->Int->Prop)(R:aF->Int->Prop)(L:List Blk):Prop where
 ix:IxH L it im ie ip ii tm tm.length em ec pm pc dm dc Q R
 own:∀i,B i↔i∈it::im::ie::ip::ii::(pm.map (·.2.1)++dm.map (·.2.1))
 bes:bH B0 L0 L
 sub:∀i,B i->B0 i\/L0.length<=i
 fr:∀p∈F,¬B p.1/\L[p.1]?=some p.2/\L0.length<=p.1
section
variable {L0:List Blk}{B0 B:Nat->Prop}{it im ie ip ii:Nat}{tm:TMp}{em:List (aY Int (List Atr))}{ec:Nat}{pm:List (aY (List UInt8) Nat)}{pc:Nat}{dm:List (aY aF Nat)}{dc:Nat}{F:List (Nat×Blk)}{Q:List UInt8->Int->Prop}{R:aF->Int->Prop}{L:List Blk}
theorem mL.at(h:mL L0 B0 B it im ie ip ii tm em ec pm pc dm dc F Q R L){i:Nat}{b:Blk}(e:(i,b)∈F):L[i]?=some b:=(h.fr _ e).2.1
theorem mL.lt(h:mL L0 B0 B it im ie ip ii tm em ec pm pc dm dc F Q R L){i:Nat}(hi:B i):i<L.length:=h.ix.lt i ((h.own i).1 hi)
theorem mL.app(h:mL L0 B0 B it im ie ip ii tm em ec pm pc dm dc F Q R L)(b:Blk):mL L0 B0 B it im ie ip ii tm em ec pm pc dm dc ((L.length,b)::F) Q R (L++[b]):=by refine⟨h.ix.more _,h.own,h.bes.app2 _,h.sub,λp hp=>?_⟩;rcases ahc.1 hp with rfl|hp;exact⟨λe=>absurd (h.lt e) (by simp),by simp,h.bes.len⟩;obtain⟨g1,g2,g3⟩:=h.fr p hp;exact⟨g1,ag3 g2,g3⟩
theorem mL.turn{i:Nat}{b:Blk}(h:mL L0 B0 B it im ie ip ii tm em ec pm pc dm dc ((i,b)::F) Q R L)(b':Blk)(hF:∀p∈F,p.1≠i):mL L0 B0 B it im ie ip ii tm em ec pm pc dm dc ((i,b')::F) Q R (L.set i b'):=by obtain⟨q1,q2,q3⟩:=h.fr (i,b) (by simp);simp only at q1 q2 q3;refine⟨h.ix.keep λj hj=>?_,h.own,h.bes.trans (bH.set (B:=λj=>j=i) L (.inl rfl) b') (λj hj e=>absurd hj (by omega)),h.sub,λp hp=>?_⟩;rw[ahx λe=>q1 ((h.own i).2 (by rw[e];exact hj))];rcases ahc.1 hp with rfl|hp;exact⟨q1,ah2 (ag8.1 q2).1,q3⟩;obtain⟨g1,g2,g3⟩:=h.fr p (by simp[hp]);exact⟨g1,by rw[ahx (λe=>hF p hp e.symm)];exact g2,g3⟩
theorem mL.ownSet(h:mL L0 B0 B it im ie ip ii tm em ec pm pc dm dc F Q R L){i:Nat}(hi:B i){k:Blk}{em':List (aY Int (List Atr))}{ec':Nat}{Q':List UInt8->Int->Prop}(hx:IxH (L.set i k) it im ie ip ii tm tm.length em' ec' pm pc dm dc Q' R):mL L0 B0 B it im ie ip ii tm em' ec' pm pc dm dc F Q' R (L.set i k):=
 ⟨hx,h.own,h.bes.trans (bH.set (B:=λj=>j=i) L (.inl rfl) k) (λj hj e=>(h.sub j (by rw[e];exact hi)).resolve_right (by omega)),h.sub,λp hp=>by obtain⟨g1,g2,g3⟩:=h.fr p hp;exact⟨g1,by rw[ahx λe=>g1 (by rw[<- e];exact hi)];exact g2,g3⟩⟩
theorem mL.iff{Q':List UInt8->Int->Prop}(h:mL L0 B0 B it im ie ip ii tm em ec pm pc dm dc F Q R L)(hq:∀f x,f∈tm.map (·.1)->(Q f x↔Q' f x)):mL L0 B0 B it im ie ip ii tm em ec pm pc dm dc F Q' R L:=⟨h.ix.iff hq λ_ _=>Iff.rfl,h.own,h.bes,h.sub,h.fr⟩
theorem mL.apps(h:mL L0 B0 B it im ie ip ii tm em ec pm pc dm dc F Q R L)(X:List Blk):mL L0 B0 B it im ie ip ii tm em ec pm pc dm dc F Q R (L++X):=
 ⟨h.ix.more _,h.own,h.bes.app2 _,h.sub,λp hp=>by obtain⟨g1,g2,g3⟩:=h.fr p hp;exact⟨g1,ag3 g2,g3⟩⟩
theorem mL.jx{xb ib:Nat}{id:Int}(h:mL L0 B0 B it im ie ip ii tm em ec pm pc dm dc F Q R L)(hx:(xb,.cells [.ptr it 0])∈F)(hi:(ib,.cells [.int .i64 id])∈F){R':List aF->aF->Int->Prop}(hR:∀k x,R k x↔R' [] k x):JX it im ie ip ii tm em ec pm pc xb ib id Q R' [] (λi=>i=xb\/i=ib\/B i) L:=by refine⟨dm,dc,h.ix.iff (λ_ _ _=>Iff.rfl) hR,h.at hx,h.at hi,λi=>?_⟩;show i=xb\/i=ib\/B i↔_;rw[h.own]
theorem mL.done{xb ib:Nat}{id:Int}(h:mL L0 B0 B it im ie ip ii tm em ec pm pc dm dc F Q R L)(hx:(xb,.cells [.ptr it 0])∈F)(hi:(ib,.cells [.int .i64 id])∈F){R':List aF->aF->Int->Prop}{M:aF->Prop}{L2:List Blk}(he:EaI (JX it im ie ip ii tm em ec pm pc xb ib id Q R') (λi=>i=xb\/i=ib\/B i) L [] M L2){l':List bd}(hr:gU l')(hem:Mh em l')(hQ:∀f x,f∈tm.map (·.1)->(Q f x↔x∈lr l' f))(hR:∀ks,(∀k,k∈ks↔M k)->∀k x,R' ks k x↔x∈fD (iV tm) l' k):∃B',IxO L2 it tm l' B'/\bH B0 L0 L2/\∀i,B' i->B0 i\/L0.length<=i:=by
 obtain⟨ks,B2,⟨dm2,dc2,g1,g2,g3,g4⟩,h2,h3,h4,_⟩:=he;have hxl:=(h.fr _ hx).2.2;have hil:=(h.fr _ hi).2.2;refine⟨_,⟨im,ie,ip,ii,em,ec,pm,pc,dm2,dc2,g1.iff hQ (hR ks h2),hem,hr,λi=>Iff.rfl⟩,h.bes.trans h3 (λi hi' e=>?_),λi hi'=>?_⟩;rcases e with e|e|e;simp only at hxl;omega;simp only at hil;omega;exact(h.sub i e).resolve_right (by omega);rcases h4 i ((g4 i).2 (.inr (.inr hi')))with(e|e|e)|e;simp only at hxl;right;omega;simp only at hil;right;omega;exact h.sub i e;exact .inr (ahy h.bes.len e)
end
theorem Y9{k:Blk}(h:L[i]?=some k):L.set i k=L:=by have hi:=(ag8.1 h).1;apply aiB;intro j;by_cases e:i=j;subst e;rw[ah2 hi,h];rw[ahx e]
theorem afp{tm:TMp}{tc:Nat}{dm:List (aY aF Nat)}{dc:Nat}{R:aF->Int->Prop}(h:IxH L it im ie ip ii tm tc em ec pm pc dm dc Q R){p:aY (List UInt8) Nat}(hp:p∈pm):cy pm p.1=some p.2.1:=HP h.pok.keys hp
theorem abU{tm:TMp}(ho:IxO L it tm l B)(hg:IxG tm l)(h:∀L' B',IxO L' it tm (cz id l) B'->bH B L L'->(∀i,B' i->B i\/L.length<=i)->K (.tup []) L'):
  ag6 35 [.ptr it 0,.int .i64 id] L K:=by
 obtain⟨im,ie,ip,ii,em,ec,pm,pc,dm,dc,h1,h2,h3,h4⟩:=ho;have hM0:mL L B B it im ie ip ii tm em ec pm pc dm dc [] (λf x=>x∈lr l f) (λk x=>x∈fD (iV tm) l k) L:=⟨h1,h4,.refl _,λi hi=>.inl hi,λp hp=>by cases hp⟩;have hM1:=hM0.app (.cells [.ptr it 0]);have hM2:=hM1.app (.cells [.int .i64 id]);have hki:bw .int (.int .i64 id)=true:=rfl;have a1:∀X,(L++X)[it]?=some (.cells [.lmap im,.lmap ie,.lmap ip,.lmap ii]):=λX=>ag3 h1.st
 have a2:∀X,(L++X)[ie]?=some (.map (aT (AV.int .i64) atV em) ec):=λX=>ag3 h1.en
 rcases qd (va:=atV) rn h1.eok id with⟨j,a,q1,q2,q3⟩|⟨q2,q3⟩
 rotate_left
 have hno:∀a,(id,a)∉l:=h2.out.1 (by have:=HW (xs:=em) (k:=id) (j:=id);rw[q3,if_pos rfl]at this;exact this)
 rw[Z8 hno]at h;have hfin:=hid (h _ B ⟨im,ie,ip,ii,em,ec,pm,pc,dm,dc,hM2.ix,h2,h3,h4⟩ hM2.bes λi hi=>.inl hi);rw[aho]at hfin;clear h hM0 hM1 hM2 h1 h2 h3 h4 hg q3 hno;refine ag5 mB ?_;exact aa hfin.out;have ha:(id,a)∈l:=(h2 id a).1 q1;have hao:=hg.ats _ ha;have hem:=h2.drop id;have hok2:cP (gQ em id) ec:=h1.eok.filter _;have hie:ie<L.length:=(ag8.1 h1.en).1;have hBie:B ie:=(h4 ie).2 (by simp);obtain⟨n1,n2,n3,n4,m1,m2,m3,m4,m5,m6,m7,m8,m9,m10⟩:=h1.ne;rw[show(L++[Blk.cells [.ptr it 0]]).length=L.length+1 by simp]at hM2;have hM3:=hM2.ownSet hBie (hM2.ix.enSet hok2);have hst:∀(X:List Blk) c,(L++X).set ie c=L.set ie c++X:=λX c=>ahY _ _ hie
 have gl:∀(X:List Blk) c{i:Nat}{b:Blk},ie≠i->L[i]?=some b->(L.set ie c++X)[i]?=some b:=λX c {i b} n e=>by rw[ahi (by simpa using(ag8.1 e).1),ahx n];exact e
 have b1:∀X c,(L.set ie c++X)[it]?=some (.cells [.lmap im,.lmap ie,.lmap ip,.lmap ii]):=λX c=>gl X c m2.symm h1.st
 have b5:∀c,(L.set ie c).length=L.length:=λc=>by simp
 have b2:∀X c,(L.set ie c++X)[ip]?=some (.map (aT AV.str AV.lmap pm) pc):=λX c=>gl X c m8 h1.pr
 have b3:∀a c (X:List Blk),(L.set ie c++a::X)[L.length]?=some a:=λa c X=>by rw[ahB (by simp)];simp
 have b4:∀a c d (X:List Blk),(L.set ie c++a::d::X)[L.length+1]?=some d:=λa c d X=>by rw[ahB (by simp)];simp
 have hM4:=hM3.app (.miter (some ip) pc [] pc);rw[aho,hst,show(L.set ie (acw (gQ em id) ec)++([Blk.cells [.ptr it 0]]++[Blk.cells [.int .i64 id]])).length=L.length+2 by simp,aho]at hM4;replace hM4:=hid hM4;replace h:=hid h;replace hg:=hid hg;replace hao:=hid hao;replace hem:=hid hem;replace hpo:=hid h1.pok;replace hri:=hid h3;have hpk:=hid h1.pk;replace ha:=hid ha;clear hM0 hM1 hM2 hM3 h1 h2 h3 h4 hok2 hBie n1 n2 n3 n4 m1 m2 m3 m4 m5 m6 m7 m8 m9 m10 gl q1;refine ag5 mB ?_;refine ak (λn T' L'=>∃(seen:List Nat) (ps:List (aY (List UInt8) Nat)),n=(pm.filter λr => !seen.contains r.2.2).length/\Hid (vz pm ps seen)/\Hid (mL L B B it im ie ip ii tm (gQ em id) ec pm pc dm dc [(L.length+2,.miter (some ip) pc seen pc),(L.length+1,.cells [.int .i64 id]),(L.length,.cells [.ptr it 0])] (λf x=>x∈lr l f/\¬(x=id/\f∈ps.map (·.1))) (λk x=>x∈fD (iV tm) l k) L')/\T'=[(30,.ptr (L.length+2) 0),(2,.ptr L.length 0),(3,.ptr (L.length+1) 0),(4,.sl (bo a) a.length none)]) (CutS (b:=by simp)) ⟨[],[],rfl,hid vz.nil,hid (hM4.out.iff λf x _=>by simp),rfl⟩ ?_;clear hM4 b1 b2 b3 b4 b5 a1 a2 q2 q3 hst;rintro _ _ L' ⟨seen,ps,rfl,hcm,hM,rfl⟩;have hat:=hM.out.at (i:=L.length+2) ai4;have hpr:=hM.out.ix.pr;have hnl:L.length+3<=L'.length:=(ag8.1 hat).1;refine br ?_;refine QJ (i:=L.length+2) (j:=ip) (es:=aT AV.str AV.lmap pm) (by kernel_rfl) rfl hat hpr (λe he=>?_) (ag9 _) (λhall=>?_) (λe he hs=>?_);obtain⟨p,hp,rfl⟩:=ahd.1 he;exact hpo.out.lt p hp;have hall2:=hcm.out.all hpo.out λx hx=>hall (DP AV.str AV.lmap x) (ahd.2 ⟨x,hx,rfl⟩)
 have hx:=hM.out.at (i:=L.length) (b:=.cells [.ptr it 0]) (by simp);have kk1:Hid (∀{K:ag7},(∀L2,EaI (JX it im ie ip ii tm (gQ em id) ec pm pc L.length (L.length+1) id (λf x=>x∈lr l f/\¬(x=id/\f∈ps.map (·.1))) (OV (λk x=>x∈fD (iV tm) l k) id)) (λi=>i=L.length\/i=L.length+1\/B i) L' [] (λk=>k∈fo (iV tm) a) L2->K (.tup []) L2)->ag6 53 [.ptr it 0,.sl (bo a) a.length none,.func 85 [.ptr L.length 0,.ptr (L.length+1) 0]] L' K):=@hid _ (λ{K} q=>by refine acy (JX.dok λks B L k K hj hk=>acA hj hk) hao.out.len hao.out.rise hao.out.sz hg.out.ok hg.out.key (hM.out.jx (by simp) (by simp) λk x=>?_) q;simp[OV])
 replace hall2:=hid hall2;clear hall hcm hat hpr;refine sk ?_;refine wk ?_;intro L2 he;obtain⟨B',f1,f2,f3⟩:=hM.out.done (by simp) (by simp) he (RO hri.out) hem.out (λf x hf=>by
  have h1:f∈ps.map (·.1):=by obtain⟨e,he,rfl⟩:=ahd.1 ((hpk.out f).2 hf);exact ahd.2 ⟨e,(hall2.out e).2 he,rfl⟩
  rw[Tl];simp only[h1,and_true,ne_eq]) (λks hk k x=>acz hri.out ha.out hk k x)
 refine a8 (by kernel_rfl) ?_;exact dU rfl trivial (aa (h.out L2 B' f1 f2 f3));obtain⟨p,hp,rfl⟩:=ahd.1 he;clear he;have hs':seen.contains p.2.2=false:=hs;have hlt:=hid (afd hp hs');have hcm':=hid (hcm.out.next hp);have hmat:=abL (ka:=AV.str) (va:=AV.lmap) (ck:=pc) (seen:=seen) hpo.out.born hp;have hgp:=afp hM.out.ix hp;have hM2:=hM.out.turn (.miter (some ip) pc (seen++[p.2.2]) pc) (by simp);obtain⟨fn,b,bn⟩:=p;simp only[DP]at *;clear hs hs' hcm hM hat hpr hp;obtain⟨L2,hL2⟩:=ag2 (L'.set (L.length+2) (Blk.miter (some ip) pc (seen++[bn]) pc));have hl2:L'.length=L2.length:=by rw[<- hL2];simp
 rw[hL2]at hM2⊢;clear hL2;have hat:=hM2.at (i:=L.length+2) ai4;have hib:=hM2.at (i:=L.length+1) (b:=.cells [.int .i64 id]) (by simp);have hpr:=hM2.ix.pr;have hBb:B b:=(hM2.own b).2 (by simp only[ahc,ahb];exact .inr (.inr (.inr (.inr (.inr (.inl (vQ hgp)))))));obtain⟨xs,ck,s1,s2,s3,s4⟩:=hM2.ix.ps _ _ hgp;have hS:=qy.del s1 id s2 s3 s4;have hM3:=hid ((hM2.ownSet hBb (hM2.ix.pmSet hgp hS)).iff (Q':=λf x=>x∈lr l f/\¬(x=id/\f∈(ps++[(fn,b,bn)]).map (·.1))) λf x _=>by by_cases e:f=fn;subst e;rw[if_pos rfl];simp only[ahE,ahb,ahl,aix,ahs,or_true,and_true];constructor;rintro⟨⟨q1,_⟩,q2⟩;exact⟨q1,q2⟩;rintro⟨q1,q2⟩;exact⟨⟨q1,λw=>q2 w.1⟩,q2⟩;rw[if_neg e];simp only[ahE,ahb,ahl,aix,ahs,e,or_false])
 have hbl:=(ag8.1 s1).1;rcases qd (va:=AV.bool) rn s2 id with⟨j',w,p1,p2,p3⟩|⟨p2,p3⟩;clear p1 s2 s3 s4 hS hM2 hgp hBb;refine sk ?_;refine wk ?_;exact ah _ _ _ hlt.out (CutL (b:=by simp;omega)) ⟨_,_,rfl,hcm',hM3,rfl⟩;have hset:L2.set b (.map (aT (AV.int .i64) AV.bool xs) ck)=L2:=Y9 s1;rw[p3,hset]at hM3;clear p3 s2 s3 s4 hS hM2 hgp hBb;refine sk ?_;refine wk ?_;exact ah _ _ _ hlt.out (CutL (b:=by simp;omega)) ⟨_,_,rfl,hcm',hM3,rfl⟩
set_option maxHeartbeats 8000000
set_option maxRecDepth 100000
theorem Yq{tm:TMp}(ho:IxO L it tm l B)(hg:IxG tm l){a:List Atr}(hao:Sx a)(h:∀L' B',IxO L' it tm (DN id a l) B'->bH B L L'->(∀i,B' i->B i\/L.length<=i)->K (.tup []) L'):
  ag6 21 [.ptr it 0,.int .i64 id,.sl (bo a) a.length cap] L K:=by
 have kD:Hid (∀{K:ag7},(∀L1 B1,Hid (IxO L1 it tm (cz id l) B1/\bH B (L++[.cells [.ptr it 0],.cells [.int .i64 id]]) L1/\∀i,B1 i->B i\/L.length+2<=i)->K (.tup []) L1)->ag6 35 [.ptr it 0,.int .i64 id] (L++[.cells [.ptr it 0],.cells [.int .i64 id]]) K):=@hid _ (by
  intro K q;refine abU (ho.app _) hg λL1 B1 g1 g2 g3=>q L1 B1 (hid ⟨g1,g2,λi hi=>?_⟩)
  have:=g3 i hi;simpa using this)
 have hlt:=hid (λi (hi:B i)=>ho.lt hi);have hri:=hid ho.rise;replace h:=hid h;replace hg:=hid hg;replace hao:=hid hao;clear ho;refine ag5 Ii ?_;refine kD.out λL1 B1 h1=>?_
 clear kD;have hbx:L1[L.length]?=some (.cells [.ptr it 0]):=by
  refine h1.out.2.1.get (by simp) λe=>?_
  have:=hlt.out _ e;omega
 have hbi:L1[L.length+1]?=some (.cells [.int .i64 id]):=by
  refine h1.out.2.1.get (by simp) λe=>?_
  have:=hlt.out _ e;omega
 have hM0:Hid (∃im ie ip ii em ec pm pc dm dc,mL L B B1 it im ie ip ii tm em ec pm pc dm dc [(L.length+1,.cells [.int .i64 id]),(L.length,.cells [.ptr it 0])] (λf x=>x∈lr (cz id l) f) (λk x=>x∈fD (iV tm) (cz id l) k) L1/\Mh em (cz id l)):=hid (by
  obtain⟨⟨im,ie,ip,ii,em,ec,pm,pc,dm,dc,g1,g2,g3,g4⟩,g5,g6⟩:=h1.out;refine⟨im,ie,ip,ii,em,ec,pm,pc,dm,dc,⟨g1,g4,?_,λi hi=>?_,λp hp=>?_⟩,g2⟩;exact⟨by have:=g5.len;simp at this;omega,λi hi hn=>by rw[g5.eq i (by simp;omega) hn,ahi hi]⟩;rcases g6 i hi with e|e;exact .inl e;exact .inr (by omega);have key:∀i,L.length<=i->i<L.length+2->¬B1 i:=λi i1 i2 e=>by rcases g6 i e with e|e;have:=hlt.out i e;omega;omega
  simp only[ahc,aiL,or_false]at hp;rcases hp with rfl|rfl;exact⟨key _ (by simp) (by simp),hbi,by simp⟩;exact⟨key _ (by simp) (by simp),hbx,by simp⟩)
 clear h1 hbx hbi;have hall:=hid hao.out.len;refine wk ?_;refine bX (l:=[]) (n:=0) 6 2 rfl (ahD 2).symm ?_;refine ak (λm T' L'=>∃(k:Nat) (C:List AV) (X:List Blk),m=a.length-k/\k<=a.length/\C=bo (a.take k)/\T'=[(17,.int .i64 (k:Int)),(16,.int .i64 a.length),(15,.sl (bo a) a.length cap),(6,.gsl C k L1.length 2),(4,.ptr (L.length+1) 0),(3,.ptr L.length 0)]/\L'=L1++(.spare k 2::X)) (CutS (b:=by simp)) ⟨0,[],[],rfl,ahf _,rfl,rfl,rfl⟩ ?_;rintro _ _ _ ⟨k,C,X,rfl,hk,hC,rfl,rfl⟩;have hall2:=hall.out;by_cases hlk:k<a.length;have g1:(k:Int)<(a.length:Int):=by omega
 have g2:=ag4 k (by omega);have e3:=pK hlk;have e4:k*2+2<=(bo a).length:=by rw[oK];omega
 obtain⟨⟨nm,vs⟩,ha⟩:∃x,a.getD k ([],[])=x:=⟨_,rfl⟩;have htk:bo (a.take (k+1))=bo (a.take k)++[.str nm,.sl (vs.map AV.str) vs.length none]:=by rw[ahw hlk,Oh,show a[k]=(nm,vs)by rw[<- ha];simp[hlk]];rfl
 have hvs:=(hao.out.sz (nm,vs) (by rw[<- ha];simp[hlk])).2;simp only at hvs;rw[ha]at e3;simp only[atA]at e3;have e0:AV.frzL (vs.map AV.str)=vs.map AV.str:=eh vs;replace htk:=hid htk;replace hC:=hid hC;have kk1:Hid (∀{c:Option Nat}{L:List Blk}{K:ag7},K (.sl (vs.map AV.str) vs.length none) L->ag6 51 [.sl (vs.map AV.str) vs.length c] L K):=@hid _ (by intro c L K q;exact acJ (by omega) q);clear ha;refine wk ?_;exact ah _ _ _ (by omega) (CutL (b:=by simp)) ⟨k+1,_,_,rfl,hlk,by rw[htk.out,hC.out],rfl,rfl⟩;have hke:k=a.length:=by omega
 subst hke;have g1:¬(a.length:Int)<(a.length:Int):=by omega
 rw[ahr]at hC;subst hC;obtain⟨im,ie,ip,ii,em,ec,pm,pc,dm,dc,hM1,hem⟩:=hM0.out;have hM:=hM1.apps (.spare a.length 2::X);obtain⟨L2,hL2⟩:=ag2 (L1 ++ .spare a.length 2::X);have hl12:L1.length+1<=L2.length:=by rw[<- hL2];simp
 rw[hL2]at hM⊢;clear hM1 hL2 hM0;refine aeR (T':=[(17,.int .i64 a.length),(16,.int .i64 a.length),(6,.sl (AV.frzL (bo a)) a.length none),(4,.ptr (L.length+1) 0),(3,.ptr L.length 0)]) (L':=L2) (CutS (b:=ag9 _)) ?_;rw[ln];have hno:cy em id=none:=hem.out.2 λb hb=>by have:=fW.1 hb;simp at this
 rcases cU (va:=atV) rn hM.ix.eok id a with⟨j,w,q1,_⟩|⟨_,q2,q3,q4⟩;rw[hno]at q1;cases q1;have hem2:Mh (pV em id a ec) (DN id a l):=hem.put a;have hes:pV em id a ec=em++[(id,a,ec)]:=by unfold pV;rw[if_neg q4]
 rw[hes]at hem2 q3;have hie:ie<L2.length:=(ag8.1 hM.ix.en).1;obtain⟨n1,n2,n3,n4,m1,m2,m3,m4,m5,m6,m7,m8,m9,m10⟩:=hM.ix.ne;have hM3:=hM.ownSet ((hM.own ie).2 (by simp)) (hM.ix.enSet (hM.ix.eok.add q4 (w:=a)));have hM4:=hM3.app (.miter (some im) tm.length [] tm.length);rw[aj1]at hM4;have hbx:=hM.at (i:=L.length) (b:=.cells [.ptr it 0]) (by simp);have hbi:=hM.at (i:=L.length+1) (b:=.cells [.int .i64 id]) (by simp);have hl02:L.length+2<=L2.length:=(ag8.1 hbi).1;have hst:=hM.ix.st;have hen:=hM.ix.en;have b1:∀c,(L2.set ie c)[L.length]?=some (.cells [.ptr it 0]):=λc=>by rw[ahx λe=>by rw[<- e,hen]at hbx;cases hbx];exact hbx
 have b2:∀c,(L2.set ie c)[it]?=some (.cells [.lmap im,.lmap ie,.lmap ip,.lmap ii]):=λc=>by rw[ahx m2.symm];exact hst
 have b3:∀c,(L2.set ie c)[im]?=some (.map (aT AV.str tyV tm) tm.length):=λc=>by rw[ahx m5.symm];exact hM.ix.ty
 have b5:∀c,(L2.set ie c).length=L2.length:=λc=>by simp
 have hki:bw .int (.int .i64 id)=true:=rfl;replace hM4:=hid hM4;replace hem2:=hid hem2;clear hM3 hM hem hno q4 hes n1 n2 n3 n4 m1 m2 m3 m4 m5 m6 m7 m8 m9 m10 hie hk hlk hall2;refine wk ?_;refine ak (λn T' L'=>∃(seen:List Nat) (ps:TMp),n=(tm.filter λr => !seen.contains r.2.2).length/\Hid (vz tm ps seen)/\Hid (mL L B B1 it im ie ip ii tm (em++[(id,a,ec)]) (ec+1) pm pc dm dc [(L2.length,.miter (some im) tm.length seen tm.length),(L.length+1,.cells [.int .i64 id]),(L.length,.cells [.ptr it 0])] (λf x=>x∈lr (cz id l) f\/(x=id/\f∈ps.map (·.1)/\dM a f≠[])) (λk x=>x∈fD (iV tm) (cz id l) k) L')/\T'=[(41,.ptr L2.length 0),(6,.sl (bo a) a.length none),(4,.ptr (L.length+1) 0),(3,.ptr L.length 0)]) (CutS (b:=by simp)) ⟨[],[],rfl,hid vz.nil,hid (hM4.out.iff λf x _=>by simp),rfl⟩ ?_;clear hM4 b1 b2 b3 b5 hbx hbi hst hen q2 q3;rintro _ _ L' ⟨seen,ps,rfl,hcm,hM,rfl⟩;have hat:=hM.out.at (i:=L2.length) ai4;have hty:=hM.out.ix.ty;have hnl:L2.length+1<=L'.length:=(ag8.1 hat).1;refine br ?_;refine QJ (i:=L2.length) (j:=im) (es:=aT AV.str tyV tm) (by kernel_rfl) rfl hat hty (λe he=>?_) (ag9 _) (λhal2=>?_) (λe he hs=>?_);obtain⟨p,hp,rfl⟩:=ahd.1 he;exact hg.out.ok.lt p hp;have hall2:=hcm.out.all hg.out.ok λx hx=>hal2 (DP AV.str tyV x) (ahd.2 ⟨x,hx,rfl⟩)
 have hx:=hM.out.at (i:=L.length) (b:=.cells [.ptr it 0]) (by simp);have kk1:Hid (∀{K:ag7},(∀L3,EaI (JX it im ie ip ii tm (em++[(id,a,ec)]) (ec+1) pm pc L.length (L.length+1) id (λf x=>x∈lr (cz id l) f\/(x=id/\f∈ps.map (·.1)/\dM a f≠[])) (SC (λk x=>x∈fD (iV tm) (cz id l) k) id)) (λi=>i=L.length\/i=L.length+1\/B1 i) L' [] (λk=>k∈fo (iV tm) a) L3->K (AV.tup []) L3)->ag6 53 [.ptr it 0,.sl (bo a) a.length none,.func 54 [.ptr L.length 0,.ptr (L.length+1) 0]] L' K):=@hid _ (λ{K} q=>by refine acy (JX.dok λks B L k K hj hk=>adY hj hk) hao.out.len hao.out.rise hao.out.sz hg.out.ok hg.out.key (hM.out.jx (by simp) (by simp) λk x=>?_) q;simp[SC])
 replace hall2:=hid hall2;clear hal2 hcm hat hty;refine sk ?_;refine wk ?_;intro L3 he;obtain⟨B',f1,f2,f3⟩:=hM.out.done (by simp) (by simp) he (Zo hri.out) hem2.out (λf x hf=>by
  have h1:f∈ps.map (·.1):=by obtain⟨e,he,rfl⟩:=ahd.1 hf;exact ahd.2 ⟨e,(hall2.out e).2 he,rfl⟩
  rw[Tl,abl];simp only[h1,true_and]) (λks hk k x=>abi hk k x)
 refine a8 (by kernel_rfl) ?_;exact dU rfl trivial (aa (h.out L3 B' f1 f2 f3));obtain⟨p,hp,rfl⟩:=ahd.1 he;clear he;have hs':seen.contains p.2.2=false:=hs;have hlt2:=hid (afd hp hs');have hcm':=hid (hcm.out.next hp);have hmat:=abL (ka:=AV.str) (va:=tyV) (ck:=tm.length) (seen:=seen) hg.out.ok.born hp;have hfr:=hg.out.key p hp;have hpin:p.1∈tm.map (·.1):=ahd.2 ⟨p,hp,rfl⟩;have hM2:=hM.out.turn (.miter (some im) tm.length (seen++[p.2.2]) tm.length) (by simp;omega);obtain⟨fn,ty,bn⟩:=p;simp only[DP]at *;clear hs hs' hcm hM hat hty hp;obtain⟨L4,hL4⟩:=ag2 (L'.set L2.length (Blk.miter (some im) tm.length (seen++[bn]) tm.length));have hl4:L'.length=L4.length:=by rw[<- hL4];simp
 rw[hL4]at hM2⊢;clear hL4;have hat:=hM2.at (i:=L2.length) ai4;have hty:=hM2.ix.ty;obtain⟨vs,hvs⟩:=ag2 (dM a fn);have kk1:Hid (Ctr Tryz.prog 52 [.sl (bo a) a.length none,.str fn] (LE vs)):=@hid _ (λ{L K} q=>acx hao.out.len hao.out.rise hao.out.sz hfr (by rw[hvs];exact q));by_cases hv0:vs=[];have hM3:=hid (hM2.iff (Q':=λf x=>x∈lr (cz id l) f\/(x=id/\f∈(ps++[(fn,ty,bn)]).map (·.1)/\dM a f≠[])) λf x _=>by
  have:f=fn->dM a f=[]:=λe=>by rw[e,hvs,hv0]
  by_cases e:f=fn;simp[this e];simp[e])
 subst hv0;clear hM2 hvs;refine sk ?_;refine wk ?_;exact ah _ _ _ hlt2.out (CutL (b:=by simp;omega)) ⟨_,_,rfl,hcm',hM3,rfl⟩;obtain⟨b,hgb⟩:∃b,cy pm fn=some b:=by
  cases hq:cy pm fn with
  |some b=>exact⟨b,rfl⟩
  |none=>exact absurd ((hM2.ix.pk fn).2 hpin) (vm.1 hq)
 have hBb:B1 b:=(hM2.own b).2 (by simp only[ahc,ahb];exact .inr (.inr (.inr (.inr (.inr (.inl (vQ hgb)))))));obtain⟨xs,ck,s1,s2,s3,s4⟩:=hM2.ix.ps _ _ hgb;have hS:=qy.add s1 (hM2.ix.ps _ _ hgb) id s2 s3 s4;have hM3:=hid ((hM2.ownSet hBb (hM2.ix.pmSet hgb hS)).iff (Q':=λf x=>x∈lr (cz id l) f\/(x=id/\f∈(ps++[(fn,ty,bn)]).map (·.1)/\dM a f≠[])) λf x _=>by by_cases e:f=fn;subst e;rw[if_pos rfl];simp only[ahE,ahb,ahl,aix,ahs,or_true,true_and,hvs];constructor;rintro((q|⟨q,_⟩)|q);exact .inl q;exact .inr ⟨q,hv0⟩;exact .inr ⟨q,hv0⟩;rintro(q|⟨q,_⟩);exact .inl (.inl q);exact .inr q;rw[if_neg e];simp only[ahE,ahb,ahl,aix,ahs,e,or_false])
 obtain⟨j0,w0,y1,y2,_⟩:=qi (va:=AV.lmap) pH (xs:=pm) (k:=fn) 0 hM2.ix.pok.keys ((hM2.ix.pk fn).2 hpin);rw[hgb]at y1;cases y1;rw[air]at y2;have hbx:=hM2.at (i:=L.length) (b:=.cells [.ptr it 0]) (by simp);have hbi:=hM2.at (i:=L.length+1) (b:=.cells [.int .i64 id]) (by simp);have hst:=hM2.ix.st;have hpr:=hM2.ix.pr;have hks:bw .str (.str fn)=true:=rfl;have hv1:(vs.length:Int)>0:=by have:=ain.2 hv0;omega
 have hv2:(0:Int)<(vs.length:Int):=hv1;rcases cU (va:=AV.bool) rn s2 id true with⟨j',w,p1,p2,p3,p4⟩|⟨p1,p2,p3,p4⟩;have hck:ckS xs id ck=ck:=if_pos p4;rw[hck]at hM3;clear hck p1 p4 s2 s3 s4 hS hM2 hgb hBb hvs hv0 hpin;refine sk ?_;refine wk ?_;exact ah _ _ _ hlt2.out (CutL (b:=by simp;omega)) ⟨_,_,rfl,hcm',hM3,rfl⟩;have hck:ckS xs id ck=ck+1:=if_neg p4;rw[hck]at hM3;clear hck p1 p4 s2 s3 s4 hS hM2 hgb hBb hvs hv0 hpin;refine sk ?_;refine wk ?_;exact ah _ _ _ hlt2.out (CutL (b:=by simp;omega)) ⟨_,_,rfl,hcm',hM3,rfl⟩
open Go Go.MapKept
variable {L:List Blk}{K:ag7}
theorem afP{P:Program}{fn:Func}(hf:P.funcs[f]?=some fn)(hb:fn.body.isSome=true)(hn:(fn.name == "runtime.NumGoroutine")=false)(args:Array Value)(w:World):(callFunc f args).run P w=.ok (.enter f args) w:=by
 simp only[callFunc,ahg,run_program,ahh,hf,hn];cases h:fn.body with
 |none=>simp[h]at hb
 |some c=>simp
theorem W9(hi:L[i]?=some (.map es ck))(h:K (.lmap L.length) (L++[.map es ck])):ag6 40 [.lmap i] L K:=λw0 S0 E w vs hR hv=>by simp only[VRL]at hv;obtain⟨v,_,rfl,hv,rfl⟩:=hv;obtain⟨c,rs,hc,rfl,hb,hmr⟩:=IE hR hi hv;refine .inl ⟨afP Tryz.func40 rfl (by kernel_rfl) _ _,(AnyW.maps_Clone Tryz.cloneM c.blk rs ck w hb).mono ?_⟩;rintro e w' ⟨rfl,rfl⟩;have hle:E.le {E with loc:=λj=>if j=L.length then some ⟨w.heap.size,0,0⟩else E.loc j}:=Env.le_loc _ (hR.fresh _ (ag9 _));have r1:=hR.push (.map rs ck) (.map es ck) ⟨w.heap.size,0,0⟩ rfl rfl ⟨⟨w.heap.size,0,0⟩,rs,by simp,by simp,hmr.mono hle⟩;refine⟨_,_,_,_,rfl,r1.1,h,?_,r1.2⟩;simp only[VR];exact⟨⟨w.heap.size,0,0⟩,by simp,rfl⟩
abbrev Ent:=Int×Bool×Nat
variable {xs:List Ent}{p:Ent}
def SJ(p:Ent):AV×AV×Nat:=(.int .i64 p.1,.bool p.2.1,p.2.2)
abbrev gP(xs:List Ent):List (AV×AV×Nat):=xs.map SJ
theorem Z5(q:Nat->Bool)(xs:List Ent)(ck:Nat):Blk.refs q (.map (gP xs) ck)=true:=by simp[Blk.refs,SJ,AV.refs]
theorem Wf:∀(xs:List Ent) (p:Ent) (k:Nat),(xs.map (·.1)).Nodup->p∈xs->∃j,dW (.int .i64 p.1) (gP xs) k=some (some (k+j,.bool p.2.1))/\(gP xs).eraseIdx j=gP (xs.filter λr=>decide (r.1≠p.1))
 |[],p,k,_,h=>by cases h
 | x::xs,p,k,hn,h=>by
   rw[ahl,ah6]at hn;by_cases hx:p.1=x.1
   .have hp:p=x:=by
     rcases ahc.1 h with h|h
     .exact h
     .exact absurd (ahd.2 ⟨p,h,hx⟩) hn.1
    subst hp;refine⟨0,by simp[gP,SJ,dW,vh],?_⟩;have hf:xs.filter (λr=>decide (r.1≠p.1))=xs:=ajq.2 λr hr=>by
     have:r.1≠p.1:=λe=>hn.1 (ahd.2 ⟨r,hr,e⟩)
     simpa using this
    simp only[ahl,List.eraseIdx_zero,List.tail_cons,ajh,ne_eq,not_true_eq_false,decide_false,ahp,if_false];simp only[ne_eq]at hf;rw[hf]
   .have hm:p∈xs:=by
     rcases ahc.1 h with h|h
     .exact absurd (by rw[h]) hx
     .exact h
    obtain⟨j,h1,h2⟩:=Wf xs p (k+1) hn.2 hm;refine⟨j+1,?_,?_⟩
    .simp only[gP,ahl,SJ,dW,vh,if_true,decide_eq_false hx];simp only[gP]at h1;rw[h1,show k+1+j=k+(j+1)by omega]
    .have hx':x.1≠p.1:=λe=>hx e.symm
     simp only[gP,ahl,List.eraseIdx_cons_succ,ajh,hx',ne_eq,not_false_eq_true,decide_true,if_true];simp only[gP,ne_eq]at h2;rw[h2]
theorem ad4(hb:(xs.map (·.2.2)).Nodup)(hp:p∈xs):mat (gP xs) ck (seen++[p.2.2]) ck=some (.int .i64 p.1,.bool p.2.1,p.2.2):=by
 have key:∀xs:List Ent,(xs.map (·.2.2)).Nodup->p∈xs->(gP xs).find? (λe=>Nat.beq e.2.2 p.2.2)=some (SJ p):=by
  intro xs;induction xs with
  |nil=>intro _ h;cases h
  | cons x xs ih =>
    intro hn h;rw[ahl,ah6]at hn;rcases ahc.1 h with h|h
    .subst h;simp[gP,SJ]
    .have hne:x.2.2≠p.2.2:=λe=>hn.1 (ahd.2 ⟨p,h,e.symm⟩)
     have hbq:Nat.beq x.2.2 p.2.2=false:=by
      cases hh:Nat.beq x.2.2 p.2.2 with
      |false=>rfl
      |true=>exact absurd (aj8 hh) hne
     simp only[gP,ahl,aim];rw[show Nat.beq (SJ x).2.2 p.2.2=false from hbq];exact ih hn.2 h
 simp only[mat,List.getLast?_append,List.getLast?_singleton,Option.some_or,if_true];exact key xs hb hp
def acX(f:FuncId)(caps:List AV)(ok:List Blk->Prop)(q:Int->Bool):Prop:=∀(L:List Blk) (x:Int) (b:Bool) (K:AV->List Blk->Prop),ok L->K (.bool (q x)) L->ag6 f ([.int .i64 x,.bool b]++caps) L K
def D2(xs:List Ent)(q:Int->Bool)(seen:List Nat):List Ent:=xs.filter λp => !(seen.contains p.2.2&&q p.1)
theorem ID{X Y:Type}{f:X->Y}:∀{l:List X},(l.map f).Nodup->∀{a b:X},a∈l->b∈l->f a=f b->a=b
 | x::l,h,a,b,ha,hb,e=>by
   rw[ahl,ah6]at h;rcases ahc.1 ha with h1|h1
   .rcases ahc.1 hb with h2|h2
    .rw[h1,h2]
    .exact absurd (ahd.2 ⟨b,h2,by rw[<- e,h1]⟩) h.1
   .rcases ahc.1 hb with h2|h2
    .exact absurd (ahd.2 ⟨a,h1,by rw[e,h2]⟩) h.1
    .exact ID h.2 h1 h2 e
theorem aaS(hk:(xs.map (·.1)).Nodup)(hb:(xs.map (·.2.2)).Nodup)(hp:p∈xs)(hq:q p.1=true):(D2 xs q seen).filter (λr=>decide (r.1≠p.1))=D2 xs q (seen++[p.2.2]):=by
 unfold D2;rw[List.filter_filter];refine ajI λr hr=>?_
 by_cases e:r=p;subst e;simp[hq];have e1:r.1≠p.1:=λh=>e (ID hk hr hp h)
 have e2:r.2.2≠p.2.2:=λh=>e (ID (f:=λx:Ent=>x.2.2) hb hr hp h)
 simp[e1,e2]
theorem adC(hb:(xs.map (·.2.2)).Nodup)(hp:p∈xs)(hq:q p.1=false):D2 xs q (seen++[p.2.2])=D2 xs q seen:=by
 unfold D2;refine ajI λr hr=>?_
 by_cases e:r=p;subst e;simp[hq];have e2:r.2.2≠p.2.2:=λh=>e (ID (f:=λx:Ent=>x.2.2) hb hr hp h)
 simp[e2]
theorem aaT(h:∀e∈gP (D2 xs q seen),seen.contains e.2.2=true):D2 xs q seen=xs.filter λp => !q p.1:=by
 unfold D2 at h⊢;refine ajI λr hr=>?_
 cases hq:q r.1 with
 |false=>simp
 | true =>
   have:seen.contains r.2.2=true:=by
    cases hs:seen.contains r.2.2 with
    |true=>rfl
    | false =>
      have:=h (SJ r) (ahd.2 ⟨r,ahI.2 ⟨hr,by simp only[hs,aiE,aiX]⟩,rfl⟩);rw[show(SJ r).2.2=r.2.2 from rfl,hs]at this;exact this
   simp only[this,ah7]
theorem YU(hp:p∈xs)(hs:seen.contains p.2.2=false):(xs.filter λr => !(seen++[p.2.2]).contains r.2.2).length<(xs.filter λr => !seen.contains r.2.2).length:=by
 have e:(xs.filter λr => !(seen++[p.2.2]).contains r.2.2)=(xs.filter λr => !seen.contains r.2.2).filter (λr=>decide (r.2.2≠p.2.2)):=by
  rw[List.filter_filter];refine ajI λr _=>?_
  by_cases h:r.2.2=p.2.2<;>simp[h]
 rw[e];refine akf.2 ⟨p,ahI.2 ⟨hp,by rw[hs];rfl⟩,by simp⟩
theorem Yn{caps:List AV}{ok:List Blk->Prop}(hq:acX f caps ok q)(hok:∀l c y,ok (L.set i (.map l c)++[y]))(hk:(xs.map (·.1)).Nodup)(hb:(xs.map (·.2.2)).Nodup)(hc:∀p∈xs,p.2.2<ck)(hi:L[i]?=some (.map (gP xs) ck))(h:K (.tup []) (L.set i (.map (gP (xs.filter λp => !q p.1)) ck))):
  ag6 42 [.lmap i,.func f caps] L K:=by
 have hil:i<L.length:=(ag8.1 hi).1;have hset:L.set i (.map (gP xs) ck)=L:=by
  apply aiB;intro j;rw[ahv];split;rename_i e;subst e
  first|exact hi.symm|(rw[if_pos hil];exact hi.symm)
  rfl
 replace h:=hid h;replace hq:=hid hq;replace hok:=hid hok;replace hk:=hid hk;replace hb:=hid hb;replace hc:=hid hc;replace hset:=hid hset;refine ag5 er ?_;have e0:D2 xs q []=xs:=by simp[D2]
 refine ak (λn T' L'=>∃(seen:List Nat),n=(xs.filter λr => !seen.contains r.2.2).length/\T'=[(7,.ptr L.length 0),(0,.lmap i),(1,.func f caps)]/\L'=L.set i (.map (gP (D2 xs q seen)) ck)++[.miter (some i) ck seen ck]) (CutS (b:=by simp)) ⟨[],rfl,rfl,by rw[e0,hset.out]⟩ ?_;clear hi e0;rintro _ _ _ ⟨seen,rfl,rfl,rfl⟩;have i1:∀A B,(L.set i A++[B])[L.length]?=some B:=λA B=>by simp
 have i2:∀A B,(L.set i A++[B])[i]?=some A:=λA B=>by rw[ahi (by simpa using hil)];simp[hil]
 have i3:∀A B C,(L.set i A++[B]).set L.length C=L.set i A++[C]:=λA B C=>by have:=vA (L.set i A) B C [];rwa[aj1]at this
 have i4:∀A B C,(L.set i A++[B]).set i C=L.set i C++[B]:=λA B C=>by rw[ahY _ _ (by simpa using hil),ais]
 refine br ?_;refine QJ (i:=L.length) (j:=i) (es:=gP (D2 xs q seen)) (by kernel_rfl) rfl (i1 _ _) (i2 _ _) (λe he=>?_) (ag9 _) (λhall=>?_) (λe he hs=>?_);obtain⟨p,hp,rfl⟩:=ahd.1 he;exact hc.out p (ahI.1 hp).1
 .have hfin:=h.out;rw[<- aaT hall]at hfin;replace hfin:=hid hfin;clear hall;refine sk ?_
  repeat' first
   |refine br ?_
   | (first|refine bh (by kernel_rfl) ?_|refine aH (by kernel_rfl) ?_|refine aK ?_|refine cO ?_|refine bB (fun _=>?_)|refine aB ?_|refine bm ?_)
     refine sm ?_
   | (first|refine a8 (by kernel_rfl) ?_|refine bc ?_|refine aJ ?_|refine bj ?_|refine bG (aA ?_))
     refine sl ?_
   |exact bC
   |first|apply bD|apply be|apply bE|apply bf|apply bF|apply bg
   |refine aN ?_
   |refine aI ?_
   |first|refine aL rfl ?_|refine aM rfl ?_|refine aw rfl ?_ ?_|refine aQ rfl (λ_=>?_) (λ_=>?_)|refine aP rfl (λ_=>?_) (λ_=>?_)
   |((first|refine au (λ_=>?_) (λ_=>?_)|refine az (λ_=>?_) (λ_=>?_))<;>try refine sm ?_)
   |refine And.intro trivial ?_
   |refine And.intro (by omega) ?_
   |refine aU rfl (λ_=>?_) (λ_=>?_)
   |refine And.intro ?_ ?_
  exact .inl rfl;refine⟨True,[],rfl,trivial,?_⟩;refine fq (L0:=L) (L1:=L.set i (.map (gP (D2 xs q seen)) ck)) (by simp) (λhw k hk'=>?_) rfl hfin.out;rcases ajo hk' with h1|h1;exact hw k h1;rw[h1];exact Z5 _ _ _
 obtain⟨p,hp,rfl⟩:=ahd.1 he;clear he;have hpx:=(ahI.1 hp).1;have hs':seen.contains p.2.2=false:=hs;have hlt:=hid (YU hpx hs');have hsub:(D2 xs q seen).Sublist xs:=ai9;have hmat:=ad4 (ck:=ck) (seen:=seen) (List.Nodup.sublist (hsub.map (λx:Ent=>x.2.2)) hb.out) hp;obtain⟨jj,hj1,hj2⟩:=Wf (D2 xs q seen) p 0 (List.Nodup.sublist (hsub.map (λx:Ent=>x.1)) hk.out) hp;have hy:=hid (λhq'=>aaS (seen:=seen) hk.out hb.out hpx (q:=q) hq');have hn:=hid (λhq'=>adC (seen:=seen) hb.out hpx (q:=q) hq');rw[air]at hj1;obtain⟨x,b,m⟩:=p;simp only[SJ]at *;clear hs hs' hsub hp;simp only[i3];have hkf:bw .int (.int .i64 x)=true:=rfl;have hle:(L++[Blk.miter (some i) ck [] ck]).length<=(L.set i (Blk.map (gP (D2 xs q seen)) ck)++[Blk.miter (some i) ck (seen++[m]) ck]).length:=by simp
 replace hle:=hid hle;refine sk ?_;refine wk ?_;refine hq.out _ _ _ _ (hok.out _ _ _) ?_;refine sk ?_;rcases hqx:q x with _|_;have e1:=hid (hn.out hqx);refine wk ?_;refine ah _ _ _ hlt.out (CutS (b:=by simp)) ⟨seen++[m],rfl,rfl,?_⟩;rw[e1.out];have e1:=hid (hy.out hqx);refine wk ?_;refine ah _ _ _ hlt.out (CutS (b:=by simp)) ⟨seen++[m],rfl,rfl,?_⟩;rw[<- e1.out]
def V0(es:List (AV×AV×Nat))(x:Int):Option Bool:=match dW (.int .i64 x) es 0 with
 |some (some (_,.bool b))=>some (!b)
 |some none=>some true
 |_=>none
theorem Xf{j:Nat}(q:Int->Bool)(hes:∀x,V0 es x=some (q x)):acX 43 [.ptr ip 0] (λL=>L[ip]?=some (.cells [.lmap j])/\L[j]?=some (.map es ck)) q:=λL x b K hok h=>by obtain⟨h1,h2⟩:=hok;replace h:=hid h;have hx:=hes x;clear hes;unfold V0 at hx;have hkf:bw .int (.int .i64 x)=true:=rfl;refine ad iR (by simp[dj]) ?_;simp only[dj,am];split at hx;rename_i jj y hm;simp only[aha]at hx;replace hx:=hid hx;refine wk ?_;have h':=h.out;rw[<- hx.out]at h';exact aa h';rename_i hm;simp only[aha]at hx;replace hx:=hid hx;refine wk ?_;have h':=h.out;rw[<- hx.out]at h';exact aa h';cases hx
theorem ZA :acX 43 [.ptr ip 0] (λL=>L[ip]?=some (.cells [.nilmap])) (λ_=>true):=λL x b K hok h=>by replace h:=hid h;have hkf:bw .int (.int .i64 x)=true:=rfl;refine ag5 iR ?_;exact aa h.out
open Go Go.Proofs Go.RowKit Go.Maps Go.Sort Go.Shelf
theorem Th(m:Nat):AnyZI.SortsIn Tryz.prog Tryz.sortedA_ren Fence.wide m :=
 ⟨λblk off cap ss W hH hblk hsz=>callsIn_wide.2 (Tryz.slices_Sort_int blk off cap ss W hH hblk hsz),
  λp cap W=>callsIn_wide.2 (Tryz.slices_Sort_int_none p cap W)⟩
set_option maxHeartbeats 2000000 in
theorem Zh{H:Type}(b nn:Nat)(D0:DataW H)(R:Value->Option (DataW H×List MemPlace))(w:World)(hown:w.ownsMap Tryz.prog 3 R b nn D0)(hmax:Maps.size D0<=maxLen)(hbytes:Maps.size D0*8<=140737488355328):
  Calls Tryz.prog 44 #[.map (some b)] w λe w'=>∃(v:Value) (ss:List Int),e=.returned v/\ss.Perm (intKeys D0) /\
   w'.ownsRow w.heap.size 3 1 v ss.length ((ss.mergeSort (λx y=>decide (x<=y))).map encZ)/\(v=.slice none 0 0↔ss=[])/\Below w.heap.size w w':=by
 refine(callsIn_wide (n:=6)).1 ?_;have hbl:=hown.lt;have hseq:SeqGives Fence.wide 2 Tryz.prog 129 #[.pointer (some ⟨w.heap.size,0,none⟩)] encZ (λss=>ss.Perm (intKeys D0)) (Maps.size D0) (w.alloc (.cells #[.map (some b)] 101)):=
  AnyZI.keys_gives (ρ:=Tryz.keysA_ren) {Tryz.keysA with} Fence.wide _ trivial rfl (by omega) w.heap.size b nn D0 _ (by simp) (by simp) (by obtain⟨es,clock,hb,Ft,hs,hD⟩:=hown;exact⟨es,clock,(Below.heap_alloc _ _ b hbl).trans hb,Ft,hs,hD⟩)
 have cK:∀mb W,CallsIn Fence.wide 5 Tryz.prog 88 #[.map mb] W λe w'=>e=.returned (.func (.func 129) #[] #[.pointer (some ⟨W.heap.size,0,none⟩)])/\w'=W.alloc (.cells #[.map mb] 101):=λmb W=>AnyZI.keys_in Tryz.keysA Fence.wide 5 trivial rfl mb W
 have cS:=AnyZI.sorted_in Tryz.sortedA Fence.wide 5 trivial trivial trivial trivial rfl (by omega) (Th _) (enters_of Tryz.func105 (by kernel_rfl) rfl) 129 #[.pointer (some ⟨w.heap.size,0,none⟩)] trivial (enters_of Tryz.func129 (by kernel_rfl) rfl) _ _ hmax hbytes _ hseq;change CallsIn _ _ Tryz.prog 55 _ _ _ at cS;have hfK:Fence.wide.fn 88:=trivial;have hfS:Fence.wide.fn 55:=trivial;refine callsIn_of_wp Tryz.func44 rfl trivial ?_ rfl;simp only[Tryz.ntmps44,ajM,ahj,ahX,Nat.reduceAdd,Nat.reduceSub,Array.replicate_succ,Array.replicate_zero,List.push_toArray,List.append_toArray,ahJ,ahL]
 gi_wp2_with (first
  |(gi_at_call 88;refine(cK _ _).mono ?_;rintro e w' ⟨rfl,rfl⟩)
  |(gi_at_call 55;refine cS.mono ?_;rintro e w' ⟨v,ss,rfl,hS,hrow,hnil,hb⟩))
 go_ret
 exact⟨v,ss,rfl,hS,ownsRow_base_a hrow (by simp),hnil,((Below.refl _ w).alloc (ag9 _) _).trans (hb.mono (by simp))⟩
theorem SA(w:World):Calls Tryz.prog 44 #[.map none] w λe w'=>e=.returned (.slice none 0 0)/\Below w.heap.size w w':=by
 refine(callsIn_wide (n:=6)).1 ?_;have hseq:SeqGives Fence.wide 2 Tryz.prog 129 #[.pointer (some ⟨w.heap.size,0,none⟩)] encZ (λss:List Int=>ss=[]) 0 (w.alloc (.cells #[.map none] 101)):=
  AnyZI.keys_gives_nil (ρ:=Tryz.keysA_ren) {Tryz.keysA with} Fence.wide _ trivial rfl w.heap.size _ (by simp) (by simp)
 have cK:∀mb W,CallsIn Fence.wide 5 Tryz.prog 88 #[.map mb] W λe w'=>e=.returned (.func (.func 129) #[] #[.pointer (some ⟨W.heap.size,0,none⟩)])/\w'=W.alloc (.cells #[.map mb] 101):=λmb W=>AnyZI.keys_in Tryz.keysA Fence.wide 5 trivial rfl mb W
 have cS:=AnyZI.sorted_in Tryz.sortedA Fence.wide 5 trivial trivial trivial trivial rfl (by omega) (Th _) (enters_of Tryz.func105 (by kernel_rfl) rfl) 129 #[.pointer (some ⟨w.heap.size,0,none⟩)] trivial (enters_of Tryz.func129 (by kernel_rfl) rfl) _ 0 (ahf _) (by omega) _ hseq;change CallsIn _ _ Tryz.prog 55 _ _ _ at cS;have hfK:Fence.wide.fn 88:=trivial;have hfS:Fence.wide.fn 55:=trivial;refine callsIn_of_wp Tryz.func44 rfl trivial ?_ rfl;simp only[Tryz.ntmps44,ajM,ahj,ahX,Nat.reduceAdd,Nat.reduceSub,Array.replicate_succ,Array.replicate_zero,List.push_toArray,List.append_toArray,ahJ,ahL]
 gi_wp2_with (first
  |(gi_at_call 88;refine(cK _ _).mono ?_;rintro e w' ⟨rfl,rfl⟩)
  |(gi_at_call 55;refine cS.mono ?_;rintro e w' ⟨v,ss,rfl,rfl,hrow,hnil,hb⟩;obtain rfl:v=.slice none 0 0:=hnil.2 rfl))
 go_ret
 exact⟨rfl,((Below.refl _ w).alloc (ag9 _) _).trans (hb.mono (by simp))⟩
theorem Rel.grownNew{w0:World}{S0:SB}{E:Env}{w w':World}(h:Rel w0 S0 E L w)(g:rT w w'):
  ∃E',E.le E'/\Rel w0 S0 E' L w'/\∀b o v,w.heap.size<=b->w'.cell? ⟨b,o,none⟩=some v->E'.mem b o=some v:=by
 have h':=h.grown g;have hle:E.le {E with mem:=λb o=>if w.heap.size<=b then w'.cell? ⟨b,o,none⟩else E.mem b o}:=⟨λb o v hv=>by show(if w.heap.size<=b then w'.cell? ⟨b,o,none⟩else E.mem b o)=some v;have:=h.mem_lt hv;rw[if_neg (by omega)];exact hv,λ_ _ x=>x,λ_ t ht=>⟨t,ht,.inl rfl⟩⟩
 refine⟨_,hle,⟨λb o v hv=>?_,λi k hk=>?_,h'.fresh,λi k c hk hl hc=>⟨λo=>?_,(h'.own i k c hk hl hc).2⟩,h'.inj,h'.tkfresh,λi n sz t d hi ht hd=>⟨λo ho=>?_,(h'.tkown i n sz t d hi ht hd).2⟩,h'.tkloc,h'.tkinj,h'.frame,h'.size,h'.os,h'.tape,h'.output,h'.glob.mono hle.mem,h'.gsz⟩,λb o v hb hv=>?_⟩;have hv:(if w.heap.size<=b then w'.cell? ⟨b,o,none⟩else E.mem b o)=some v:=hv;split at hv;exact hv;exact h'.mem b o v hv;rcases hl:k.live with _|_;exact bt.still (E:=E) hl rfl (λ_ _ _ _ _ _ _=>rfl) (h'.blk i k hk);exact bt.mono hle hl (h'.blk i k hk);have hc:E.loc i=some c:=hc;show(if w.heap.size<=c.blk then w'.cell? ⟨c.blk,o,none⟩else E.mem c.blk o)=none;have:=h.loc_lt hk hl hc;rw[if_neg (by omega)];exact(h.own i k c hk hl hc).1 o;have ht:E.tok i=some t:=ht;show(if w.heap.size<=d.blk then w'.cell? ⟨d.blk,o,none⟩else E.mem d.blk o)=none;have:=h.tok_lt hi ht hd;rw[if_neg (by omega)];exact(h.tkown i n sz t d hi ht hd).1 o ho;show(if w.heap.size<=b then w'.cell? ⟨b,o,none⟩else E.mem b o)=some v;rw[if_pos hb];exact hv
theorem Uj{P:Program}{fn:Func}(hf:P.funcs[f]?=some fn)(hb:fn.body.isSome=true)(hn:(fn.name == "runtime.NumGoroutine")=false){args:List AV}{r:AV}(hc:∀ (w0:World) (S0:SB) (E:Env) (w:World) (vs:List Value),Rel w0 S0 E L w->VRL E args vs->Calls P f ⟨vs⟩ w fun e w'=>∃ v,e=.returned v/\rT w w'/\∀ E':Env,E.le E'->(∀ b o v,w.heap.size<=b->w'.cell? ⟨b,o,none⟩=some v->E'.mem b o=some v)->VR E' r v)(hk:K r L):ab P f args L K:=fun w0 S0 E w vs hR hv=>by
 refine .inl ⟨?_,(hc w0 S0 E w vs hR hv).mono λe w' ⟨v,h1,h3,h2⟩=>by obtain⟨E',g1,g2,g3⟩:=hR.grownNew h3;exact⟨E',v,r,L,h1,g1,hk,h2 E' g1 g3,g2⟩⟩
 simp only[callFunc,ahg,run_program,ahh,hf,hn];cases h:fn.body with
 |none=>simp[h]at hb
 |some c=>simp
open Go.RowKit Go.Maps Go.Sort Go.MapKept in
theorem aa8{ks:List Int}(hi:L[i]?=some (.map es ck))(hks:vI es=some ks)(hf:Qz es ck ks=true)(h:K (.sl ((eg ks).map (AV.int .i64)) ks.length none) L):ag6 44 [.lmap i] L K:=by
 refine Uj Tryz.func44 rfl (by kernel_rfl) (λw0 S0 E w vs hR hv=>?_) h;simp only[VRL]at hv;obtain⟨v,_,rfl,hv,rfl⟩:=hv;obtain⟨c,rs,hc,rfl,hb,hm⟩:=IE hR hi hv;obtain⟨hk1,hk2⟩:=TA hm hks;simp only[Qz,ahe,ahk,decide_eq_true_eq]at hf;obtain⟨⟨⟨⟨f1,f2⟩,f3⟩,f4⟩,f5⟩:=hf;have hlen:rs.size=es.length:=by have:=ao.len hm;simpa using this
 have hkl:ks.length=es.length:=by have:=congrArg List.length hk1;simp at this;omega
 have hkey:∀(k:Int),k∈ks->keyOf Tryz.prog 3 (.int .i64 k)=some (.int .i64 k):=λk hk=>by
  have hw:(Lit.int .i64 k).wf=true:=by have:=f1 k hk;simp only[Lit.wf,ahe,decide_eq_true_eq];exact this
  unfold keyOf mapKey;rw[show(Tryz.prog).underlying 3=some (.int .i64)from Tryz.underlying3];simp[hw]
 have hmem:∀x∈rs.toList,∃k,k∈ks/\x.key=.int .i64 k:=λx hx=>by have:x.key∈rs.toList.map (·.key):=ahd.2 ⟨x,hx,rfl⟩;rw[hk1]at this;obtain⟨k,h1,h2⟩:=ahd.1 this;exact⟨k,h1,h2.symm⟩
 have hrd:∀x∈rs.toList,∀k,k∈ks->x.key=.int .i64 k->Go.WideElems.rd Tryz.prog 3 (λ_=>some ((.nil:DataW Unit),[])) x=some (.int .i64 k,.nil):=λx hx k hk e=>by simp[Go.WideElems.rd,e,hkey k hk]
 have hown:w.ownsMap Tryz.prog 3 (λ_=>some ((.nil:DataW Unit),[])) c.blk rs.size (.map ((rs.toList.map (Go.WideElems.rg Tryz.prog 3 (λ_=>some ((.nil:DataW Unit),[])))).foldr DataW.insert [])):=by refine⟨rs,ck,hb,⟨by simp only[maxLen];omega,⟨λx hx=>?_,?_,?_⟩,λx hx=>?_⟩,ag9 _,rfl⟩;have:x.born∈rs.toList.map (·.born):=ahd.2 ⟨x,hx,rfl⟩;rw[hk2]at this;obtain⟨e,h1,h2⟩:=ahd.1 this;rw[<- h2];exact f4 e h1;rw[hk2];exact Tv f3;rw[hk1];exact List.Pairwise.map (Value.int .i64) (λa b hab e=>hab (by simpa using e)) (Tt f2);obtain⟨k,h1,h2⟩:=hmem x hx;exact⟨_,hrd x hx k h1 h2⟩
 have hperm:(intKeys (.map ((rs.toList.map (Go.WideElems.rg Tryz.prog 3 (λ_=>some ((.nil:DataW Unit),[])))).foldr DataW.insert []))).Perm ks:=by
  have e1:(rs.toList.map (Go.WideElems.rg Tryz.prog 3 (λ_=>some ((.nil:DataW Unit),[])))).map (λp=>_root_.Go.intOf p.1)=ks:=by
   have e2:rs.toList.map (λx=>_root_.Go.intOf ((Go.WideElems.rg Tryz.prog 3 (λ_=>some ((.nil:DataW Unit),[]))) x).1)=rs.toList.map λx=>(match x.key with|.int _ n=>n|_=>0):=by
    refine aiT λx hx=>?_
    obtain⟨k,h1,h2⟩:=hmem x hx;rw[Go.WideElems.rg_of (hrd x hx k h1 h2),h2];rfl
   simp only[ahK,ajA];rw[e2];have e3:(rs.toList.map (·.key)).map (λv:Value=>match v with|.int _ n=>n|_=>0)=ks:=by rw[hk1,ahK];exact List.map_id' ks
   simp only[ahK,ajA]at e3;exact e3
  have:=(WideShapes.sorted_perm (rs.toList.map (Go.WideElems.rg Tryz.prog 3 (λ_=>some ((.nil:DataW Unit),[]))))).map (λp=>_root_.Go.intOf p.1);rw[e1]at this;exact this
 have hsz:Maps.size (.map ((rs.toList.map (Go.WideElems.rg Tryz.prog 3 (λ_=>some ((.nil:DataW Unit),[])))).foldr DataW.insert []))=rs.size:=by rw[Maps.size_eq,(WideShapes.sorted_perm _).length_eq];simp
 refine(Zh c.blk rs.size _ _ w hown (by rw[hsz];simp only[maxLen];omega) (by rw[hsz];omega)).mono ?_;rintro e w' ⟨v,ss,rfl,hS,hrow,hnil,hbel⟩;refine⟨v,rfl,⟨λb hb=>hbel.block b hb,hbel.size,hbel.os,hbel.tape,hbel.output⟩,λE' hE hnew=>?_⟩;have hp:ss.Perm ks:=hS.trans hperm;have hms:ss.mergeSort (λx y=>decide (x<=y))=eg ks:=by rw[<- TI];exact mergeSort_of_perm_i hp
 rw[hms]at hrow;have hl2:ss.length=ks.length:=hp.length_eq;simp only[VR];rcases hrow.2 with⟨rfl,hz⟩|⟨g,cap,cur,rfl,hg,hcur,h1,h2,h3,h4⟩;refine⟨none,0,by rw[hl2]at hz;rw[hz],by omega,(λk hk=>by cases hk),.inl ⟨by omega,rfl,?_⟩⟩;have:(eg ks).length=0:=by rw[(cQ ks).length_eq];omega
 rw[ahH.1 this];rfl;refine⟨some ⟨g,0,none⟩,cap,by rw[hl2],by omega,(λk hk=>by cases hk),.inr ⟨g,0,rfl,VRC.of_get λj a ha=>?_⟩⟩;obtain⟨z,hz,rfl⟩:=ahA.1 (ahS ..▸ha);refine⟨.int .i64 z,?_,by simp[VR]⟩;refine hnew g (0+j) _ hg ?_;have hj:j<(eg ks).length:=(ag8.1 hz).1;have h5:(cur.toList.take (ss.length*1))[j]?=some (Value.int .i64 z):=by rw[h4,ahS,hz];rfl
 rw[List.getElem?_take]at h5;split at h5;simp only[World.cell?,hcur];simpa using h5;cases h5
theorem WR(h:K (.sl [] 0 (some 0)) L):ag6 44 [.nilmap] L K:=by refine Uj Tryz.func44 rfl (by kernel_rfl) (λw0 S0 E w vs hR hv=>?_) h;simp only[VRL,VR]at hv;obtain⟨_,_,rfl,rfl,rfl⟩:=hv;refine(SA w).mono ?_;rintro e w' ⟨rfl,hbel⟩;refine⟨_,rfl,⟨λb hb=>hbel.block b hb,hbel.size,hbel.os,hbel.tape,hbel.output⟩,λE' hE hnew=>?_⟩;simp only[VR];exact⟨none,0,rfl,ag9 _,(λk hk=>by cases hk;rfl),.inl (by simp)⟩
abbrev pW(l:List Int):AV:=.sl (l.map (AV.int .i64)) l.length none
structure Ok(l:List bd):Prop where
 len:l.length<=1000
 rng:∀e∈l,-9223372036854775808<=e.1/\e.1<=9223372036854775807
def Vt(tm:TMp)(l:List bd)(n:List UInt8):List Int:=match cy tm (af n)with
 |none=>[]
 |some _=>lr l (af n)
def acv(tm:TMp)(l:List bd)(n v:List UInt8):List Int:=match cy tm (af n)with
 |none=>[]
 |some ty=>aeq (iV tm) l (af n) ty.2.1 v
def ad7(tm:TMp)(l:List bd)(n:List UInt8)(ps:List Pc):List Int:=match cy tm (af n)with
 |none=>[]
 |some ty=>Qa (iV tm) l (af n) ty.2.1 ps
theorem Yd(h:Ok l){f:List UInt8}:(∀x∈lr l f,-9223372036854775808<=x/\x<=9223372036854775807)/\(lr l f).length<=1000:=by refine⟨λx hx=>?_,?_⟩;obtain⟨a,h1,_⟩:=u7.1 hx;exact h.rng _ h1;unfold lr;rw[ahP];exact ahy (ai0 _ _) h.len
theorem aeg{tys:List (List UInt8×Int)}(h:Ok l):(∀x∈fD tys l k,-9223372036854775808<=x/\x<=9223372036854775807)/\(fD tys l k).length<=1000:=by refine⟨λx hx=>?_,?_⟩;obtain⟨a,h1,_⟩:=qg.1 hx;exact h.rng _ h1;unfold fD;rw[ahP];exact ahy (ai0 _ _) h.len
theorem UH{b:Nat}{P:Int->Prop}(h:qy L b P){l:List Int}(hl:l.Pairwise (· < ·))(hp:∀x,P x↔x∈l)(hi:(∀x∈l,-9223372036854775808<=x/\x<=9223372036854775807)/\l.length<=1000)(hk:K (pW l) L):ag6 44 [.lmap b] L K:=by obtain⟨es,ck,ks,h1,h2,h3,h4,h5⟩:=h.rise hl hp hi.1 hi.2;refine aa8 h1 h2 h3 ?_;rw[h4,h5];exact hk
theorem NZ{tm:TMp}(ho:IxO L it tm l B)(hn:a7 n)(h:K (.bool (cy tm (af n)).isSome) L):ag6 11 [.ptr it 0,.str n] L K:=by
 obtain⟨im,ie,ip,ii,em,ec,pm,pc,dm,dc,h1,h2,h3,h4⟩:=ho;obtain⟨f,hf⟩:=ag2 (af n);have kk1:Hid (Ctr Tryz.prog 38 [.str n] (.str f)):=@hid _ (by intro L K q;exact fC hn (by rw[hf];exact q));rw[hf]at h;have hst:∀X,(L++X)[it]?=some (.cells [.lmap im,.lmap ie,.lmap ip,.lmap ii]):=λX=>(h1.more X).st
 have hty:∀X,(L++X)[im]?=some (.map (aT AV.str tyV tm) tm.length):=λX=>(h1.more X).ty
 have hst0:=h1.st;have hty0:=h1.ty;have hks:bw .str (.str f)=true:=rfl;rcases cU (va:=tyV) pH h1.tok f oM with⟨j,⟨w1,w2,w3,w4⟩,q1,q2,_⟩|⟨q1,q2,_⟩;rw[q1]at h;simp only[aiM]at h;replace h:=hid h;clear h1 h2 h3 h4 q1;refine ag5 oJ ?_;refine⟨aC (kk1.out ⟨rfl,rfl⟩) rfl,?_⟩;refine wk ?_;exact ae rfl h.out;rw[q1]at h;simp only[aiG]at h;replace h:=hid h;clear h1 h2 h3 h4 q1;refine ag5 oJ ?_;refine⟨aC (kk1.out ⟨rfl,rfl⟩) rfl,?_⟩;refine wk ?_;exact ae rfl h.out
theorem abS{tm:TMp}(ho:IxO L it tm l B)(hi:Ok l)(hn:a7 n)(h:K (pW (Vt tm l n)) L):ag6 14 [.ptr it 0,.str n] L K:=by
 have kk1:Hid (∀{K:ag7},K (.bool (cy tm (af n)).isSome) L->ag6 11 [.ptr it 0,.str n] L K):=@hid _ (λ{K} q=>NZ ho hn q);have hr:=ho.rise;obtain⟨im,ie,ip,ii,em,ec,pm,pc,dm,dc,h1,h2,h3,h4⟩:=ho;unfold Vt at h;obtain⟨f,hf⟩:=ag2 (af n);have kk2:Hid (Ctr Tryz.prog 38 [.str n] (.str f)):=@hid _ (by intro L K q;exact fC hn (by rw[hf];exact q));rw[hf]at h kk1;have hst:=h1.st;have hpr:=h1.pr;have hks:bw .str (.str f)=true:=rfl;cases hg:cy tm f with
 | none =>
   rw[hg]at h kk1;simp only[aiG]at kk1;replace h:=hid h;clear h1 h2 h3 h4 hg hr;refine ag5 gS ?_;exact ba (aa h.out)
 | some ty =>
   rw[hg]at h kk1;simp only[aiM]at kk1;have hfm:f∈pm.map (·.1):=(h1.pk f).2 (by obtain⟨c,hc⟩:=kV hg;exact ahd.2 ⟨_,hc,rfl⟩)
   obtain⟨j,b,q1,q2,_⟩:=qi (va:=AV.lmap) pH 0 h1.pok.keys hfm;rw[air]at q2;obtain⟨R,hR⟩:=ag2 (lr l f);have kk3:Hid (∀{K:ag7},K (pW R) L->ag6 44 [.lmap b] L K):=@hid _ (λ{K} q=>UH (h1.ps f b q1) (IC hr) (λx=>Iff.rfl) (Yd hi) (by rw[hR];exact q));simp only[hR]at h;replace h:=hid h;clear h1 h2 h3 h4 hg hr q1 hfm hR;refine ag5 gS ?_;exact aa h.out
theorem aec{tm:TMp}(ho:IxO L it tm l B)(hi:Ok l){v:List UInt8}(hn:a7 n)(h:K (pW (acv tm l n v)) L):ag6 18 [.ptr it 0,.str n,.str v] L K:=by
 have kk1:Hid (∀{K:ag7},K (.bool (cy tm (af n)).isSome) L->ag6 11 [.ptr it 0,.str n] L K):=@hid _ (λ{K} q=>NZ ho hn q);have hr:=ho.rise;obtain⟨im,ie,ip,ii,em,ec,pm,pc,dm,dc,h1,h2,h3,h4⟩:=ho;unfold acv at h;obtain⟨f,hf⟩:=ag2 (af n);have kk2:Hid (Ctr Tryz.prog 38 [.str n] (.str f)):=@hid _ (by intro L K q;exact fC hn (by rw[hf];exact q));rw[hf]at h kk1;have hst:=h1.st;have hty:=h1.ty;have hid':=h1.ids;have hks:bw .str (.str f)=true:=rfl;rcases cU (va:=tyV) pH h1.tok f oM with⟨j,⟨w1,w2,w3,w4⟩,q1,q2,_⟩|⟨q1,q2,_⟩
 rotate_left
 rw[q1]at h kk1;simp only[aiG]at kk1;replace h:=hid h;clear h1 h2 h3 h4 hr q1;refine ag5 dC ?_;exact ba (aa h.out);rw[q1]at h kk1;simp only[aiM]at kk1;simp only[aeq]at h;have kN:Hid (Ctr Tryz.prog 48 [.int .i64 w2,.str v] (Rm (dh w2 v))):=@hid _ (λ{L K} q=>LJ q);rcases hno:dh w2 v with _|m;rw[hno]at kN h;have kk3:Hid (Ctr Tryz.prog 48 [.int .i64 w2,.str v] (.tup [.str [],.bool false])):=@hid _ (λ{L K} q=>kN.out q);replace h:=hid h;clear h1 h2 h3 h4 hr q1 kN hno;refine ag5 dC ?_;exact ba (aa h.out);rw[hno]at kN h;simp only at h;have kk3:Hid (Ctr Tryz.prog 48 [.int .i64 w2,.str v] (.tup [.str m,.bool true])):=@hid _ (λ{L K} q=>kN.out q);have hk3:bw (.st [.str,.bool,.str]) (.agg [.str f,.bool false,.str m])=true:=rfl;obtain⟨R,hR⟩:=ag2 (fD (iV tm) l (f,false,m));rcases cU (va:=AV.lmap) vi h1.dok (f,false,m) 0 with⟨j',b,p1,p2,_⟩|⟨p1,p2,_⟩;have kk4:Hid (∀{K:ag7},K (pW R) L->ag6 44 [.lmap b] L K):=@hid _ (λ{K} q=>UH (h1.ds _ b p1) (TM hr) (λx=>Iff.rfl) (aeg hi) (by rw[hR];exact q));simp only[hR]at h;simp only[oN]at p2;replace h:=hid h;clear h1 h2 h3 h4 hr q1 kN hno p1 hR;refine ag5 dC ?_;exact aa h.out;have hRn:R=[]:=by rw[<- hR];have:=h1.dn _ p1;exact aj9.2 this
 have kk4:Hid (Ctr Tryz.prog 44 [.nilmap] (.sl [] 0 (some 0))):=@hid _ (λ{L K} q=>WR q);simp only[hR,hRn]at h;simp only[oN]at p2;replace h:=hid h;clear h1 h2 h3 h4 hr q1 kN hno p1 hR hRn;refine ag5 dC ?_;exact ba (aa h.out)
end Go.Proofs.YtcmfcpjnhephaaaGreatDoor.Av
