/- Joined texts of the walk, made small by a program. -/
import Derived.Test.YtcmfcpjnhephaaaGreatDoorJk4
import Derived.Test.YtcmfcpjnhephaaaGreatDoorRows
import Derived.KernelRfl
import Derived.Test.YtcmfcpjnhephaaaGreatDoorJk12
import Derived.Test.YtcmfcpjnhephaaaGreatDoorJk15
import Derived.Test.YtcmfcpjnhephaaaGreatDoorJk8
import Derived.Test.YtcmfcpjnhephaaaGreatDoorJk6
set_option linter.unusedSimpArgs false
set_option linter.unusedVariables false
set_option maxRecDepth 100000
namespace Go.Proofs.YtcmfcpjnhephaaaGreatDoor.Av
open Go
def IY:LSO:=[Ab 4 0]
def IX:LSO:=[Aa 6 0,Ai 7 6,Ab 8 0]
def IW:LSO:=[Aj 9 8 7]
def IV:LSO:=[Aa 10 8,Aa 5 10]
def IU:LSO:=[Aa 11 0,Aa 12 5,Am 13 4 11 12,Ad 14 0 13,Ac 15 1 14,Ak 16 39 15,Aa 17 1,Ak 18 39 17,A9 19 16 18]
def IT:LSO:=[Aa 20 5,Aa 4 20]
def IS:LSO:=[Ah 21 8 1,Aa 8 21]
def IR:LSO:=[Ab 4 (-1)]
def Ih:be:=⟨22,(.seq (.sreg IY [])
 (.seq (.seq (.sreg IX Cm)
 (.block 0 (.loop (.seq (.sreg IW [])
 (.seq (.cond (tm 9) .skip
 (.exit 0))
 (.seq (.block 1 (.seq (.sreg IV Ch)
 (.seq (.sreg IU Cu)
 (.cond (tm 19) (.seq (.sreg IT Ch)
 .ret)
 .skip))))
 (.sreg IS Ch)))))))
 (.seq (.sreg IR [])
 .ret))),[(.tmp 4)]⟩
attribute [push_cast] IY IX IW IV IU IT IS IR
theorem Ox:br Tryz.prog (fun _ _=>1) 12=some Ih.raw:=by kernel_rfl
def o3:LSO:=[Al 4]
def oZ:LSO:=[Aa 7 0,Ai 8 7,Ab 9 0]
def oY:LSO:=[Aj 10 9 8]
def oX:LSO:=[Am 11 2 7 9,As 12 2 11,Bl 6,Ao 2 6 12]
def oW:LSO:=[Ad 13 0 6,Ac 14 1 13,Ak 15 39 14,Aa 16 1,Ak 17 39 16,A9 18 15 17]
def oV:LSO:=[o1 19 (.bslice false 1 0 [] []),Ad 20 1 6,Ac 21 1 20,Bk 22 19 21,Aa 4 22]
def oU:LSO:=[Ah 23 9 1,Aa 9 23]
def oT:LSO:=[Al 4]
def mP:be:=⟨24,(.seq (.sreg o3 [])
 (.seq (.seq (.sreg oZ [])
 (.block 0 (.loop (.seq (.sreg oY [])
 (.seq (.cond (tm 10) .skip
 (.exit 0))
 (.seq (.block 1 (.seq (.sreg oX Ci)
 (.seq (.sreg oW Cl)
 (.cond (tm 18) (.seq (.sreg oV Ck)
 .ret)
 .skip))))
 (.sreg oU Ch)))))))
 (.seq (.sreg oT [])
 .ret))),[(.tmp 4)]⟩
attribute [push_cast] o3 oZ oY oX oW oV oU oT
theorem Ks:br Tryz.prog (fun _ _=>1) 15=some mP.raw:=by kernel_rfl
def xL:LSO:=[An 4]
def xK:LSO:=[Aa 8 0,Aa 9 1,Aq 10 45 8 9,Aa 7 10,Ar 11 7,Aw 12 7,Aa 5 11,Aa 6 12]
def xJ:LSO:=[Aa 13 5,Aa 4 13]
def sG:be:=⟨14,(.seq (.sreg xL [])
 (.seq (.sreg xK [false,true,false,false,false,false,false,false])
 (.seq (.sreg xJ Ch)
 .ret))),[(.tmp 4)]⟩
attribute [push_cast] xL xK xJ
theorem Md:br Tryz.prog (fun _ _=>1) 164=some sG.raw:=by kernel_rfl
def IQ:LSO:=[Ae 6]
def IP:LSO:=[Aa 9 1,Ai 10 9,Ab 11 0]
def IN:LSO:=[Aj 12 11 10]
def IM:LSO:=[Am 13 1 9 11,Ac 14 1 13,Aa 8 14]
def IL:LSO:=[Aa 15 0,Aa 16 8,Aq 17 164 15 16,Aa 18 2,A9 19 17 18]
def IK:LSO:=[Ax 6]
def IJ:LSO:=[Ah 20 11 1,Aa 11 20]
def II:LSO:=[Ae 6]
def Ig:be:=⟨21,(.seq (.sreg IQ [])
 (.seq (.seq (.sreg IP [])
 (.block 0 (.loop (.seq (.sreg IN [])
 (.seq (.cond (tm 12) .skip
 (.exit 0))
 (.seq (.block 1 (.seq (.sreg IM Ci)
 (.seq (.sreg IL Ck)
 (.cond (tm 19) (.seq (.sreg IK [])
 .ret)
 .skip))))
 (.sreg IJ Ch)))))))
 (.seq (.sreg II [])
 .ret))),[(.tmp 6)]⟩
attribute [push_cast] IQ IP IN IM IL IK IJ II
theorem Ow:br Tryz.prog (fun _ _=>1) 127=some Ig.raw:=by kernel_rfl
def xV:LSO:=[Al 6]
def xU:LSO:=[Al 7]
def xT:LSO:=[Ae 8]
def xS:LSO:=[Aa 11 1,Ai 12 11,Ab 13 0]
def xR:LSO:=[Aj 14 13 12]
def xQ:LSO:=[Am 15 1 11 13,Ac 16 1 15,Aa 10 16]
def xP:LSO:=[Aa 17 8,Az 18 17,Aa 19 18,.grp none 19 true
 [Af 20 19 0,Af 21 19 2,BJ 22 19 164 20 21,Af 23 19 0,Af 24 19 10,BJ 25 19 164 23 24,Ce 26 19 22 25]
 27 (tm 26)]
def xO:LSO:=[Aa 28 7,Aa 29 2,Bv 30 29,Bk 31 28 30,Aa 7 31]
def xN:LSO:=[Ax 8]
def xM:LSO:=[Aa 32 7,Aa 33 10,Bv 34 33,Bk 35 32 34,Aa 7 35]
def tD:LSO:=[Ah 36 13 1,Aa 13 36]
def tC:LSO:=[Aa 37 8,Az 38 37]
def tB:LSO:=[Aa 39 7,Aa 40 2,Bv 41 40,Bk 42 39 41,Aa 7 42]
def tA:LSO:=[Aa 43 7,Aa 6 43]
def sH:be:=⟨44,(.seq (.sreg xV [])
 (.seq (.sreg xU [])
 (.seq (.sreg xT [])
 (.seq (.seq (.sreg xS [])
 (.block 0 (.loop (.seq (.sreg xR [])
 (.seq (.cond (tm 14) .skip
 (.exit 0))
 (.seq (.block 1 (.seq (.sreg xQ Ci)
 (.seq (.seq (.sreg xP Cj)
 (.cond (tm 27) (.seq (.sreg xO Ck)
 (.sreg xN []))
 .skip))
 (.sreg xM Ck))))
 (.sreg tD Ch)))))))
 (.seq (.seq (.sreg tC Ch)
 (.cond (tm 38) (.sreg tB Ck)
 .skip))
 (.seq (.sreg tA Ch)
 .ret)))))),[(.tmp 6)]⟩
attribute [push_cast] xV xU xT xS xR xQ xP xO xN xM tD tC tB tA
theorem Me:br Tryz.prog (fun _ _=>1) 128=some sH.raw:=by kernel_rfl
def FH:LSO:=[A3 3 0,Al 6,Ab 7 0]
def FG:LSO:=[Aa 12 2,Ai 13 12,Ab 14 0]
def FF:LSO:=[Aj 15 14 13]
def FE:LSO:=[Am 16 1 12 14,Ac 17 1 16,Aa 9 17]
def FD:LSO:=[Ad 19 1 3,Ac 20 1 19,Aa 21 9,Aq 22 45 20 21,Aa 18 22,Ar 23 18,Aw 24 18,Aa 10 23,Aa 11 24]
def FC:LSO:=[Aa 25 11,Az 26 25]
def FB:LSO:=[Al 6,Ab 7 21]
def FA:LSO:=[Ad 27 1 3,Ac 28 1 27,Aa 29 1,Aa 30 10,AI 31 127 28 29 30]
def Fz:LSO:=[Al 6,Ab 7 20]
def Fy:LSO:=[Ad 32 1 3,Ac 33 1 32,Aa 34 1,Aa 35 9,AI 36 128 33 34 35,Aa 1 36]
def xZ:LSO:=[Ah 37 14 1,Aa 14 37]
def xY:LSO:=[Ad 38 2 3,Ac 39 1 38,Aa 40 39,.grp none 40 true
 [Af 41 40 1,Bu 42 40 41,og 43 40 true (.bin .gtr (tm 42) (iv 1))]
 44 (tm 43)]
def xX:LSO:=[Al 6,Ab 7 19]
def xW:LSO:=[Aa 45 1,Aa 6 45,Ab 7 0]
def Eu:be:=⟨46,(.seq (.sreg FH [])
 (.seq (.seq (.sreg FG [])
 (.block 0 (.loop (.seq (.sreg FF [])
 (.seq (.cond (tm 15) .skip
 (.exit 0))
 (.seq (.block 1 (.seq (.sreg FE Ci)
 (.seq (.sreg FD C6)
 (.seq (.seq (.sreg FC Ch)
 (.cond (tm 26) (.seq (.sreg FB [])
 .ret)
 .skip))
 (.seq (.seq (.sreg FA Ck)
 (.cond (tm 31) (.seq (.sreg Fz [])
 .ret)
 .skip))
 (.sreg Fy Cl))))))
 (.sreg xZ Ch)))))))
 (.seq (.seq (.sreg xY Cj)
 (.cond (tm 44) (.seq (.sreg xX [])
 .ret)
 .skip))
 (.seq (.sreg xW Cm)
 .ret)))),[(.tmp 6),(.tmp 7)]⟩
attribute [push_cast] FH FG FF FE FD FC FB FA Fz Fy xZ xY xX xW
theorem NT:br Tryz.prog (fun _ _=>1) 83=some Eu.raw:=by kernel_rfl
def FR:LSO:=[Al 6]
def FQ:LSO:=[Al 7]
def FP:LSO:=[Aa 11 2,Ai 12 11,Au 13 12 0,Aa 8 13]
def FO:LSO:=[Aa 14 0,Ai 15 14,Ab 16 0]
def FN:LSO:=[Aj 17 16 15]
def FM:LSO:=[Am 18 2 14 16,As 19 2 18,Bl 10,Ao 2 10 19]
def FL:LSO:=[Aa 20 8,Az 21 20,Aa 22 21,.grp none 22 true
 [Af 23 22 1,AX 24 22 39 23,AT 25 22 0 10,AN 26 22 1 25,AX 27 22 39 26,og 28 22 true (.bin .leq (tm 24) (tm 27))]
 29 (tm 28)]
def FK:LSO:=[Aa 30 7,Aa 31 1,Aa 32 2,o1 33 (.build [(.str []),(.sl [] 0 (some 0))] [(0,(1,(tm 31))),(1,(1,(tm 32)))]),Bx 34 33,Cf 35 30 34,Aa 7 35]
def FJ:LSO:=[Ax 8]
def FI:LSO:=[Aa 36 1,Ak 37 39 36,Ad 38 0 10,Ac 39 1 38,Ak 40 39 39,Bm 41 37 40]
def yj:LSO:=[Aa 42 7,As 43 2 10,Bx 44 43,Cf 45 42 44,Aa 7 45]
def yi:LSO:=[Ah 46 16 1,Aa 16 46]
def yh:LSO:=[Aa 47 8,Az 48 47]
def yg:LSO:=[Aa 49 7,Aa 50 1,Aa 51 2,o1 52 (.build [(.str []),(.sl [] 0 (some 0))] [(0,(1,(tm 50))),(1,(1,(tm 51)))]),Bx 53 52,Cf 54 49 53,Aa 7 54]
def yf:LSO:=[Aa 55 7,Aa 6 55]
def Ev:be:=⟨56,(.seq (.sreg FR [])
 (.seq (.sreg FQ [])
 (.seq (.sreg FP Cj)
 (.seq (.seq (.sreg FO [])
 (.block 0 (.loop (.seq (.sreg FN [])
 (.seq (.cond (tm 17) .skip
 (.exit 0))
 (.seq (.block 1 (.seq (.sreg FM Ci)
 (.seq (.seq (.sdreg FL [.pure,.pure,.pure,.pure,(.read 0 0),.pure,(.read 0 0)] Cj)
 (.cond (tm 29) (.seq (.sreg FK Co)
 (.sreg FJ []))
 .skip))
 (.seq (.sdreg FI [.pure,(.read 0 0),.pure,(.read 0 0)] Cl)
 (.cond (tm 41) (.sreg yj Ck)
 .skip)))))
 (.sreg yi Ch)))))))
 (.seq (.seq (.sreg yh Ch)
 (.cond (tm 48) (.sreg yg Co)
 .skip))
 (.seq (.sreg yf Ch)
 .ret)))))),[(.tmp 6)]⟩
attribute [push_cast] FR FQ FP FO FN FM FL FK FJ FI yj yi yh yg yf
theorem NU:br Tryz.prog (fun _ _=>1) 84=some Ev.raw:=by kernel_rfl
def yu:LSO:=[A3 2 0,Al 4,Ab 5 0]
def yt:LSO:=[Al 6]
def yr:LSO:=[Aa 12 1,Ai 13 12,Ab 14 0]
def yq:LSO:=[Aj 15 14 13]
def yp:LSO:=[Am 16 2 12 14,As 17 2 16,Bl 8,Ao 2 8 17]
def yo:LSO:=[Ad 18 0 2,Ac 19 1 18,Ad 20 0 8,Ac 21 1 20,Aq 22 12 19 21,Aa 9 22]
def yn:LSO:=[Aa 23 9,AK 24 23 0]
def ym:LSO:=[Al 4,Ab 5 17]
def yl:LSO:=[Ad 25 1 8,Ac 26 1 25,Ai 27 26,Au 28 27 0]
def yk:LSO:=[Al 4,Ab 5 19]
def tK:LSO:=[Ad 30 0 2,Ac 31 1 30,Aa 32 9,Am 33 4 31 32,As 34 4 33,Aa 35 6,Ad 36 0 8,Ac 37 1 36,Aq 38 15 35 37,Ad 39 1 8,Ac 40 1 39,AI 41 83 34 38 40,Aa 29 41,
 Ar 42 29,Aw 43 29,Aa 10 42,Aa 11 43]
def tJ:LSO:=[Aa 44 11,AC 45 44 0]
def tI:LSO:=[Aa 46 11,Al 4,Aa 5 46]
def tH:LSO:=[Aa 47 6,Ad 48 0 2,Ac 49 1 48,Aa 50 9,Am 51 4 49 50,Ad 52 0 51,Ac 53 1 52,Aa 54 10,AI 55 84 47 53 54,Aa 6 55]
def tG:LSO:=[Ah 56 14 1,Aa 14 56]
def tF:LSO:=[Aa 57 6,Aa 4 57,Ab 5 0]
def sJ:be:=⟨58,(.seq (.sreg yu [])
 (.seq (.sreg yt [])
 (.seq (.seq (.sreg yr [])
 (.block 0 (.loop (.seq (.sreg yq [])
 (.seq (.cond (tm 15) .skip
 (.exit 0))
 (.seq (.block 1 (.seq (.sreg yp Ci)
 (.seq (.sreg yo Cl)
 (.seq (.seq (.sreg yn Ch)
 (.cond (tm 24) (.seq (.sreg ym [])
 .ret)
 .skip))
 (.seq (.seq (.sreg yl Cj)
 (.cond (tm 28) (.seq (.sreg yk [])
 .ret)
 .skip))
 (.seq (.sdreg tK [.pure,(.read 0 0),.pure,(.read 0 0),(.read 0 0),.pure,.pure,(.read 0 0),(.read 0 0),.pure,(.read 0 0),(.read 0 0),.pure,.pure,.pure,.pure] [true,true,false,false,false,false,false,false,false,false,false,false,false,false,false,false,false])
 (.seq (.seq (.sreg tJ Ch)
 (.cond (tm 45) (.seq (.sreg tI Cm)
 .ret)
 .skip))
 (.sreg tH C7))))))))
 (.sreg tG Ch)))))))
 (.seq (.sreg tF Cm)
 .ret)))),[(.tmp 4),(.tmp 5)]⟩
attribute [push_cast] yu yt yr yq yp yo yn ym yl yk tK tJ tI tH tG tF
theorem Mg:br Tryz.prog (fun _ _=>1) 34=some sJ.raw:=by kernel_rfl
attribute [push_cast] Ih mP sG Ig sH Eu Ev sJ
variable {L:List Blk} {K:abD}
set_option maxHeartbeats 8000000
set_option maxRecDepth 100000
theorem aax {ts:List Typ} {cap:Option Nat} {n:List UInt8} (hl:ts.length<=1100000) (hts:∀ t∈ts,bd t.1) (hn:bd n) (h1:eA ts n=none->K (.int .i64 (-1)) L) (h2:∀ k:Nat,k<ts.length->eA ts n=some (ts.getD k kQ)->K (.int .i64 k) L) :
  abC 12 [.sl (cq ts) ts.length cap,.str n] L K:=by
 replace h1:=hid h1;replace h2:=hid h2;refine abB Ox ?_;refine ak (fun m T' L'=>∃ k:Nat,m=ts.length - k/\k<=ts.length/\T'=[(8,.int .i64 (k:Int)),(7,.int .i64 ts.length),(0,.sl (cq ts) ts.length cap),(1,.str n)]/\L=L' /\
  ∀ j,j<k->¬ ab (ts.getD j kQ).1=ab n) (CutS (b:=abF _)) ⟨0,rfl,abL _,rfl,rfl,by simp⟩ ?_
 rintro _ _ L' ⟨k,rfl,hk,rfl,e,hr⟩;subst e;replace hr:=hid hr;by_cases hlt:k<ts.length
 ·have g1:(k:Int)<(ts.length:Int):=by omega
  have g2:=abA k (by omega);have e4:k * 4<(cq ts).length:=by rw [xx];omega
  have e3:(cq ts).getD (k * 4) .undef=.str (ts.getD k kQ).1:=by
   have h3:=congrArg (fun l=>l[0]?) (rZ hlt);simp only [acB (show 0<4 by omega),acu,ac3] at h3;rw [ab5,h3];rfl
  obtain ⟨ty,hty⟩:=aby (ts.getD k kQ);have hm:bd ty.1:=hts _ (by rw [<- hty];simp [hlt]);rw [hty] at e3;replace hty:=hid hty;by_cases hq:ab ty.1=ab n
  ·have e:eA ts n=some (ts.getD k kQ):=H7 (d:=kQ) hlt (fun j hj=>decide_eq_false (hr.out j hj)) (by rw [hty.out];exact decide_eq_true hq);have h':=hid (h2.out k hlt e);have kk1:=@hid _ (fun L K=>bL hm (L:=L) (K:=K));have kk2:=@hid _ (fun L K=>bL hn (L:=L) (K:=K));refine wk ?_;exact aa h'.out
  ·have kk1:=@hid _ (fun L K=>bL hm (L:=L) (K:=K));have kk2:=@hid _ (fun L K=>bL hn (L:=L) (K:=K));refine wk ?_;refine ai _ _ _ (by omega) (CutL (b:=by simp)) ⟨k+1,rfl,hlt,rfl,rfl,fun j hj=>?_⟩;rcases abX j k with h|h
   ·exact hr.out j h
   ·have:j=k:=by omega
    subst this;rw [hty.out];exact hq
 ·have g1:¬ (k:Int)<(ts.length:Int):=by omega
  have h':=hid (h1.out (aeo.2 fun ty hty=>by
   obtain ⟨j,hj,e⟩:=acV.1 hty;have:=hr.out j (by omega);simpa [hj,e] using this))
  refine wk ?_;exact aa h'.out
theorem HU {syn:Int} {v:List UInt8} {L:List Blk} {K:abD} (h:K (.str (fq syn v)) L):abC 164 [.int .i64 syn,.str v] L K:=by
 unfold fq at h;refine abB Md ?_;refine xD ?_;rcases hm:bY syn v with _|m
 all_goals rw [hm] at h
 ·replace h:Hid (K (.str []) L):=hid h;simp only [J8];refine sk ?_;refine wk ?_;exact aa h.out
 ·replace h:Hid (K (.str m) L):=hid h;simp only [J8];refine sk ?_;refine wk ?_;exact aa h.out
theorem aa3 {syn:Int} {l:List (List UInt8)} {cap:Option Nat} {n:List UInt8} (hl:l.length<=1100000) (h:K (.bool (inM syn l n)) L) :
  abC 127 [.int .i64 syn,.sl (l.map AV.str) l.length cap,.str n] L K:=by
 obtain ⟨R,hR⟩:=aby (inM syn l n);rw [hR] at h;replace h:=hid h;refine abB Ow ?_;refine ak (fun m T' L'=>∃ k:Nat,m=l.length - k/\k<=l.length/\Hid (inM syn (l.drop k) n=R)/\T'=[(11,.int .i64 (k:Int)),(10,.int .i64 l.length),(9,.sl (l.map AV.str) l.length cap),(0,.int .i64 syn),(2,.str n)]/\L=L') (CutS (b:=abF _)) ⟨0,rfl,abL _,hid (by simpa using hR),rfl,rfl⟩ ?_;rintro _ _ L' ⟨k,rfl,hk,hI,rfl,e⟩;subst e;by_cases hlt:k<l.length
 ·have g1:(k:Int)<(l.length:Int):=by omega
  have g2:=abA k (by omega);obtain ⟨v,hv⟩:=aby (l.getD k []);have g3:(l.map AV.str).getD k .undef=.str v:=by rw [<- hv];simp [hlt]
  have hdr:l.drop k=v::l.drop (k+1):=by rw [acp hlt,<- hv];simp [hlt]
  have hI2:=hI.out;rw [hdr,inM,List.any_cons] at hI2;clear hv hdr hI hR;by_cases hq:fq syn v=n
  ·rw [decide_eq_true hq,adL] at hI2;have h':=h.out;rw [<- hI2] at h';replace h':=hid h';clear hI2;have kk1:=@hid _ @HU;refine wk ?_;exact aa h'.out
  ·rw [decide_eq_false hq,ac8] at hI2;replace hI2:=hid hI2;have kk1:=@hid _ @HU;refine wk ?_;exact ai _ _ _ (by omega) (CutL (b:=by simp)) ⟨k+1,rfl,hlt,hI2,rfl,rfl⟩
 ·have hke:k=l.length:=by omega
  subst hke;have g1:¬ (l.length:Int)<(l.length:Int):=by omega
  have h':=h.out;rw [<- hI.out,acm] at h';replace h':=hid h';clear hI hR;refine wk ?_;exact aa h'.out
theorem aae {syn:Int} {l:List (List UInt8)} {cap:Option Nat} {v:List UInt8} (hl:l.length<=1100000) (h:K (xC (fg syn v false l)) L) :
  abC 128 [.int .i64 syn,.sl (l.map AV.str) l.length cap,.str v] L K:=by
 obtain ⟨R,hR⟩:=aby (fg syn v false l);rw [hR] at h;replace h:=hid h;refine abB Me ?_;refine cH (l:=[]) (n:=0) 7 1 rfl (acf 1).symm ?_;refine ak (fun m T' L'=>∃ (k:Nat) (d:Bool) (u:List (List UInt8)) (C:List AV) (n:Nat),m=l.length - k/\k<=l.length/\n<=k+1/\(d=false->n<=k)/\Hid (C=u.map AV.str/\n=u.length)/\Hid (u++fg syn v d (l.drop k)=R)/\T'=[(13,.int .i64 (k:Int)),(12,.int .i64 l.length),(11,.sl (l.map AV.str) l.length cap),(8,.bool d),(7,.gsl C n L.length 1),(0,.int .i64 syn),(2,.str v)]/\L'=L++[.spare n 1]) (CutS (b:=by simp)) ⟨0,false,[],[],0,rfl,abL _,by simp,by simp,hid ⟨rfl,rfl⟩,hid (by simpa using hR),rfl,rfl⟩ ?_;rintro _ _ _ ⟨k,d,u,C,n,rfl,hk,hul,hul2,hC,hI,rfl,rfl⟩;by_cases hlt:k<l.length
 ·have g1:(k:Int)<(l.length:Int):=by omega
  have g2:=abA k (by omega);obtain ⟨x,hx⟩:=aby (l.getD k []);have g3:(l.map AV.str).getD k .undef=.str x:=by rw [<- hx];simp [hlt]
  have hdr:l.drop k=x::l.drop (k+1):=by rw [acp hlt,<- hx];simp [hlt]
  have hI2:=hI.out;rw [hdr,fg] at hI2;clear hx hdr hI hR;have fin:∀ (y:List UInt8),(C++[.str y]=(u++[y]).map AV.str/\n+1=(u++[y]).length):=fun y=>by
   obtain ⟨rfl,rfl⟩:=hC.out;simp
  replace fin:=hid fin;replace hI2:=hid hI2;cases d with
  | true =>
    have hI3:=hI2.out;rw [if_neg (by simp)] at hI3;simp only [aci,adL] at hI3;replace hI3:=hid hI3;clear hI2;have kk1:=@hid _ @HU;refine wk ?_;refine ai _ _ _ (by omega) (CutL (b:=by simp)) ⟨k+1,true,u++[x],C++[.str x],n+1,rfl,hlt,by omega,by simp,hid (fin.out x),hid (by simpa using hI3.out),rfl,rfl⟩
  | false =>
    have hul3:=hul2 rfl
    repeat' first
     | refine a8 ?_
     | (first|refine aU (by kernel_rfl) ?_|refine aB (by kernel_rfl) ?_|refine aE ?_|refine bI ?_|refine bf (fun _=>?_)|refine ay ?_|refine aW ?_|refine HU ?_|refine bo (HU ⟨rfl,rfl⟩) (HU ⟨rfl,rfl⟩) ?_|refine aN (HU ⟨rfl,rfl⟩) ?_)
       refine sm ?_
     | (first|refine aO (by kernel_rfl) ?_|refine aP ?_|refine aD ?_|refine aV ?_|refine bp (ax ?_))
       refine sl ?_
     | exact bg
     | first|apply bh|apply aR|apply bj|apply aS|apply bm|apply aT
     | refine aH ?_
     | refine aC ?_
     | first|refine aF rfl ?_|refine aG rfl ?_|refine an rfl ?_ ?_|refine aJ rfl (fun _=>?_) (fun _=>?_)|refine aI rfl (fun _=>?_) (fun _=>?_)
     | ((first|refine am (fun _=>?_) (fun _=>?_)|refine aw (fun _=>?_) (fun _=>?_))<;>try refine sm ?_)
     | refine And.intro trivial ?_
     | refine And.intro (by omega) ?_
     | refine aM rfl (fun _=>?_) (fun _=>?_)
     | refine And.intro ?_ ?_
    ·rename_i hq
     rw [bytesLess_eq,decide_eq_true_eq] at hq;have hI3:=hI2.out;rw [if_pos ⟨rfl,hq⟩,decide_eq_true hq,adZ] at hI3;refine ai _ _ _ (by omega) (CutL (b:=by simp)) ⟨k+1,true,u++[v]++[x],C++[.str v]++[.str x],n+1+1,rfl,hlt,by omega,by simp,hid ?_,hid (by simpa using hI3),rfl,rfl⟩;obtain ⟨rfl,rfl⟩:=hC.out;simp
    ·rename_i hq
     rw [bytesLess_eq,decide_eq_false_iff_not] at hq;have hI3:=hI2.out;rw [if_neg (fun e=>hq e.2),decide_eq_false hq] at hI3;refine ai _ _ _ (by omega) (CutL (b:=by simp)) ⟨k+1,false,u++[x],C++[.str x],n+1,rfl,hlt,by omega,by omega,hid (fin.out x),hid (by simpa using hI3),rfl,rfl⟩
 ·have hke:k=l.length:=by omega
  subst hke;have g1:¬ (l.length:Int)<(l.length:Int):=by omega
  have hI2:=hI.out;rw [acm,fg] at hI2;have e0:AV.frzL (R.map AV.str)=R.map AV.str:=dD R;have hfin:∀ X:List Blk,Fin L (.sl (R.map AV.str) R.length none) (L++X) K:=fun X=>ae (by simp only [AV.refs,fy]) h.out
  replace hfin:=hid hfin;cases d with
  | true =>
    rw [if_pos rfl,acj] at hI2;subst hI2;refine wk ?_;refine bv ?_;simp only [AV.frz];rw [hC.out.1,e0,hC.out.2];exact hfin.out _
  | false =>
    rw [if_neg (by simp)] at hI2;subst hI2;have hul3:=hul2 rfl;refine wk ?_;refine bv ?_;simp only [AV.frz];rw [show C++[AV.str v]=(u++[v]).map AV.str by rw [hC.out.1];simp,e0,show n+1=(u++[v]).length by rw [hC.out.2];simp];exact hfin.out _
theorem Nf (syn:Int) (v:List UInt8):∀ (l:List (List UInt8)) (d:Bool),(fg syn v d l).length<=l.length+1
 | [],d=>by rw [fg];split<;>simp
 | x::t,d=>by
   rw [fg];by_cases h:d=false/\fq syn v<fq syn x
   ·rw [if_pos h,decide_eq_true h.2,adZ,HZ];simp
   ·have:=Nf syn v t (d || decide (fq syn v<fq syn x));rw [if_neg h];simp;omega
theorem Z8 {ty:Typ} {l vs:List (List UInt8)} {cap capV:Option Nat} (hl:l.length+vs.length<=1100000) {R:List (List UInt8)×Int} (hR:d7 ty.2.1 ty.2.2.1 l vs=R) (h:K (.tup [xC R.1,.int .i64 R.2]) L) :
  abC 83 [.agg (tyC ty),.sl (l.map AV.str) l.length cap,.sl (vs.map AV.str) vs.length capV] L K:=by
 replace h:=hid h;replace hR:=hid hR;simp only [tyC];refine abB NT ?_;refine ak (fun m T' L'=>∃ (i:Nat) (u:List (List UInt8)) (cu:Option Nat),m=vs.length - i/\i<=vs.length/\u.length<=l.length+i/\Hid (d7 ty.2.1 ty.2.2.1 u (vs.drop i)=R)/\T'=[(14,.int .i64 (i:Int)),(13,.int .i64 vs.length),(12,.sl (vs.map AV.str) vs.length capV),(1,.sl (u.map AV.str) u.length cu),(3,.ptr L.length 0)]/\L'=L++[Blk.cells (tyC ty)]) (CutS (b:=by simp)) ⟨0,l,cap,rfl,abL _,abF _,hid (by simpa using hR.out),rfl,rfl⟩ ?_;rintro _ _ _ ⟨i,u,cu,rfl,hi,hul,hI,rfl,rfl⟩;simp only [tyC];by_cases hlt:i<vs.length
 ·have g1:(i:Int)<(vs.length:Int):=by omega
  have g2:=abA i (by omega);obtain ⟨v,hv⟩:=aby (vs.getD i []);have g3:(vs.map AV.str).getD i .undef=.str v:=by rw [<- hv];simp [hlt]
  have hdr:vs.drop i=v::vs.drop (i+1):=by rw [acp hlt,<- hv];simp [hlt]
  have hI2:=hI.out;rw [hdr] at hI2;have hu1:u.length<=1100000:=by omega
  clear hv hdr hI hR;refine wk ?_;refine xD ?_;rcases hn:bY ty.2.1 v with _|n
  ·rw [VE hn] at hI2;have h':=h.out;rw [<- hI2] at h';replace h':=hid h';simp only [J8];clear hI2 hn;refine sk ?_;refine wk ?_;exact bv (ae rfl h'.out)
  rw [VD hn] at hI2;simp only [J8];rcases hb:inM ty.2.1 u n with _|_
  rotate_left
  ·rw [if_pos hb] at hI2;have h':=h.out;rw [<- hI2] at h';replace h':=hid h';clear hI2 hn;refine sk ?_;have kk1:=@hid _ (fun L K=>aa3 (syn:=ty.2.1) (n:=n) (cap:=cu) hu1 (L:=L) (K:=K));refine wk ?_;exact bv (ae rfl h'.out)
  rw [if_neg (by rw [hb];simp)] at hI2;obtain ⟨u',hu'⟩:=aby (fg ty.2.1 v false u);have hl':=Nf ty.2.1 v u false;rw [hu'] at hI2 hl';replace hI2:=hid hI2;clear hn;refine sk ?_;have kk1:=@hid _ (fun L K=>aa3 (syn:=ty.2.1) (n:=n) (cap:=cu) hu1 (L:=L) (K:=K));have kk2:=@hid _ (fun L K=>aae (syn:=ty.2.1) (v:=v) (cap:=cu) hu1 (L:=L) (K:=K));refine wk ?_;exact ai _ _ _ (by omega) (CutL (b:=by simp)) ⟨i+1,u',none,rfl,hlt,by omega,hI2,rfl,rfl⟩
 ·have hke:i=vs.length:=by omega
  subst hke;have g1:¬ (vs.length:Int)<(vs.length:Int):=by omega
  have hI2:=hI.out;rw [acm,d7] at hI2;by_cases hs:ty.2.2.1=true/\1<u.length
  ·rw [if_pos hs] at hI2;have h':=h.out;rw [<- hI2] at h';replace h':=hid h';obtain ⟨hs1,hs2⟩:=hs;have g3:(1:Int)<(u.length:Int):=by omega
   clear hI hI2 hR hs2;refine wk ?_;exact bv (ae rfl h'.out)
  ·rw [if_neg hs] at hI2;have g3:(ty.2.2.1 && decide ((1:Int)<(u.length:Int)))=false:=by
    rcases hsg:ty.2.2.1 with _|_
    ·rfl
    ·simp only [acy,decide_eq_false_iff_not];intro e;exact hs ⟨hsg,by omega⟩
   have h':=h.out;rw [<- hI2] at h';replace h':=hid h';clear hI hI2 hR hs;refine wk ?_;refine bv (ae ?_ ?_)
   ·simp only [AV.frz,AV.frzL,dD,AV.refs,AV.refsL,fy];rfl
   ·simp only [AV.frz,AV.frzL,dD];exact h'.out
theorem OQ {l:List Atr} {cap:Option Nat} {n:List UInt8} (hl:l.length<=1100000) (hz:∀ a∈l,bd a.1/\a.2.length<=1100000) (hn:bd n) (h:K (xC (cJ l n)) L) :
  abC 15 [.sl (bq l) l.length cap,.str n] L K:=by
 obtain ⟨R,hR⟩:=aby (cJ l n);rw [hR] at h;replace h:=hid h;replace hR:=hid hR;refine abB Ks ?_;refine ak (fun m T' L'=>∃ (k:Nat) (X:List Blk),m=l.length - k/\k<=l.length/\Hid (cJ (l.drop k) n=R)/\T'=[(9,.int .i64 (k:Int)),(8,.int .i64 l.length),(7,.sl (bq l) l.length cap),(1,.str n)]/\L'=L++X) (CutS (b:=by simp)) ⟨0,[],rfl,abL _,hid (by simpa using hR.out),rfl,by simp⟩ ?_;rintro _ _ _ ⟨k,X,rfl,hk,hI,rfl,rfl⟩;by_cases hlt:k<l.length
 ·have g1:(k:Int)<(l.length:Int):=by omega
  have g2:=abA k (by omega);have e3:=mc hlt;have e4:k * 2+2<=(bq l).length:=by rw [k8];omega
  obtain ⟨⟨nm,vs⟩,ha⟩:∃ a,l.getD k ([],[])=a:=⟨_,rfl⟩;have hdr:l.drop k=(nm,vs)::l.drop (k+1):=by rw [acp hlt,<- ha];simp [hlt]
  obtain ⟨hnm,hvs⟩:=hz (nm,vs) (by rw [<- ha];simp [hlt]);simp only at hnm hvs;rw [ha] at e3;simp only [atA] at e3;have hI2:=hI.out;rw [hdr,cJ] at hI2;simp only at hI2;clear hI hdr ha hz hR;by_cases hq:ab nm=ab n
  ·rw [if_pos hq] at hI2;subst hI2;have e0:AV.frzL (vs.map AV.str)=vs.map AV.str:=dD vs;have kk1:=@hid _ (fun L K=>bL hnm (L:=L) (K:=K));have kk2:=@hid _ (fun L K=>bL hn (L:=L) (K:=K));refine wk ?_;refine bv ?_;simp only [AV.frz,e0];exact ae (by simp only [AV.refs,fy]) h.out
  ·rw [if_neg hq] at hI2;replace hI2:=hid hI2;have kk1:=@hid _ (fun L K=>bL hnm (L:=L) (K:=K));have kk2:=@hid _ (fun L K=>bL hn (L:=L) (K:=K));refine wk ?_;exact ai _ _ _ (by omega) (CutL (b:=by simp)) ⟨k+1,_,rfl,hlt,hI2,rfl,rfl⟩
 ·have hke:k=l.length:=by omega
  subst hke;have g1:¬ (l.length:Int)<(l.length:Int):=by omega
  have hI2:=hI.out;rw [acm,cJ] at hI2;subst hI2;refine wk ?_;exact bv (ae rfl h.out)
theorem Z6 {l:List Atr} {cap capV:Option Nat} {n:List UInt8} {vs:List (List UInt8)} (hl:l.length<=1100000) (hz:∀ a∈l,bd a.1/\a.2.length<=1100000) (hn:bd n) (h:K (.sl (bq (mq n vs vs.isEmpty l)) (mq n vs vs.isEmpty l).length none) L) :
  abC 84 [.sl (bq l) l.length cap,.str n,.sl (vs.map AV.str) vs.length capV] L K:=by
 obtain ⟨R,hR⟩:=aby (mq n vs vs.isEmpty l);rw [hR] at h;replace h:=hid h;obtain ⟨d0,hd0⟩:=aby (vs.isEmpty);have hd1:decide ((vs.length:Int)=0)=d0:=by rw [<- hd0];cases vs<;>simp;omega
 rw [hd0] at hR;replace hR:=hid hR;have ev:AV.frzL (vs.map AV.str)=vs.map AV.str:=dD vs;replace hd0:=hid hd0;refine abB NU ?_;refine cH (l:=[]) (n:=0) 7 2 rfl (acf 2).symm ?_;refine ak (fun m T' L'=>∃ (k:Nat) (d:Bool) (u:List Atr) (C:List AV) (z:Nat) (X:List Blk),m=l.length - k/\k<=l.length/\z<=k+1/\(d=false->z<=k)/\Hid (C=bq u/\z=u.length)/\Hid (u++mq n vs d (l.drop k)=R)/\T'=[(16,.int .i64 (k:Int)),(15,.int .i64 l.length),(14,.sl (bq l) l.length cap),(8,.bool d),(7,.gsl C z L.length 2),(1,.str n),(2,.sl (vs.map AV.str) vs.length capV)]/\L'=L++(.spare z 2::X)) (CutS (b:=by simp)) ⟨0,d0,[],[],0,[],rfl,abL _,by simp,by simp,hid ⟨rfl,rfl⟩,hid (by simpa using hR.out),rfl,rfl⟩ ?_;rintro _ _ _ ⟨k,d,u,C,z,X,rfl,hk,hul,hul2,hC,hI,rfl,rfl⟩;by_cases hlt:k<l.length
 ·have g1:(k:Int)<(l.length:Int):=by omega
  have g2:=abA k (by omega);have e3:=mc hlt;have e4:k * 2+2<=(bq l).length:=by rw [k8];omega
  obtain ⟨⟨nm,ws⟩,ha⟩:∃ a,l.getD k ([],[])=a:=⟨_,rfl⟩;have hdr:l.drop k=(nm,ws)::l.drop (k+1):=by rw [acp hlt,<- ha];simp [hlt]
  obtain ⟨hnm,hws⟩:=hz (nm,ws) (by rw [<- ha];simp [hlt]);simp only at hnm hws;rw [ha] at e3;simp only [atA] at e3;have ew:AV.frzL (ws.map AV.str)=ws.map AV.str:=dD ws;have hI2:=hI.out;rw [hdr,mq] at hI2;simp only at hI2;have fin:∀ (C':List AV) (u':List Atr) (z':Nat) (a:Atr),C'=bq u'/\z'=u'.length->C'++[.str a.1,.sl (a.2.map AV.str) a.2.length none]=bq (u'++[a])/\z'+1=(u'++[a]).length:=fun C' u' z' a e=>by
   obtain ⟨rfl,rfl⟩:=e;simp [Ky,bq]
  replace fin:=hid fin;replace hd1:=hid hd1;clear hI hdr ha hz hR;by_cases hx:ab nm<ab n
  ·have hq:ab n≠ab nm:=fun e=>by rw [e] at hx;exact acR _ hx
   have hb:Op.bytesLess (ab n) (ab nm)=false:=by
    rw [bytesLess_eq,decide_eq_false_iff_not];exact fun e=>acR _ (adD hx e)
   cases d with
   | true =>
     have hI3:=hI2;rw [if_neg (fun e=>by cases e.1),if_pos hq] at hI3;rw [show (true || !decide (ab nm<ab n))=true by simp [hx]] at hI3;replace hI3:=hid hI3;clear hI2;have kk1:=@hid _ (fun L K=>bL hn (L:=L) (K:=K));have kk2:=@hid _ (fun L K=>bL hnm (L:=L) (K:=K));refine wk ?_;exact ai _ _ _ (by omega) (CutL (b:=by simp)) ⟨k+1,true,u++[(nm,ws)],C++[.str nm,.sl (ws.map AV.str) ws.length none],z+1,_,rfl,hlt,by omega,by simp,hid (fin.out _ _ _ (nm,ws) hC.out),hid (by simpa using hI3.out),rfl,rfl⟩
   | false =>
     have hul3:=hul2 rfl;have hI3:=hI2;rw [if_neg (fun e=>e.2 hx),if_pos hq] at hI3;rw [show (false || !decide (ab nm<ab n))=false by simp [hx]] at hI3;replace hI3:=hid hI3;clear hI2;have kk1:=@hid _ (fun L K=>bL hn (L:=L) (K:=K));have kk2:=@hid _ (fun L K=>bL hnm (L:=L) (K:=K));refine wk ?_;exact ai _ _ _ (by omega) (CutL (b:=by simp)) ⟨k+1,false,u++[(nm,ws)],C++[.str nm,.sl (ws.map AV.str) ws.length none],z+1,_,rfl,hlt,by omega,by simp;omega,hid (fin.out _ _ _ (nm,ws) hC.out),hid (by simpa using hI3.out),rfl,rfl⟩
  ·by_cases hq:ab n=ab nm
   ·have hb:Op.bytesLess (ab n) (ab nm)=false:=by
     rw [bytesLess_eq,decide_eq_false_iff_not,hq];exact acR _
    cases d with
    | true =>
      have hI3:=hI2;rw [if_neg (fun e=>by cases e.1),if_neg (fun e=>e hq)] at hI3;rw [show (true || !decide (ab nm<ab n))=true by simp [hx]] at hI3;replace hI3:=hid hI3;clear hI2;have kk1:=@hid _ (fun L K=>bL hn (L:=L) (K:=K));have kk2:=@hid _ (fun L K=>bL hnm (L:=L) (K:=K));refine wk ?_;exact ai _ _ _ (by omega) (CutL (b:=by simp)) ⟨k+1,true,u,C,z,_,rfl,hlt,by omega,by simp,hid hC.out,hid (by simpa using hI3.out),rfl,rfl⟩
    | false =>
      have hul3:=hul2 rfl;have hI3:=hI2;rw [if_pos ⟨rfl,hx⟩,if_neg (fun e=>e hq)] at hI3;rw [show (false || !decide (ab nm<ab n))=true by simp [hx]] at hI3;replace hI3:=hid hI3;clear hI2;have kk1:=@hid _ (fun L K=>bL hn (L:=L) (K:=K));have kk2:=@hid _ (fun L K=>bL hnm (L:=L) (K:=K));refine wk ?_;exact ai _ _ _ (by omega) (CutL (b:=by simp)) ⟨k+1,true,u++[(n,vs)],C++[.str n,.sl (vs.map AV.str) vs.length none],z+1,_,rfl,hlt,by omega,by simp,hid (fin.out _ _ _ (n,vs) hC.out),hid (by simpa using hI3.out),rfl,rfl⟩
   ·have hb:Op.bytesLess (ab n) (ab nm)=true:=by
     rw [bytesLess_eq,decide_eq_true_eq];exact (adO.1 (acX.1 hx)).resolve_right hq
    cases d with
    | true =>
      have hI3:=hI2;rw [if_neg (fun e=>by cases e.1),if_pos hq] at hI3;rw [show (true || !decide (ab nm<ab n))=true by simp [hx]] at hI3;replace hI3:=hid hI3;clear hI2;have kk1:=@hid _ (fun L K=>bL hn (L:=L) (K:=K));have kk2:=@hid _ (fun L K=>bL hnm (L:=L) (K:=K));refine wk ?_;exact ai _ _ _ (by omega) (CutL (b:=by simp)) ⟨k+1,true,u++[(nm,ws)],C++[.str nm,.sl (ws.map AV.str) ws.length none],z+1,_,rfl,hlt,by omega,by simp,hid (fin.out _ _ _ (nm,ws) hC.out),hid (by simpa using hI3.out),rfl,rfl⟩
    | false =>
      have hul3:=hul2 rfl;have hI3:=hI2;rw [if_pos ⟨rfl,hx⟩,if_pos hq] at hI3;rw [show (false || !decide (ab nm<ab n))=true by simp [hx]] at hI3;replace hI3:=hid hI3;clear hI2;have kk1:=@hid _ (fun L K=>bL hn (L:=L) (K:=K));have kk2:=@hid _ (fun L K=>bL hnm (L:=L) (K:=K));refine wk ?_;exact ai _ _ _ (by omega) (CutL (b:=by simp)) ⟨k+1,true,u++[(n,vs)]++[(nm,ws)],C++[.str n,.sl (vs.map AV.str) vs.length none]++[.str nm,.sl (ws.map AV.str) ws.length none],z+1+1,_,rfl,hlt,by omega,by simp,hid (fin.out _ _ _ (nm,ws) (fin.out _ _ _ (n,vs) hC.out)),hid (by simpa using hI3.out),rfl,rfl⟩
 ·have hke:k=l.length:=by omega
  subst hke;have g1:¬ (l.length:Int)<(l.length:Int):=by omega
  have hI2:=hI.out;rw [acm,mq] at hI2;have e0:=gQ R;have hfin:∀ X:List Blk,Fin L (.sl (bq R) R.length none) (L++X) K:=fun X=>ae (by simp only [AV.refs,E9]) h.out
  replace hfin:=hid hfin;replace hd1:=hid hd1;clear hI hR;cases d with
  | true =>
    rw [if_pos rfl,acj] at hI2;subst hI2;refine wk ?_;refine bv ?_;simp only [AV.frz];rw [hC.out.1,e0,hC.out.2];exact hfin.out _
  | false =>
    rw [if_neg (by simp)] at hI2;subst hI2;have hul3:=hul2 rfl;refine wk ?_;refine bv ?_;simp only [AV.frz];rw [show C++[AV.str n,.sl (vs.map AV.str) vs.length none]=bq (u++[(n,vs)]) by rw [hC.out.1,Ky];simp [bq],e0,show z+1=(u++[(n,vs)]).length by rw [hC.out.2];simp];exact hfin.out _
theorem YN {ts:List Typ} {capT:Option Nat} {c2:List AV} {n2:Nat} {cap2:Option Nat} {list:List Atr} {cap:Option Nat} (hts:abd ts) (hl:list.length<=100) (hv:∀ a∈list,bd a.1/\a.2.length<=9000) {R:List Atr×Int} (hR:rH ts [] list=R) (h:K (.tup [.sl (bq R.1) R.1.length none,.int .i64 R.2]) L) :
  abC 34 [.agg [.sl (cq ts) ts.length capT,.sl c2 n2 cap2],.sl (bq list) list.length cap] L K:=by
 replace h:=hid h;replace hR:=hid hR;refine abB Mg ?_;obtain ⟨sC,hsC⟩:=aby (AV.sl c2 n2 cap2);rw [hsC];refine ak (fun m T' L'=>∃ (i:Nat) (out:List Atr) (co:Option Nat) (X:List Blk),m=list.length - i/\i<=list.length/\out.length<=i/\Hid (rH ts out (list.drop i)=R)/\Hid (∀ a∈out,bd a.1/\a.2.length<=9000 * i)/\T'=[(14,.int .i64 (i:Int)),(13,.int .i64 list.length),(12,.sl (bq list) list.length cap),(6,.sl (bq out) out.length co),(2,.ptr L.length 0)]/\L'=L++(.cells [.sl (cq ts) ts.length capT,sC]::X)) (CutS (b:=by simp)) ⟨0,[],some 0,[],rfl,abL _,abF _,hid (by simpa using hR.out),hid (by simp),rfl,by simp⟩ ?_;rintro _ _ _ ⟨i,out,co,X,rfl,hi,hol,hI,ho,rfl,rfl⟩;by_cases hlt:i<list.length
 ·have g1:(i:Int)<(list.length:Int):=by omega
  have g2:=abA i (by omega);have e3:=mc hlt;have e4:i * 2+2<=(bq list).length:=by rw [k8];omega
  obtain ⟨⟨nm,vs⟩,ha⟩:∃ a,list.getD i ([],[])=a:=⟨_,rfl⟩;have hdr:list.drop i=(nm,vs)::list.drop (i+1):=by rw [acp hlt,<- ha];simp [hlt]
  obtain ⟨hnm,hvs⟩:=hv (nm,vs) (by rw [<- ha];simp [hlt]);simp only at hnm hvs;rw [ha] at e3;simp only [atA] at e3;have hI2:=hI.out;rw [hdr,rH] at hI2;simp only at hI2;replace hI2:=hid hI2;clear hI hdr ha hv hR;refine wk ?_;refine aax hts.1 hts.2.1 hnm (fun hty=>?_) (fun t ht hty=>?_)
  ·have hI3:=hI2.out;rw [hty] at hI3;simp only at hI3;have h':=h.out;rw [<- hI3] at h';replace h':=hid h';clear hI2 hI3 hty;refine sk ?_;refine wk ?_;exact bv (ae rfl h'.out)
  ·have hI3:=hI2.out;have e5:=rZ ht;have e6:t * 4+4<=(cq ts).length:=by rw [xx];omega
   have e8:(cq ts).getD (t * 4) .undef=.str (ts.getD t kQ).1:=by
    have h3:=congrArg (fun l=>l[0]?) (rZ ht);simp only [acB (show 0<4 by omega),acu,ac3] at h3;rw [ab5,h3];rfl
   have g3:¬ (t:Int)<0:=by omega
   have g4:(t:Int)<(ts.length:Int):=by omega
   have g6:t * 4<(cq ts).length:=by omega
   have htn:=OK hty;obtain ⟨ty,hte⟩:=aby (ts.getD t kQ);rw [hte] at hty e5 e8 htn;rw [hty] at hI3;simp only at hI3;simp only [tyC] at e5;by_cases hvn:vs=[]
   ·rw [if_pos hvn] at hI3;have h':=h.out;rw [<- hI3] at h';replace h':=hid h';subst hvn;clear hI2 hI3 hty htn hte;refine sk ?_;refine wk ?_;exact bv (ae rfl h'.out)
   rw [if_neg hvn] at hI3;have g5:¬ (vs.length:Int)=0:=by
    rcases vs with _|⟨x,t⟩
    ·exact absurd rfl hvn
    ·simp;omega
   obtain ⟨V,hV⟩:=aby (cJ out nm);have hVl:V.length<=9000 * i:=by rw [<- hV];exact VW fun a ha=>(ho.out a ha).2
   rw [hV] at hI3;obtain ⟨A,hA⟩:=aby (d7 ty.2.1 ty.2.2.1 V vs);rw [hA] at hI3;have kk1:Hid (Ctr Tryz.prog 15 [.sl (bq out) out.length co,.str nm] (.sl (V.map AV.str) V.length none)):=hid fun q=>OQ (by omega) (fun a ha=>⟨(ho.out a ha).1,by have:=(ho.out a ha).2;omega⟩) hnm (by rw [hV];exact q)
   have kk2:Hid (Ctr Tryz.prog 83 [.agg [.str ty.1,.int .i64 ty.2.1,.bool ty.2.2.1,.bool ty.2.2.2],.sl (V.map AV.str) V.length none,.sl (vs.map AV.str) vs.length none] (.tup [.sl (A.1.map AV.str) A.1.length none,.int .i64 A.2])):=hid fun q=>Z8 (ty:=ty) (by omega) hA q
   have kk3:Hid (Ctr Tryz.prog 84 [.sl (bq out) out.length co,.str ty.1,.sl (A.1.map AV.str) A.1.length none] (.sl (bq (mq ty.1 A.1 A.1.isEmpty out)) (mq ty.1 A.1 A.1.isEmpty out).length none)):=hid fun q=>Z6 (by omega) (fun a ha=>⟨(ho.out a ha).1,by have:=(ho.out a ha).2;omega⟩) (hts.2.1 ty htn.1) q
   obtain ⟨A1,A2⟩:=A;simp only at kk2 kk3 hI3;obtain ⟨out',hout'⟩:=aby (mq ty.1 A1 A1.isEmpty out);rw [hout'] at kk3 hI3;clear hI2 hvn hty;by_cases hc0:A2=0
   ·subst hc0;rw [if_neg (by simp)] at hI3;have hAl:=Oc (by rw [hA]:(d7 ty.2.1 ty.2.2.1 V vs).2=0);rw [hA] at hAl;simp only at hAl;have hol':out'.length<=i+1:=by
     have:=@PN ty.1 A1 A1.isEmpty out;rw [hout'] at this;split at this<;>omega
    have ho':∀ a∈out',bd a.1/\a.2.length<=9000 * (i+1):=fun a ha=>by
     rw [<- hout'] at ha;rcases MM ha with e|e
     ·rw [e];exact ⟨hts.2.1 ty htn.1,by simp only;omega⟩
     ·have:=ho.out a e;exact ⟨this.1,by omega⟩
    replace hI3:=hid hI3;replace ho':=hid ho';clear hA hV hout' hAl htn hte;refine sk ?_;refine wk ?_;exact ai _ _ _ (by omega) (CutL (b:=by simp)) ⟨i+1,out',none,_,rfl,hlt,hol',hI3,ho',rfl,rfl⟩
   ·rw [if_pos hc0] at hI3;have h':=h.out;rw [<- hI3] at h';replace h':=hid h';clear hA hV hout' htn hI3 hte;refine sk ?_;refine wk ?_;exact bv (ae rfl h'.out)
 ·have hke:i=list.length:=by omega
  subst hke;have g1:¬ (list.length:Int)<(list.length:Int):=by omega
  have hI2:=hI.out;rw [acm,rH] at hI2;have h':=h.out;rw [<- hI2] at h';replace h':=hid h';clear hI hI2 hR hv;have e0:=gQ out;refine wk ?_;refine bv ?_;simp only [AV.frz,AV.frzL,e0];exact ae (by simp only [AV.refs,AV.refsL,E9];rfl) h'.out
theorem WZ {ts:List Typ} {B:Nat}:∀ {l out:List Atr} {i:Nat},out.length<=i->(∀ a∈out,a.2.length<=B * i)->(∀ a∈l,a.2.length<=B)->(rH ts out l).1.length<=i+l.length/\∀ a∈(rH ts out l).1,a.2.length<=B * (i+l.length)
 | [],out,i,h1,h2,_=>by rw [rH];exact ⟨h1,h2⟩
 | x::t,out,i,h1,h2,h3=>by
   have nil:([]:List Atr).length<=i+(x::t).length/\∀ a∈([]:List Atr),a.2.length<=B * (i+(x::t).length):=⟨by simp,fun a ha=>by cases ha⟩;rw [rH];rcases hty:eA ts x.1 with _|ty
   ·exact nil
   ·simp only;split
    ·exact nil
    ·split
     ·exact nil
     ·rename_i hd
      simp only [ne_eq,adE] at hd;have hl:=Oc hd;have hv:=VW (l:=out) (n:=x.1) h2;have hx:=h3 x (by simp);have hB:=Nat.mul_add_one B i;have:=@WZ ts B t (mq ty.1 (d7 ty.2.1 ty.2.2.1 (cJ out x.1) x.2).1 (d7 ty.2.1 ty.2.2.1 (cJ out x.1) x.2).1.isEmpty out) (i+1) (by
       have:=@PN ty.1 (d7 ty.2.1 ty.2.2.1 (cJ out x.1) x.2).1 (d7 ty.2.1 ty.2.2.1 (cJ out x.1) x.2).1.isEmpty out;split at this<;>omega) (fun a ha=>by
       rcases MM ha with e|e
       ·rw [e];simp only;omega
       ·have:=h2 a e;omega) (fun a ha=>h3 a (by simp [ha]))
      rw [abR,show i+(t.length+1)=i+1+t.length by omega];exact this
end Go.Proofs.YtcmfcpjnhephaaaGreatDoor.Av
set_option maxRecDepth 100000
namespace Go.Proofs.YtcmfcpjnhephaaaGreatDoor.Av
open Go
def FZ:LSO:=[Ae 4]
def FY:LSO:=[Aa 7 0,Ai 8 7,Ab 9 0]
def FX:LSO:=[Aj 10 9 8]
def FW:LSO:=[Am 11 1 7 9,Ac 12 1 11,Aa 6 12]
def FV:LSO:=[Aa 13 6,Aa 14 1,A9 15 13 14]
def FU:LSO:=[Ax 4]
def FT:LSO:=[Ah 16 9 1,Aa 9 16]
def FS:LSO:=[Ae 4]
def Ew:be:=⟨17,(.seq (.sreg FZ [])
 (.seq (.seq (.sreg FY [])
 (.block 0 (.loop (.seq (.sreg FX [])
 (.seq (.cond (tm 10) .skip
 (.exit 0))
 (.seq (.block 1 (.seq (.sreg FW Ci)
 (.seq (.sreg FV Ci)
 (.cond (tm 15) (.seq (.sreg FU [])
 .ret)
 .skip))))
 (.sreg FT Ch)))))))
 (.seq (.sreg FS [])
 .ret))),[(.tmp 4)]⟩
attribute [push_cast] FZ FY FX FW FV FU FT FS
theorem NV:br Tryz.prog (fun _ _=>1) 82=some Ew.raw:=by kernel_rfl
attribute [push_cast] Ew
set_option maxHeartbeats 8000000
set_option maxRecDepth 100000
abbrev Cls:=List UInt8×List UInt8×Int×List (List UInt8)×List (List UInt8)
abbrev WS:Cls:=([],[],0,[],[])
def aaP (cs:List Cls) (j:Nat):Prop:=fc (cs.getD j WS).1=true/\(∀ c∈cs.take j,ab c.1≠ab (cs.getD j WS).1)/\((cs.getD j WS).2.1≠[]->∃ w,w<j/\ab (cs.getD w WS).1=ab (cs.getD j WS).2.1)
def aaQ (cs:List Cls):Prop:=∀ j,j<cs.length->aaP cs j
variable {L:List Blk} {K:abD}
theorem XN {xs:List (List UInt8)} {cap:Option Nat} (hn:xs.length<=2000000) (h:K (.sl (xs.map AV.str) xs.length none) L) :
  abC 51 [.sl (xs.map AV.str) xs.length cap] L K:=by
 replace h:=hid h;by_cases h0:xs=[]
 ·subst h0;refine ad bX (by simp [aQ]) ?_;simp only [aQ,ao]
  repeat' first
   | refine a8 ?_
   | (first|refine aU (by kernel_rfl) ?_|refine aB (by kernel_rfl) ?_|refine aE ?_|refine bI ?_|refine bf (fun _=>?_)|refine ay ?_|refine aW ?_)
     refine sm ?_
   | (first|refine aO (by kernel_rfl) ?_|refine aP ?_|refine aD ?_|refine aV ?_|refine bp (ax ?_))
     refine sl ?_
   | exact bg
   | first|apply bh|apply aR|apply bj|apply aS|apply bm|apply aT
   | refine aH ?_
   | refine aC ?_
   | first|refine aF rfl ?_|refine aG rfl ?_|refine an rfl ?_ ?_|refine aJ rfl (fun _=>?_) (fun _=>?_)|refine aI rfl (fun _=>?_) (fun _=>?_)
   | ((first|refine am (fun _=>?_) (fun _=>?_)|refine aw (fun _=>?_) (fun _=>?_))<;>try refine sm ?_)
   | refine And.intro trivial ?_
   | refine And.intro (by omega) ?_
   | refine aM rfl (fun _=>?_) (fun _=>?_)
   | refine And.intro ?_ ?_
  all_goals
   refine bv ?_;rw [show (AV.sl [] 0 (some 0)).frz=.sl (([]:List (List UInt8)).map AV.str) ([]:List (List UInt8)).length none from rfl];exact aa h.out
 ·have h1:¬ xs.length=0:=fun c=>h0 (ack.1 c)
  have h2:(xs.map AV.str).all AV.one=true:=by rw [abO];intro a ha;obtain ⟨r,_,rfl⟩:=abI.1 ha;rfl
  refine abB bX ?_;refine RU (i:=L.length) (l:=xs.map AV.str) (by simp) ?_;rw [show (AV.lsl L.length 0 xs.length none 1).snap L.length (xs.map AV.str)=.sl (xs.map AV.str) xs.length none from by simp [AV.snap,acW],show (L++[Blk.cells (xs.map AV.str)]).set L.length .dead=L++[.dead] by simp];exact ae (by simp only [AV.refs];exact fy _ _) h.out
structure abx (cs:List Cls):Prop where
 d:aaQ cs
 l:cs.length<=40
 r:∀ c∈cs,bd c.1/\bd c.2.1/\c.2.2.2.1.length<=2000000/\c.2.2.2.2.length<=2000000/\(∀ v∈c.2.2.2.1,bd v)/\∀ v∈c.2.2.2.2,bd v
end Go.Proofs.YtcmfcpjnhephaaaGreatDoor.Av
set_option maxRecDepth 100000
namespace Go.Proofs.YtcmfcpjnhephaaaGreatDoor.Av
open Go
def GT:LSO:=[A3 2 0,AF 4,Ab 5 0]
def GR:LSO:=[.op ⟨(some 13),.mkmap,none⟩,
 .op ⟨(some 14),.mkmap,none⟩,
 .op ⟨(some 15),.mkmap,none⟩,
 .op ⟨(some 16),.mkmap,none⟩,o1 17 (.build [.nilmap,.nilmap,.nilmap,.nilmap] [(0,(1,(tm 13))),(1,(1,(tm 14))),(2,(1,(tm 15))),(3,(1,(tm 16)))]),A3 18 17,Aa 6 18]
def GP:LSO:=[Aa 19 1,Ai 20 19,Ab 21 0]
def GN:LSO:=[Aj 22 21 20]
def GM:LSO:=[Am 23 1 19 21,Ac 24 1 23,Aa 8 24]
def GK:LSO:=[As 26 2 2,Aa 27 8,Aq 28 49 26 27,Aa 25 28,Ar 29 25,Aw 30 25,Bn 9,Ao 4 9 29,Aa 10 30]
def GJ:List (aj×Kd) :=
 [A7 32 6,AH 33 32 0 1,A4 34 0 33,Ay 35 1 34 0 1,A7 36 8,AP 37 38 36 0 1,
 od 38 (.mget .str true (.agg [(.str []),(.int .i64 0),(.bool false),(.bool false)]) (tm 35) (tm 37)) (.read 0 1),A7 31 38,od 39 (.extract (tm 31) 0) .pure,
 od 40 (.extract (tm 31) 1) .pure,od 11 (.alloc [(.str []),(.int .i64 0),(.bool false),(.bool false)]) .eff,
 (⟨none,(.store 4 (tm 11) (tm 39)),none⟩,.eff)]
def DT:List aj :=
 [⟨(some 12),(.mv (tm 40)),none⟩]
def GI:LSO:=[Aa 42 10,Az 43 42,Aa 41 43]
def GH:LSO:=[AF 4,Ab 5 20]
def GF:LSO:=[Aa 45 12,Aa 44 45]
def DY:LSO:=[AF 4,Ab 5 21]
def DX:List (aj×Kd) :=
 [A7 46 6,AH 47 46 0 0,A4 48 0 47,Ay 49 1 48 0 0,A7 50 8,AP 51 38 50 0 0,Bw 52 4 9 0 0]
def w8:List aj :=
 [⟨none,(.mset .str (tm 49) (tm 51) (tm 52)),none⟩]
def DW:List (aj×Kd) :=
 [A7 53 6,AH 54 53 0 1,A4 55 2 54,Ay 56 1 55 0 1,A7 57 8,AP 58 38 57 0 1,
 (⟨(some 59),.mkmap,none⟩,.eff)]
def w7:List aj :=
 [⟨none,(.mset .str (tm 56) (tm 58) (tm 59)),none⟩]
def DV:LSO:=[Ah 60 21 1,Aa 21 60]
def DU:LSO:=[Aa 61 6,Aa 4 61,Ab 5 0]
def ED:be:=⟨62,(.seq (.sreg GT [])
 (.seq (.sreg GR Co)
 (.seq (.seq (.sreg GP [])
 (.block 0 (.loop (.seq (.sreg GN [])
 (.seq (.cond (tm 22) .skip
 (.exit 0))
 (.seq (.block 1 (.seq (.sreg GM Ci)
 (.seq (.sreg GK Ct)
 (.seq (.dregM GJ DT C0)
 (.seq (.block 2 (.seq (.sreg GI Ci)
 (.cond (tm 41) (.seq (.sreg GH [])
 .ret)
 (.seq (.sreg GF Ch)
 (.cond (tm 44) (.seq (.sreg DY [])
 .ret)
 .skip)))))
 (.seq (.dregM DX w8 Cv)
 (.dregM DW w7 Cv)))))))
 (.sreg DV Ch)))))))
 (.seq (.sreg DU Cm)
 .ret)))),[(.tmp 4),(.tmp 5)]⟩
attribute [push_cast] GT GR GP GN GM GK GJ DT GI GH GF DY DX w8 DW w7 DV DU
theorem N1:br Tryz.prog (fun _ _=>1) 19=some ED.raw:=by kernel_rfl
def wZ:LSO:=[Al 2]
def wY:LSO:=[Al 3]
def wX:LSO:=[Ab 4 0]
def wW:LSO:=[Aa 5 4,Ah 6 5 3,Aa 7 0,Ap 8 7,B6 9 6 8]
def wV:LSO:=[Aa 12 3,Aa 13 0,Aa 14 4,Aa 15 4,Ah 16 15 3,Br 17 13 14 16,Bv 18 17,Bk 19 12 18,Aa 3 19]
def wU:LSO:=[Aa 10 4,Ah 11 10 1,Aa 4 11]
def wT:LSO:=[Aa 20 3,Aa 2 20]
def ox:be:=⟨21,(.seq (.sreg wZ [])
 (.seq (.sreg wY [])
 (.seq (.seq (.sreg wX [])
 (.block 0 (.loop (.seq (.seq (.sreg wW Ck)
 (.cond (tm 9) .skip
 (.exit 0)))
 (.seq (.block 1 (.sreg wV Cu))
 (.sreg wU Ci))))))
 (.seq (.sreg wT Ch)
 .ret)))),[(.tmp 2)]⟩
attribute [push_cast] wZ wY wX wW wV wU wT
theorem Lf:br Tryz.prog (fun _ _=>1) 41=some ox.raw:=by kernel_rfl
def jY:LSO:=[Aa 14 0,A5 15 14,Ad 16 0 15,Ac 17 1 16,o1 18 (.mrange (tm 17))]
def jX:LSO:=[o1 19 (.mnext (tm 18)),Ar 20 19]
def jW:LSO:=[o1 21 (.mentry (tm 18)),Ar 22 21,Aw 23 21,Bn 7,Aa 6 22,Ao 4 7 23]
def jV:LSO:=[Aa 24 1,Aa 25 6,Aq 26 52 24 25,Ai 27 26,Ab 28 0]
def jU:LSO:=[Aj 29 28 27]
def jT:LSO:=[Am 30 1 26 28,Ac 31 1 30,Aa 9 31]
def jS:LSO:=[Ad 33 1 7,Ac 34 1 33,Aa 35 9,Aq 36 48 34 35,Aa 32 36,Ar 37 32,Aw 38 32,Aa 10 37,Aa 11 38]
def jR:LSO:=[Aa 39 11,Az 40 39]
def jQ:LSO:=[Aa 41 2,Aa 42 6,Aa 43 10,o1 44 (.build [(.str []),(.bool false),(.str [])] [(0,(1,(tm 42))),(1,(1,(.av (.bool false)))),(2,(1,(tm 43)))]),
 Bo 45 41 44]
def jP:LSO:=[Aa 46 10,Ak 47 41 46,Ai 48 47,Ab 49 0]
def iC:LSO:=[Aj 50 49 48]
def iB:LSO:=[Am 51 1 47 49,Ac 52 1 51,Aa 13 52]
def iA:LSO:=[Aa 53 2,Aa 54 6,Aa 55 13,o1 56 (.build [(.str []),(.bool false),(.str [])] [(0,(1,(tm 54))),(1,(1,(.av (.bool true)))),(2,(1,(tm 55)))]),
 Bo 57 53 56]
def iz:LSO:=[Ah 58 49 1,Aa 49 58]
def iy:LSO:=[Ah 59 28 1,Aa 28 59]
def fv:be:=⟨60,(.seq (.sreg jY Ck)
 (.block 0 (.loop (.seq (.sreg jX Ch)
 (.seq (.cond (tm 20) .skip
 (.exit 0))
 (.block 1 (.seq (.sreg jW Cp)
 (.seq (.sreg jV C3)
 (.block 2 (.loop (.seq (.sreg jU [])
 (.seq (.cond (tm 29) .skip
 (.exit 2))
 (.seq (.block 3 (.seq (.sreg jT Ci)
 (.seq (.sreg jS C6)
 (.seq (.seq (.sreg jR Ch)
 (.cond (tm 40) (.exit 3)
 .skip))
 (.seq (.sreg jQ Cq)
 (.seq (.sreg jP Cx)
 (.block 4 (.loop (.seq (.sreg iC [])
 (.seq (.cond (tm 50) .skip
 (.exit 4))
 (.seq (.block 5 (.seq (.sreg iB Ci)
 (.sreg iA Cq)))
 (.sreg iz Ch))))))))))))
 (.sreg iy Ch)))))))))))))),[]⟩
attribute [push_cast] jY jX jW jV jU jT jS jR jQ jP iC iB iA iz iy
theorem xu:br Tryz.prog (fun _ _=>1) 53=some fv.raw:=by kernel_rfl
def lZ:LSO:=[A3 3 0,A3 4 1]
def lY:LSO:=[Ac 10 1 3,BG 11 10]
def lX:LSO:=[Ac 12 1 3,Ac 13 1 4,Aq 14 35 12 13]
def lW:LSO:=[Al 6]
def lV:LSO:=[Aa 15 2,Ai 16 15,Ab 17 0]
def lU:LSO:=[Aj 18 17 16]
def lT:LSO:=[Am 19 2 15 17,As 20 2 19,Bl 8,Ao 2 8 20]
def lS:List (aj×Kd) :=
 [A7 21 6,A4 22 0 8,Ay 23 1 22 0 0,A4 24 1 8,Ay 25 1 24 0 0,AP 26 51 25 0 0,od 27 (.build [(.str []),(.sl [] 0 (some 0))] [(0,(1,(tm 23))),(1,(1,(tm 26)))]) .pure,
 od 28 (.bslice false 2 1 [(.str []),(.sl [] 0 (some 0))] [(0,(2,(tm 27)))]) (.read 0 0)]
def j5:List aj :=
 [⟨(some 29),(.app 1 2 40 [(.str []),(.sl [] 0 (some 0))] (tm 21) (tm 28)),none⟩,⟨(some 6),(.mv (tm 29)),none⟩]
def lR:LSO:=[Ah 30 17 1,Aa 17 30]
def lQ:List (aj×Kd) :=
 [Ay 31 1 3 0 0,AH 32 31 0 0,A4 33 1 32,Ay 34 1 33 0 0,Ay 35 1 4 0 0,A7 36 6]
def jZ:List aj :=
 [⟨none,(.mset .int (tm 34) (tm 35) (tm 36)),none⟩]
def kc:LSO:=[Ac 37 1 3,A5 38 37,Ad 39 0 38,Ac 40 1 39,o1 41 (.mrange (tm 40))]
def kb:LSO:=[o1 42 (.mnext (tm 41)),Ar 43 42]
def j9:LSO:=[o1 44 (.mentry (tm 41)),Ar 45 44,Aa 9 45]
def j8:LSO:=[Aa 46 6,Aa 47 9,Aq 48 52 46 47,Ai 49 48,A0 50 49 0]
def j7:List (aj×Kd) :=
 [Ay 51 1 3 0 0,AH 52 51 0 0,A4 53 2 52,Ay 54 1 53 0 0,A7 55 9,od 56 (.mget .str false .nilmap (tm 54) (tm 55)) (.read 0 0),Ay 57 1 4 0 0]
def iH:List aj :=
 [⟨none,(.mset .int (tm 56) (tm 57) (.av (.bool true))),none⟩]
def j6:LSO:=[Ac 58 1 3,Aa 59 6,o1 60 (.mkfn 54 [(tm 3),(tm 4)]),AI 61 53 58 59 60]
def gP:be:=⟨62,(.seq (.sreg lZ [])
 (.seq (.seq (.sreg lY Ch)
 (.cond (tm 11) .ret
 .skip))
 (.seq (.sreg lX CE)
 (.seq (.sreg lW [])
 (.seq (.seq (.sreg lV [])
 (.block 0 (.loop (.seq (.sreg lU [])
 (.seq (.cond (tm 18) .skip
 (.exit 0))
 (.seq (.block 1 (.seq (.sreg lT Ci)
 (.dregM lS j5 C7)))
 (.sreg lR Ch)))))))
 (.seq (.dregM lQ jZ C2)
 (.seq (.seq (.sreg kc Ck)
 (.block 2 (.loop (.seq (.sreg kb Ch)
 (.seq (.cond (tm 43) .skip
 (.exit 2))
 (.block 3 (.seq (.sreg j9 Ci)
 (.seq (.sreg j8 Ck)
 (.cond (tm 50) (.dregM j7 iH Cv)
 .skip)))))))))
 (.sreg j6 Cy)))))))),[]⟩
attribute [push_cast] lZ lY lX lW lV lU lT lS j5 lR lQ jZ kc kb j9 j8 j7 iH j6
theorem EE:br Tryz.prog (fun _ _=>1) 21=some gP.raw:=by kernel_rfl
def iG:LSO:=[A3 3 0]
def iF:LSO:=[Ac 4 1 1,A5 5 4,Ad 6 3 5,Ac 7 1 6,As 8 3 3,BH 9 7 8,o1 10 (.eqk false .map (tm 9) (.av .nilmap))]
def iE:List (aj×Kd) :=
 [Ay 11 1 1 0 1,AH 12 11 0 1,A4 13 3 12,Ay 14 1 13 0 1,Bw 15 3 3 0 1,
 (⟨(some 16),.mkmap,none⟩,.eff)]
def gv:List aj :=
 [⟨none,(.mset (.st [.str,.bool,.str]) (tm 14) (tm 15) (tm 16)),none⟩]
def iD:List (aj×Kd) :=
 [Ay 17 1 1 0 0,AH 18 17 0 0,A4 19 3 18,Ay 20 1 19 0 0,Bw 21 3 3 0 0,od 22 (.mget (.st [.str,.bool,.str]) false .nilmap (tm 20) (tm 21)) (.read 0 0),Ay 23 1 2 0 0]
def gu:List aj :=
 [⟨none,(.mset .int (tm 22) (tm 23) (.av (.bool true))),none⟩]
def cf:be:=⟨24,(.seq (.sreg iG [])
 (.seq (.seq (.sdreg iF [(.read 0 0),(.read 0 0),.pure,(.read 0 0),(.read 0 0)] Co)
 (.cond (tm 10) (.dregM iE gv C2)
 .skip))
 (.dregM iD gu Cv))),[]⟩
attribute [push_cast] iG iF iE gv iD gu
theorem d6:br Tryz.prog (fun _ _=>1) 54=some cf.raw:=by kernel_rfl
def kO:LSO:=[A3 2 0,A3 3 1]
def kK:LSO:=[Ac 8 1 2,BG 9 8]
def kJ:LSO:=[Ac 11 1 2,A5 12 11,Ad 13 1 12,Ac 14 1 13,Ac 15 1 3,o1 16 (.mget .int true (.sl [] 0 (some 0)) (tm 14) (tm 15)),Aa 10 16,Ar 17 10,Aw 18 10,Aa 4 17,
 Aa 5 18]
def kC:LSO:=[Aa 19 5,Az 20 19]
def kz:List (aj×Kd) :=
 [Ay 21 1 2 0 0,AH 22 21 0 0,A4 23 1 22,Ay 24 1 23 0 0,Ay 25 1 3 0 0]
def iY:List aj :=
 [⟨none,(.mdel .int (tm 24) (tm 25)),none⟩]
def ky:LSO:=[Ac 26 1 2,A5 27 26,Ad 28 2 27,Ac 29 1 28,o1 30 (.mrange (tm 29))]
def kx:LSO:=[o1 31 (.mnext (tm 30)),Ar 32 31]
def kw:LSO:=[o1 33 (.mentry (tm 30)),Aw 34 33,Aa 7 34]
def ku:LSO:=[Aa 35 7,Ac 36 1 3,o0 (.mdel .int (tm 35) (tm 36))]
def kr:LSO:=[Ac 37 1 2,Aa 38 4,o1 39 (.mkfn 85 [(tm 2),(tm 3)]),AI 40 53 37 38 39]
def dA:be:=⟨41,(.seq (.sreg kO [])
 (.seq (.seq (.sreg kK Ch)
 (.cond (tm 9) .ret
 .skip))
 (.seq (.sdreg kJ [(.read 0 0),(.read 0 0),.pure,(.read 0 0),(.read 0 0),(.read 0 0),.pure,.pure,.pure,.pure] CI)
 (.seq (.seq (.sreg kC Ch)
 (.cond (tm 20) .ret
 .skip))
 (.seq (.dregM kz iY Cq)
 (.seq (.seq (.sreg ky Ck)
 (.block 0 (.loop (.seq (.sreg kx Ch)
 (.seq (.cond (tm 32) .skip
 (.exit 0))
 (.block 1 (.seq (.sreg kw Ci)
 (.sreg ku CA))))))))
 (.sreg kr Cy))))))),[]⟩
attribute [push_cast] kO kK kJ kC kz iY ky kx kw ku kr
theorem i7:br Tryz.prog (fun _ _=>1) 35=some dA.raw:=by kernel_rfl
def gB:LSO:=[A3 3 0]
def gA:List (aj×Kd) :=
 [Ay 4 1 1 0 0,AH 5 4 0 0,A4 6 3 5,Ay 7 1 6 0 0,Bw 8 3 3 0 0,od 9 (.mget (.st [.str,.bool,.str]) false .nilmap (tm 7) (tm 8)) (.read 0 0),Ay 10 1 2 0 0]
def fE:List aj :=
 [⟨none,(.mdel .int (tm 9) (tm 10)),none⟩]
def gz:LSO:=[Ac 11 1 1,A5 12 11,Ad 13 3 12,Ac 14 1 13,As 15 3 3,BH 16 14 15,o1 17 (.mlen (tm 16)),Au 18 17 0]
def gy:List (aj×Kd) :=
 [Ay 19 1 1 0 0,AH 20 19 0 0,A4 21 3 20,Ay 22 1 21 0 0,Bw 23 3 3 0 0]
def fD:List aj :=
 [⟨none,(.mdel (.st [.str,.bool,.str]) (tm 22) (tm 23)),none⟩]
def ba:be:=⟨24,(.seq (.sreg gB [])
 (.seq (.dregM gA fE Cv)
 (.seq (.sdreg gz [(.read 0 0),(.read 0 0),.pure,(.read 0 0),(.read 0 0)] Cr)
 (.cond (tm 18) (.dregM gy fD Cq)
 .skip)))),[]⟩
attribute [push_cast] gB gA fE gz gy fD
theorem cy:br Tryz.prog (fun _ _=>1) 85=some ba.raw:=by kernel_rfl
def l7:LSO:=[Ae 4]
def l6:LSO:=[Aa 7 0,BG 8 7]
def l5:LSO:=[Ae 4]
def l4:List (aj×Kd) :=
 [A7 10 0,AH 11 10 0 1,A4 12 0 11,Ay 13 1 12 0 1,A7 14 1,AP 15 38 14 0 1,
 od 16 (.mget .str true (.agg [(.str []),(.int .i64 0),(.bool false),(.bool false)]) (tm 13) (tm 15)) (.read 0 1),A7 9 16,od 17 (.extract (tm 9) 0) .pure,
 od 18 (.extract (tm 9) 1) .pure,od 5 (.alloc [(.str []),(.int .i64 0),(.bool false),(.bool false)]) .eff,
 (⟨none,(.store 4 (tm 5) (tm 17)),none⟩,.eff)]
def kq:List aj :=
 [⟨(some 6),(.mv (tm 18)),none⟩]
def l3:LSO:=[Aa 19 6,Aa 4 19]
def dF:be:=⟨20,(.seq (.sreg l7 [])
 (.seq (.seq (.sreg l6 Ch)
 (.cond (tm 8) (.seq (.sreg l5 [])
 .ret)
 .skip))
 (.seq (.dregM l4 kq C0)
 (.seq (.sreg l3 Ch)
 .ret)))),[(.tmp 4)]⟩
attribute [push_cast] l7 l6 l5 l4 kq l3
theorem k7:br Tryz.prog (fun _ _=>1) 11=some dF.raw:=by kernel_rfl
def fC:LSO:=[Al 4]
def fB:LSO:=[Aa 5 0,Aa 6 1,Aq 7 11 5 6,Az 8 7]
def fA:LSO:=[Al 4]
def fz:LSO:=[Aa 9 0,A5 10 9,Ad 11 2 10,Ac 12 1 11,Aa 13 1,Ak 14 38 13,o1 15 (.mget .str false .nilmap (tm 12) (tm 14)),Ak 16 44 15,Aa 4 16]
def cL:be:=⟨17,(.seq (.sreg fC [])
 (.seq (.seq (.sreg fB Cj)
 (.cond (tm 8) (.seq (.sreg fA [])
 .ret)
 .skip))
 (.seq (.sdreg fz [.pure,(.read 0 0),.pure,(.read 0 0),.pure,(.read 0 0)] Cu)
 .ret))),[(.tmp 4)]⟩
attribute [push_cast] fC fB fA fz
theorem fo:br Tryz.prog (fun _ _=>1) 14=some cL.raw:=by kernel_rfl
def iX:LSO:=[Al 6]
def iW:LSO:=[Aa 9 0,Aa 10 1,Aq 11 11 9 10,Az 12 11]
def iV:LSO:=[Al 6]
def iU:LSO:=[Aa 14 0,A5 15 14,Ad 16 0 15,Ac 17 1 16,Aa 18 1,Ak 19 38 18,
 o1 20 (.mget .str false (.agg [(.str []),(.int .i64 0),(.bool false),(.bool false)]) (tm 17) (tm 19)),o1 21 (.field false 1 1 (tm 20)),Aa 22 2,Aq 23 48 21 22,Aa 13 23,Ar 24 13,
 Aw 25 13,Aa 7 24,Aa 8 25]
def iT:LSO:=[Aa 26 8,Az 27 26]
def iS:LSO:=[Al 6]
def iR:LSO:=[Aa 28 0,A5 29 28,Ad 30 3 29,Ac 31 1 30,Aa 32 1,Ak 33 38 32,Aa 34 7,
 o1 35 (.build [(.str []),(.bool false),(.str [])] [(0,(1,(tm 33))),(1,(1,(.av (.bool false)))),(2,(1,(tm 34)))]),BH 36 31 35,Ak 37 44 36,Aa 6 37]
def bA:be:=⟨38,(.seq (.sreg iX [])
 (.seq (.seq (.sreg iW Cj)
 (.cond (tm 12) (.seq (.sreg iV [])
 .ret)
 .skip))
 (.seq (.sdreg iU [.pure,(.read 0 0),.pure,(.read 0 0),.pure,(.read 0 0),(.read 0 0),(.read 0 0),.pure,(.read 0 0),.pure,.pure,.pure,.pure] [true,true,false,false,false,false,false,false,false,false,false,false,false,false,false])
 (.seq (.seq (.sreg iT Ch)
 (.cond (tm 27) (.seq (.sreg iS [])
 .ret)
 .skip))
 (.seq (.sdreg iR [.pure,(.read 0 0),.pure,(.read 0 0),.pure,(.read 0 0),.pure,.pure] CD)
 .ret))))),[(.tmp 6)]⟩
attribute [push_cast] iX iW iV iU iT iS iR
theorem dt:br Tryz.prog (fun _ _=>1) 18=some bA.raw:=by kernel_rfl
def kp:LSO:=[Al 6]
def ko:LSO:=[Aa 15 0,Aa 16 1,Aq 17 11 15 16,Az 18 17]
def kn:LSO:=[Al 6]
def kl:LSO:=[Aa 19 1,Ak 20 38 19,Aa 7 20]
def kk:LSO:=[Aa 21 0,A5 22 21,Ad 23 2 22,Ac 24 1 23,Aa 25 7,o1 26 (.mget .str false .nilmap (tm 24) (tm 25)),Ak 27 40 26,Aa 8 27]
def kj:LSO:=[Aa 28 2,Ai 29 28,Ab 30 0]
def ki:LSO:=[Aj 31 30 29]
def kg:LSO:=[Am 32 2 28 30,As 33 2 32,BI 10,Ao 2 10 33]
def kf:LSO:=[Ad 34 1 10,Ac 35 1 34,Aa 11 35]
def ke:LSO:=[Aa 36 0,A5 37 36,Ad 38 0 37,Ac 39 1 38,Aa 40 7,
 o1 41 (.mget .str false (.agg [(.str []),(.int .i64 0),(.bool false),(.bool false)]) (tm 39) (tm 40)),o1 42 (.field false 1 1 (tm 41)),AC 43 42 2]
def iQ:LSO:=[Aa 44 11,Ak 45 38 44,Aa 11 45]
def iP:LSO:=[Aa 46 11,Ak 47 41 46,Ai 48 47,Ab 49 0]
def iO:LSO:=[Aj 50 49 48]
def iN:LSO:=[Am 51 1 47 49,Ac 52 1 51,Aa 13 52]
def iM:LSO:=[Aa 53 0,A5 54 53,Ad 55 3 54,Ac 56 1 55,Aa 57 7,Aa 58 13,
 o1 59 (.build [(.str []),(.bool false),(.str [])] [(0,(1,(tm 57))),(1,(1,(.av (.bool true)))),(2,(1,(tm 58)))]),BH 60 56 59,o1 14 (.alloc [.nilmap]),Ao 1 14 60]
def iL:LSO:=[Aa 61 8,o1 62 (.mkfn 43 [(tm 14)]),Aq 63 42 61 62]
def iK:LSO:=[Ah 64 49 1,Aa 49 64]
def iJ:LSO:=[Ah 65 30 1,Aa 30 65]
def iI:LSO:=[Aa 66 8,Ak 67 44 66,Aa 6 67]
def dz:be:=⟨68,(.seq (.sreg kp [])
 (.seq (.seq (.sreg ko Cj)
 (.cond (tm 18) (.seq (.sreg kn [])
 .ret)
 .skip))
 (.seq (.sreg kl Ci)
 (.seq (.sreg kk Cr)
 (.seq (.seq (.sreg kj [])
 (.block 0 (.loop (.seq (.sreg ki [])
 (.seq (.cond (tm 31) .skip
 (.exit 0))
 (.seq (.block 1 (.seq (.sreg kg Ci)
 (.seq (.sreg kf Ci)
 (.seq (.seq (.sreg ke Cr)
 (.cond (tm 43) (.sreg iQ Ci)
 .skip))
 (.seq (.sreg iP Cx)
 (.block 2 (.loop (.seq (.sreg iO [])
 (.seq (.cond (tm 50) .skip
 (.exit 2))
 (.seq (.block 3 (.seq (.sreg iN Ci)
 (.seq (.sreg iM Cu)
 (.sreg iL CE))))
 (.sreg iK Ch)))))))))))
 (.sreg iJ Ch)))))))
 (.seq (.sreg iI Ci)
 .ret)))))),[(.tmp 6)]⟩
attribute [push_cast] kp ko kn kl kk kj ki kg kf ke iQ iP iO iN iM iL iK iJ iI
theorem i6:br Tryz.prog (fun _ _=>1) 13=some dz.raw:=by kernel_rfl
def gx:LSO:=[Ae 5]
def gw:LSO:=[Ac 6 1 2,Aa 7 0,o1 8 (.mget .int false (.bool false) (tm 6) (tm 7)),Az 9 8,Aa 5 9]
def cZ:be:=⟨10,(.seq (.sreg gx [])
 (.seq (.sreg gw Ck)
 .ret)),[(.tmp 5)]⟩
attribute [push_cast] gx gw
theorem fG:br Tryz.prog (fun _ _=>1) 43=some cZ.raw:=by kernel_rfl
def cE:LSO:=[Aa 6 0,o1 7 (.mrange (tm 6))]
def cD:LSO:=[o1 8 (.mnext (tm 7)),Ar 9 8]
def cC:LSO:=[o1 10 (.mentry (tm 7)),Ar 11 10,Aw 12 10,Aa 4 11,Aa 5 12]
def cB:LSO:=[Aa 13 1,Aa 14 4,Aa 15 5,o1 16 (.callv (tm 13) [(tm 14),(tm 15)])]
def cA:LSO:=[Aa 17 0,Aa 18 4,o0 (.mdel .int (tm 17) (tm 18))]
def bJ:be:=⟨19,(.seq (.sreg cE Ch)
 (.block 0 (.loop (.seq (.sreg cD Ch)
 (.seq (.cond (tm 9) .skip
 (.exit 0))
 (.block 1 (.seq (.sreg cC Cp)
 (.seq (.sreg cB Cj)
 (.cond (tm 16) (.sreg cA CA)
 .skip))))))))),[]⟩
attribute [push_cast] cE cD cC cB cA
theorem dT:br Tryz.prog (fun _ _=>1) 42=some bJ.raw:=by kernel_rfl
attribute [push_cast] ED ox fv gP cf dA ba dF cL bA dz
end Go.Proofs.YtcmfcpjnhephaaaGreatDoor.Av
