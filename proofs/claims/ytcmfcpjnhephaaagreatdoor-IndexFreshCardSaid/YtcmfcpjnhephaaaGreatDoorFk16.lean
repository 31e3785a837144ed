/- Joined texts of the walk, made small by a program. -/
import Derived.Test.YtcmfcpjnhephaaaGreatDoorFk4
import Derived.Test.YtcmfcpjnhephaaaGreatDoorRows
import Derived.KernelRfl
import Derived.Test.YtcmfcpjnhephaaaGreatDoorFk12
import Derived.Test.YtcmfcpjnhephaaaGreatDoorFk15
import Derived.Test.YtcmfcpjnhephaaaGreatDoorFk8
import Derived.Test.YtcmfcpjnhephaaaGreatDoorFk6
set_option linter.unusedSimpArgs false
set_option linter.unusedVariables false
set_option maxRecDepth 100000
namespace Go.Proofs.YtcmfcpjnhephaaaGreatDoor.Av
open Go
def Hu:LSO:=[Ab 4 0]
def Ht:LSO:=[Aa 6 0,Al 7 6,Ab 8 0]
def Hs:LSO:=[Ak 9 8 7]
def Hr:LSO:=[Aa 10 8,Aa 5 10]
def Hq:LSO:=[Aa 11 0,Aa 12 5,An 13 4 11 12,Ad 14 0 13,Ac 15 1 14,Ai 16 39 15,Aa 17 1,Ai 18 39 17,AA 19 16 18]
def Hp:LSO:=[Aa 20 5,Aa 4 20]
def Ho:LSO:=[Ah 21 8 1,Aa 8 21]
def Hn:LSO:=[Ab 4 (-1)]
def GK:br:=⟨22,(.seq (.sreg Hu [])
 (.seq (.seq (.sreg Ht Cj)
 (.block 0 (.loop (.seq (.sreg Hs [])
 (.seq (.cond (tm 9) .skip
 (.exit 0))
 (.seq (.block 1 (.seq (.sreg Hr Cd)
 (.seq (.sreg Hq Cr)
 (.cond (tm 19) (.seq (.sreg Hp Cd)
 .ret)
 .skip))))
 (.sreg Ho Cd)))))))
 (.seq (.sreg Hn [])
 .ret))),[(.tmp 4)]⟩
attribute [push_cast] Hu Ht Hs Hr Hq Hp Ho Hn
theorem MV:bt Tryz.prog (fun _ _=>1) 12=some GK.raw:=by kernel_rfl
def oH:LSO:=[Aj 4]
def oG:LSO:=[Aa 7 0,Al 8 7,Ab 9 0]
def oF:LSO:=[Ak 10 9 8]
def oE:LSO:=[An 11 2 7 9,Aw 12 2 11,Bk 6,Ao 2 6 12]
def oD:LSO:=[Ad 13 0 6,Ac 14 1 13,Ai 15 39 14,Aa 16 1,Ai 17 39 16,AA 18 15 17]
def oC:LSO:=[o1 19 (.bslice false 1 0 [] []),Ad 20 1 6,Ac 21 1 20,Bj 22 19 21,Aa 4 22]
def oB:LSO:=[Ah 23 9 1,Aa 9 23]
def oA:LSO:=[Aj 4]
def mC:br:=⟨24,(.seq (.sreg oH [])
 (.seq (.seq (.sreg oG [])
 (.block 0 (.loop (.seq (.sreg oF [])
 (.seq (.cond (tm 10) .skip
 (.exit 0))
 (.seq (.block 1 (.seq (.sreg oE Ce)
 (.seq (.sreg oD Ch)
 (.cond (tm 18) (.seq (.sreg oC Cg)
 .ret)
 .skip))))
 (.sreg oB Cd)))))))
 (.seq (.sreg oA [])
 .ret))),[(.tmp 4)]⟩
attribute [push_cast] oH oG oF oE oD oC oB oA
theorem IJ:bt Tryz.prog (fun _ _=>1) 15=some mC.raw:=by kernel_rfl
def wr:LSO:=[Am 4]
def wq:LSO:=[Aa 8 0,Aa 9 1,Aq 10 45 8 9,Aa 7 10,Ar 11 7,Au 12 7,Aa 5 11,Aa 6 12]
def wp:LSO:=[Aa 13 5,Aa 4 13]
def rD:br:=⟨14,(.seq (.sreg wr [])
 (.seq (.sreg wq [false,true,false,false,false,false,false,false])
 (.seq (.sreg wp Cd)
 .ret))),[(.tmp 4)]⟩
attribute [push_cast] wr wq wp
theorem KC:bt Tryz.prog (fun _ _=>1) 164=some rD.raw:=by kernel_rfl
def Hm:LSO:=[Af 6]
def Hl:LSO:=[Aa 9 1,Al 10 9,Ab 11 0]
def Hk:LSO:=[Ak 12 11 10]
def Hj:LSO:=[An 13 1 9 11,Ac 14 1 13,Aa 8 14]
def Hi:LSO:=[Aa 15 0,Aa 16 8,Aq 17 164 15 16,Aa 18 2,AA 19 17 18]
def Hh:LSO:=[Ay 6]
def Hg:LSO:=[Ah 20 11 1,Aa 11 20]
def Hf:LSO:=[Af 6]
def GJ:br:=⟨21,(.seq (.sreg Hm [])
 (.seq (.seq (.sreg Hl [])
 (.block 0 (.loop (.seq (.sreg Hk [])
 (.seq (.cond (tm 12) .skip
 (.exit 0))
 (.seq (.block 1 (.seq (.sreg Hj Ce)
 (.seq (.sreg Hi Cg)
 (.cond (tm 19) (.seq (.sreg Hh [])
 .ret)
 .skip))))
 (.sreg Hg Cd)))))))
 (.seq (.sreg Hf [])
 .ret))),[(.tmp 6)]⟩
attribute [push_cast] Hm Hl Hk Hj Hi Hh Hg Hf
theorem MU:bt Tryz.prog (fun _ _=>1) 127=some GJ.raw:=by kernel_rfl
def wF:LSO:=[Aj 6]
def wD:LSO:=[Aj 7]
def wC:LSO:=[Af 8]
def wB:LSO:=[Aa 11 1,Al 12 11,Ab 13 0]
def wA:LSO:=[Ak 14 13 12]
def wz:LSO:=[An 15 1 11 13,Ac 16 1 15,Aa 10 16]
def wy:LSO:=[Aa 17 8,Az 18 17,Aa 19 18,.grp none 19 true
 [Ag 20 19 0,Ag 21 19 2,BI 22 19 164 20 21,Ag 23 19 0,Ag 24 19 10,BI 25 19 164 23 24,og 26 19 true (.bin .lss (tm 22) (tm 25))]
 27 (tm 26)]
def ww:LSO:=[Aa 28 7,Aa 29 2,Br 30 29,Bj 31 28 30,Aa 7 31]
def wu:LSO:=[Ay 8]
def wt:LSO:=[Aa 32 7,Aa 33 10,Br 34 33,Bj 35 32 34,Aa 7 35]
def sw:LSO:=[Ah 36 13 1,Aa 13 36]
def sv:LSO:=[Aa 37 8,Az 38 37]
def su:LSO:=[Aa 39 7,Aa 40 2,Br 41 40,Bj 42 39 41,Aa 7 42]
def sq:LSO:=[Aa 43 7,Aa 6 43]
def rE:br:=⟨44,(.seq (.sreg wF [])
 (.seq (.sreg wD [])
 (.seq (.sreg wC [])
 (.seq (.seq (.sreg wB [])
 (.block 0 (.loop (.seq (.sreg wA [])
 (.seq (.cond (tm 14) .skip
 (.exit 0))
 (.seq (.block 1 (.seq (.sreg wz Ce)
 (.seq (.seq (.sreg wy Cf)
 (.cond (tm 27) (.seq (.sreg ww Cg)
 (.sreg wu []))
 .skip))
 (.sreg wt Cg))))
 (.sreg sw Cd)))))))
 (.seq (.seq (.sreg sv Cd)
 (.cond (tm 38) (.sreg su Cg)
 .skip))
 (.seq (.sreg sq Cd)
 .ret)))))),[(.tmp 6)]⟩
attribute [push_cast] wF wD wC wB wA wz wy ww wu wt sw sv su sq
theorem KD:bt Tryz.prog (fun _ _=>1) 128=some rE.raw:=by kernel_rfl
def D4:LSO:=[A5 3 0,Aj 6,Ab 7 0]
def D3:LSO:=[Aa 12 2,Al 13 12,Ab 14 0]
def D2:LSO:=[Ak 15 14 13]
def D1:LSO:=[An 16 1 12 14,Ac 17 1 16,Aa 9 17]
def DZ:LSO:=[Ad 19 1 3,Ac 20 1 19,Aa 21 9,Aq 22 45 20 21,Aa 18 22,Ar 23 18,Au 24 18,Aa 10 23,Aa 11 24]
def DY:LSO:=[Aa 25 11,Az 26 25]
def DX:LSO:=[Aj 6,Ab 7 21]
def DW:LSO:=[Ad 27 1 3,Ac 28 1 27,Aa 29 1,Aa 30 10,Ba 31 127 28 29 30]
def DV:LSO:=[Aj 6,Ab 7 20]
def DU:LSO:=[Ad 32 1 3,Ac 33 1 32,Aa 34 1,Aa 35 9,Ba 36 128 33 34 35,Aa 1 36]
def wJ:LSO:=[Ah 37 14 1,Aa 14 37]
def wI:LSO:=[Ad 38 2 3,Ac 39 1 38,Aa 40 39,.grp none 40 true
 [Ag 41 40 1,BF 42 40 41,og 43 40 true (.bin .gtr (tm 42) (iv 1))]
 44 (tm 43)]
def wH:LSO:=[Aj 6,Ab 7 19]
def wG:LSO:=[Aa 45 1,Aa 6 45,Ab 7 0]
def CQ:br:=⟨46,(.seq (.sreg D4 [])
 (.seq (.seq (.sreg D3 [])
 (.block 0 (.loop (.seq (.sreg D2 [])
 (.seq (.cond (tm 15) .skip
 (.exit 0))
 (.seq (.block 1 (.seq (.sreg D1 Ce)
 (.seq (.sreg DZ C0)
 (.seq (.seq (.sreg DY Cd)
 (.cond (tm 26) (.seq (.sreg DX [])
 .ret)
 .skip))
 (.seq (.seq (.sreg DW Cg)
 (.cond (tm 31) (.seq (.sreg DV [])
 .ret)
 .skip))
 (.sreg DU Ch))))))
 (.sreg wJ Cd)))))))
 (.seq (.seq (.sreg wI Cf)
 (.cond (tm 44) (.seq (.sreg wH [])
 .ret)
 .skip))
 (.seq (.sreg wG Cj)
 .ret)))),[(.tmp 6),(.tmp 7)]⟩
attribute [push_cast] D4 D3 D2 D1 DZ DY DX DW DV DU wJ wI wH wG
theorem Mg:bt Tryz.prog (fun _ _=>1) 83=some CQ.raw:=by kernel_rfl
def Ee:LSO:=[Aj 6]
def Ed:LSO:=[Aj 7]
def Ec:LSO:=[Aa 11 2,Al 12 11,As 13 12 0,Aa 8 13]
def Eb:LSO:=[Aa 14 0,Al 15 14,Ab 16 0]
def Ea:LSO:=[Ak 17 16 15]
def D9:LSO:=[An 18 2 14 16,Aw 19 2 18,Bk 10,Ao 2 10 19]
def D8:LSO:=[Aa 20 8,Az 21 20,Aa 22 21,.grp none 22 true
 [Ag 23 22 1,AF 24 22 39 23,Bl 25 22 0 10,Bd 26 22 1 25,AF 27 22 39 26,og 28 22 true (.bin .leq (tm 24) (tm 27))]
 29 (tm 28)]
def D7:LSO:=[Aa 30 7,Aa 31 1,Aa 32 2,o1 33 (.build [(.str []),(.sl [] 0 (some 0))] [(0,(1,(tm 31))),(1,(1,(tm 32)))]),Bu 34 33,Ca 35 30 34,Aa 7 35]
def D6:LSO:=[Ay 8]
def D5:LSO:=[Aa 36 1,Ai 37 39 36,Ad 38 0 10,Ac 39 1 38,Ai 40 39 39,Bv 41 37 40]
def wW:LSO:=[Aa 42 7,Aw 43 2 10,Bu 44 43,Ca 45 42 44,Aa 7 45]
def wV:LSO:=[Ah 46 16 1,Aa 16 46]
def wU:LSO:=[Aa 47 8,Az 48 47]
def wT:LSO:=[Aa 49 7,Aa 50 1,Aa 51 2,o1 52 (.build [(.str []),(.sl [] 0 (some 0))] [(0,(1,(tm 50))),(1,(1,(tm 51)))]),Bu 53 52,Ca 54 49 53,Aa 7 54]
def wS:LSO:=[Aa 55 7,Aa 6 55]
def CR:br:=⟨56,(.seq (.sreg Ee [])
 (.seq (.sreg Ed [])
 (.seq (.sreg Ec Cf)
 (.seq (.seq (.sreg Eb [])
 (.block 0 (.loop (.seq (.sreg Ea [])
 (.seq (.cond (tm 17) .skip
 (.exit 0))
 (.seq (.block 1 (.seq (.sreg D9 Ce)
 (.seq (.seq (.sdreg D8 [.pure,.pure,.pure,.pure,(.read 0 0),.pure,(.read 0 0)] Cf)
 (.cond (tm 29) (.seq (.sreg D7 Ci)
 (.sreg D6 []))
 .skip))
 (.seq (.sdreg D5 [.pure,(.read 0 0),.pure,(.read 0 0)] Ch)
 (.cond (tm 41) (.sreg wW Cg)
 .skip)))))
 (.sreg wV Cd)))))))
 (.seq (.seq (.sreg wU Cd)
 (.cond (tm 48) (.sreg wT Ci)
 .skip))
 (.seq (.sreg wS Cd)
 .ret)))))),[(.tmp 6)]⟩
attribute [push_cast] Ee Ed Ec Eb Ea D9 D8 D7 D6 D5 wW wV wU wT wS
theorem Mh:bt Tryz.prog (fun _ _=>1) 84=some CR.raw:=by kernel_rfl
def xe:LSO:=[A5 2 0,Aj 4,Ab 5 0]
def xd:LSO:=[Aj 6]
def xc:LSO:=[Aa 12 1,Al 13 12,Ab 14 0]
def xa:LSO:=[Ak 15 14 13]
def w9:LSO:=[An 16 2 12 14,Aw 17 2 16,Bk 8,Ao 2 8 17]
def w8:LSO:=[Ad 18 0 2,Ac 19 1 18,Ad 20 0 8,Ac 21 1 20,Aq 22 12 19 21,Aa 9 22]
def w7:LSO:=[Aa 23 9,AL 24 23 0]
def wZ:LSO:=[Aj 4,Ab 5 17]
def wY:LSO:=[Ad 25 1 8,Ac 26 1 25,Al 27 26,As 28 27 0]
def wX:LSO:=[Aj 4,Ab 5 19]
def sF:LSO:=[Ad 30 0 2,Ac 31 1 30,Aa 32 9,An 33 4 31 32,Aw 34 4 33,Aa 35 6,Ad 36 0 8,Ac 37 1 36,Aq 38 15 35 37,Ad 39 1 8,Ac 40 1 39,Ba 41 83 34 38 40,Aa 29 41,
 Ar 42 29,Au 43 29,Aa 10 42,Aa 11 43]
def sE:LSO:=[Aa 44 11,AC 45 44 0]
def sD:LSO:=[Aa 46 11,Aj 4,Aa 5 46]
def sB:LSO:=[Aa 47 6,Ad 48 0 2,Ac 49 1 48,Aa 50 9,An 51 4 49 50,Ad 52 0 51,Ac 53 1 52,Aa 54 10,Ba 55 84 47 53 54,Aa 6 55]
def sA:LSO:=[Ah 56 14 1,Aa 14 56]
def sy:LSO:=[Aa 57 6,Aa 4 57,Ab 5 0]
def rG:br:=⟨58,(.seq (.sreg xe [])
 (.seq (.sreg xd [])
 (.seq (.seq (.sreg xc [])
 (.block 0 (.loop (.seq (.sreg xa [])
 (.seq (.cond (tm 15) .skip
 (.exit 0))
 (.seq (.block 1 (.seq (.sreg w9 Ce)
 (.seq (.sreg w8 Ch)
 (.seq (.seq (.sreg w7 Cd)
 (.cond (tm 24) (.seq (.sreg wZ [])
 .ret)
 .skip))
 (.seq (.seq (.sreg wY Cf)
 (.cond (tm 28) (.seq (.sreg wX [])
 .ret)
 .skip))
 (.seq (.sdreg sF [.pure,(.read 0 0),.pure,(.read 0 0),(.read 0 0),.pure,.pure,(.read 0 0),(.read 0 0),.pure,(.read 0 0),(.read 0 0),.pure,.pure,.pure,.pure] [true,true,false,false,false,false,false,false,false,false,false,false,false,false,false,false,false])
 (.seq (.seq (.sreg sE Cd)
 (.cond (tm 45) (.seq (.sreg sD Cj)
 .ret)
 .skip))
 (.sreg sB C2))))))))
 (.sreg sA Cd)))))))
 (.seq (.sreg sy Cj)
 .ret)))),[(.tmp 4),(.tmp 5)]⟩
attribute [push_cast] xe xd xc xa w9 w8 w7 wZ wY wX sF sE sD sB sA sy
theorem KF:bt Tryz.prog (fun _ _=>1) 34=some rG.raw:=by kernel_rfl
attribute [push_cast] GK mC rD GJ rE CQ CR rG
variable {L:List Blk} {K:Zy}
set_option maxHeartbeats 8000000
set_option maxRecDepth 100000
theorem Y8 {ts:List Typ} {cap:Option Nat} {n:List UInt8} (hl:ts.length<=1100000) (hts:∀ t∈ts,bd t.1) (hn:bd n) (h1:eD ts n=none->K (.int .i64 (-1)) L) (h2:∀ k:Nat,k<ts.length->eD ts n=some (ts.getD k lW)->K (.int .i64 k) L) :
  Zx 12 [.sl (cy ts) ts.length cap,.str n] L K:=by
 replace h1:=hid h1;replace h2:=hid h2;refine Zw MV ?_;refine ak (fun m T' L'=>∃ k:Nat,m=ts.length - k/\k<=ts.length/\T'=[(8,.int .i64 (k:Int)),(7,.int .i64 ts.length),(0,.sl (cy ts) ts.length cap),(1,.str n)]/\L=L' /\
  ∀ j,j<k->¬ ab (ts.getD j lW).1=ab n) (CutS (b:=ZA _)) ⟨0,rfl,ZI _,rfl,rfl,by simp⟩ ?_
 rintro _ _ L' ⟨k,rfl,hk,rfl,e,hr⟩;subst e;replace hr:=hid hr;by_cases hlt:k<ts.length
 ·have g1:(k:Int)<(ts.length:Int):=by omega
  have g2:=Zv k (by omega);have e4:k * 4<(cy ts).length:=by rw [G3];omega
  have e3:(cy ts).getD (k * 4) .undef=.str (ts.getD k lW).1:=by
   have h3:=congrArg (fun l=>l[0]?) (Dm hlt);simp only [aas (show 0<4 by omega),aan,aaP] at h3;rw [Z2,h3];rfl
  obtain ⟨ty,hty⟩:=Zt (ts.getD k lW);have hm:bd ty.1:=hts _ (by rw [<- hty];simp [hlt]);rw [hty] at e3;replace hty:=hid hty;by_cases hq:ab ty.1=ab n
  ·have e:eD ts n=some (ts.getD k lW):=GC (d:=lW) hlt (fun j hj=>decide_eq_false (hr.out j hj)) (by rw [hty.out];exact decide_eq_true hq);have h':=hid (h2.out k hlt e);have kk1:=@hid _ (fun L K=>bX hm (L:=L) (K:=K));have kk2:=@hid _ (fun L K=>bX hn (L:=L) (K:=K));refine wk ?_;exact aa h'.out
  ·have kk1:=@hid _ (fun L K=>bX hm (L:=L) (K:=K));have kk2:=@hid _ (fun L K=>bX hn (L:=L) (K:=K));refine wk ?_;refine aj _ _ _ (by omega) (CutL (b:=by simp)) ⟨k+1,rfl,hlt,rfl,rfl,fun j hj=>?_⟩;rcases ZT j k with h|h
   ·exact hr.out j h
   ·have:j=k:=by omega
    subst this;rw [hty.out];exact hq
 ·have g1:¬ (k:Int)<(ts.length:Int):=by omega
  have h':=hid (h1.out (acl.2 fun ty hty=>by
   obtain ⟨j,hj,e⟩:=aa1.1 hty;have:=hr.out j (by omega);simpa [hj,e] using this))
  refine wk ?_;exact aa h'.out
theorem Gn {syn:Int} {v:List UInt8} {L:List Blk} {K:Zy} (h:K (.str (ft syn v)) L):Zx 164 [.int .i64 syn,.str v] L K:=by
 unfold ft at h;refine Zw KC ?_;refine JK ?_;rcases hm:cW syn v with _|m
 all_goals rw [hm] at h
 ·replace h:Hid (K (.str []) L):=hid h;simp only [Lz];refine sk ?_;refine wk ?_;exact aa h.out
 ·replace h:Hid (K (.str m) L):=hid h;simp only [Lz];refine sk ?_;refine wk ?_;exact aa h.out
theorem Y0 {syn:Int} {l:List (List UInt8)} {cap:Option Nat} {n:List UInt8} (hl:l.length<=1100000) (h:K (.bool (inM syn l n)) L) :
  Zx 127 [.int .i64 syn,.sl (l.map AV.str) l.length cap,.str n] L K:=by
 obtain ⟨R,hR⟩:=Zt (inM syn l n);rw [hR] at h;replace h:=hid h;refine Zw MU ?_;refine ak (fun m T' L'=>∃ k:Nat,m=l.length - k/\k<=l.length/\Hid (inM syn (l.drop k) n=R)/\T'=[(11,.int .i64 (k:Int)),(10,.int .i64 l.length),(9,.sl (l.map AV.str) l.length cap),(0,.int .i64 syn),(2,.str n)]/\L=L') (CutS (b:=ZA _)) ⟨0,rfl,ZI _,hid (by simpa using hR),rfl,rfl⟩ ?_;rintro _ _ L' ⟨k,rfl,hk,hI,rfl,e⟩;subst e;by_cases hlt:k<l.length
 ·have g1:(k:Int)<(l.length:Int):=by omega
  have g2:=Zv k (by omega);obtain ⟨v,hv⟩:=Zt (l.getD k []);have g3:(l.map AV.str).getD k .undef=.str v:=by rw [<- hv];simp [hlt]
  have hdr:l.drop k=v::l.drop (k+1):=by rw [aal hlt,<- hv];simp [hlt]
  have hI2:=hI.out;rw [hdr,inM,List.any_cons] at hI2;clear hv hdr hI hR;by_cases hq:ft syn v=n
  ·rw [decide_eq_true hq,abI] at hI2;have h':=h.out;rw [<- hI2] at h';replace h':=hid h';clear hI2;have kk1:=@hid _ @Gn;refine wk ?_;exact aa h'.out
  ·rw [decide_eq_false hq,aa2] at hI2;replace hI2:=hid hI2;have kk1:=@hid _ @Gn;refine wk ?_;exact aj _ _ _ (by omega) (CutL (b:=by simp)) ⟨k+1,rfl,hlt,hI2,rfl,rfl⟩
 ·have hke:k=l.length:=by omega
  subst hke;have g1:¬ (l.length:Int)<(l.length:Int):=by omega
  have h':=h.out;rw [<- hI.out,aai] at h';replace h':=hid h';clear hI hR;refine wk ?_;exact aa h'.out
theorem Yd {syn:Int} {l:List (List UInt8)} {cap:Option Nat} {v:List UInt8} (hl:l.length<=1100000) (h:K (G9 (ff syn v false l)) L) :
  Zx 128 [.int .i64 syn,.sl (l.map AV.str) l.length cap,.str v] L K:=by
 obtain ⟨R,hR⟩:=Zt (ff syn v false l);rw [hR] at h;replace h:=hid h;refine Zw KD ?_;refine cG (l:=[]) (n:=0) 7 1 rfl (aae 1).symm ?_;refine ak (fun m T' L'=>∃ (k:Nat) (d:Bool) (u:List (List UInt8)) (C:List AV) (n:Nat),m=l.length - k/\k<=l.length/\n<=k+1/\(d=false->n<=k)/\Hid (C=u.map AV.str/\n=u.length)/\Hid (u++ff syn v d (l.drop k)=R)/\T'=[(13,.int .i64 (k:Int)),(12,.int .i64 l.length),(11,.sl (l.map AV.str) l.length cap),(8,.bool d),(7,.gsl C n L.length 1),(0,.int .i64 syn),(2,.str v)]/\L'=L++[.spare n 1]) (CutS (b:=by simp)) ⟨0,false,[],[],0,rfl,ZI _,by simp,by simp,hid ⟨rfl,rfl⟩,hid (by simpa using hR),rfl,rfl⟩ ?_;rintro _ _ _ ⟨k,d,u,C,n,rfl,hk,hul,hul2,hC,hI,rfl,rfl⟩;by_cases hlt:k<l.length
 ·have g1:(k:Int)<(l.length:Int):=by omega
  have g2:=Zv k (by omega);obtain ⟨x,hx⟩:=Zt (l.getD k []);have g3:(l.map AV.str).getD k .undef=.str x:=by rw [<- hx];simp [hlt]
  have hdr:l.drop k=x::l.drop (k+1):=by rw [aal hlt,<- hx];simp [hlt]
  have hI2:=hI.out;rw [hdr,ff] at hI2;clear hx hdr hI hR;have fin:∀ (y:List UInt8),(C++[.str y]=(u++[y]).map AV.str/\n+1=(u++[y]).length):=fun y=>by
   obtain ⟨rfl,rfl⟩:=hC.out;simp
  replace fin:=hid fin;replace hI2:=hid hI2;cases d with
  | true =>
    have hI3:=hI2.out;rw [if_neg (by simp)] at hI3;simp only [aab,abI] at hI3;replace hI3:=hid hI3;clear hI2;have kk1:=@hid _ @Gn;refine wk ?_;refine aj _ _ _ (by omega) (CutL (b:=by simp)) ⟨k+1,true,u++[x],C++[.str x],n+1,rfl,hlt,by omega,by simp,hid (fin.out x),hid (by simpa using hI3.out),rfl,rfl⟩
  | false =>
    have hul3:=hul2 rfl
    repeat' first
     | refine bb ?_
     | (first|refine aU (by kernel_rfl) ?_|refine aA (by kernel_rfl) ?_|refine aD ?_|refine bS ?_|refine bh (fun _=>?_)|refine ay ?_|refine aW ?_|refine Gn ?_|refine bg (Gn ⟨rfl,rfl⟩) (Gn ⟨rfl,rfl⟩) ?_|refine aL (Gn ⟨rfl,rfl⟩) ?_)
       refine sm ?_
     | (first|refine aP (by kernel_rfl) ?_|refine aQ ?_|refine aC ?_|refine aV ?_|refine bq (ax ?_))
       refine sl ?_
     | exact bj
     | first|apply bm|apply aR|apply bo|apply aS|apply bp|apply aT
     | refine aG ?_
     | refine aB ?_
     | first|refine aE rfl ?_|refine aF rfl ?_|refine an rfl ?_ ?_|refine aI rfl (fun _=>?_) (fun _=>?_)|refine aH rfl (fun _=>?_) (fun _=>?_)
     | ((first|refine am (fun _=>?_) (fun _=>?_)|refine aw (fun _=>?_) (fun _=>?_))<;>try refine sm ?_)
     | refine And.intro trivial ?_
     | refine And.intro (by omega) ?_
     | refine aM rfl (fun _=>?_) (fun _=>?_)
     | refine And.intro ?_ ?_
    ·rename_i hq
     rw [bytesLess_eq,decide_eq_true_eq] at hq;have hI3:=hI2.out;rw [if_pos ⟨rfl,hq⟩,decide_eq_true hq,abW] at hI3;refine aj _ _ _ (by omega) (CutL (b:=by simp)) ⟨k+1,true,u++[v]++[x],C++[.str v]++[.str x],n+1+1,rfl,hlt,by omega,by simp,hid ?_,hid (by simpa using hI3),rfl,rfl⟩;obtain ⟨rfl,rfl⟩:=hC.out;simp
    ·rename_i hq
     rw [bytesLess_eq,decide_eq_false_iff_not] at hq;have hI3:=hI2.out;rw [if_neg (fun e=>hq e.2),decide_eq_false hq] at hI3;refine aj _ _ _ (by omega) (CutL (b:=by simp)) ⟨k+1,false,u++[x],C++[.str x],n+1,rfl,hlt,by omega,by omega,hid (fin.out x),hid (by simpa using hI3),rfl,rfl⟩
 ·have hke:k=l.length:=by omega
  subst hke;have g1:¬ (l.length:Int)<(l.length:Int):=by omega
  have hI2:=hI.out;rw [aai,ff] at hI2;have e0:AV.frzL (R.map AV.str)=R.map AV.str:=dD R;have hfin:∀ X:List Blk,Fin L (.sl (R.map AV.str) R.length none) (L++X) K:=fun X=>ae (by simp only [AV.refs,fA]) h.out
  replace hfin:=hid hfin;cases d with
  | true =>
    rw [if_pos rfl,aah] at hI2;subst hI2;refine wk ?_;refine bv ?_;simp only [AV.frz];rw [hC.out.1,e0,hC.out.2];exact hfin.out _
  | false =>
    rw [if_neg (by simp)] at hI2;subst hI2;have hul3:=hul2 rfl;refine wk ?_;refine bv ?_;simp only [AV.frz];rw [show C++[AV.str v]=(u++[v]).map AV.str by rw [hC.out.1];simp,e0,show n+1=(u++[v]).length by rw [hC.out.2];simp];exact hfin.out _
theorem LB (syn:Int) (v:List UInt8):∀ (l:List (List UInt8)) (d:Bool),(ff syn v d l).length<=l.length+1
 | [],d=>by rw [ff];split<;>simp
 | x::t,d=>by
   rw [ff];by_cases h:d=false/\ft syn v<ft syn x
   ·rw [if_pos h,decide_eq_true h.2,abW,Gt];simp
   ·have:=LB syn v t (d || decide (ft syn v<ft syn x));rw [if_neg h];simp;omega
theorem X6 {ty:Typ} {l vs:List (List UInt8)} {cap capV:Option Nat} (hl:l.length+vs.length<=1100000) {R:List (List UInt8)×Int} (hR:dZ ty.2.1 ty.2.2.1 l vs=R) (h:K (.tup [G9 R.1,.int .i64 R.2]) L) :
  Zx 83 [.agg (tyC ty),.sl (l.map AV.str) l.length cap,.sl (vs.map AV.str) vs.length capV] L K:=by
 replace h:=hid h;replace hR:=hid hR;simp only [tyC];refine Zw Mg ?_;refine ak (fun m T' L'=>∃ (i:Nat) (u:List (List UInt8)) (cu:Option Nat),m=vs.length - i/\i<=vs.length/\u.length<=l.length+i/\Hid (dZ ty.2.1 ty.2.2.1 u (vs.drop i)=R)/\T'=[(14,.int .i64 (i:Int)),(13,.int .i64 vs.length),(12,.sl (vs.map AV.str) vs.length capV),(1,.sl (u.map AV.str) u.length cu),(3,.ptr L.length 0)]/\L'=L++[Blk.cells (tyC ty)]) (CutS (b:=by simp)) ⟨0,l,cap,rfl,ZI _,ZA _,hid (by simpa using hR.out),rfl,rfl⟩ ?_;rintro _ _ _ ⟨i,u,cu,rfl,hi,hul,hI,rfl,rfl⟩;simp only [tyC];by_cases hlt:i<vs.length
 ·have g1:(i:Int)<(vs.length:Int):=by omega
  have g2:=Zv i (by omega);obtain ⟨v,hv⟩:=Zt (vs.getD i []);have g3:(vs.map AV.str).getD i .undef=.str v:=by rw [<- hv];simp [hlt]
  have hdr:vs.drop i=v::vs.drop (i+1):=by rw [aal hlt,<- hv];simp [hlt]
  have hI2:=hI.out;rw [hdr] at hI2;have hu1:u.length<=1100000:=by omega
  clear hv hdr hI hR;refine wk ?_;refine JK ?_;rcases hn:cW ty.2.1 v with _|n
  ·rw [TM hn] at hI2;have h':=h.out;rw [<- hI2] at h';replace h':=hid h';simp only [Lz];clear hI2 hn;refine sk ?_;refine wk ?_;exact bv (ae rfl h'.out)
  rw [TK hn] at hI2;simp only [Lz];rcases hb:inM ty.2.1 u n with _|_
  rotate_left
  ·rw [if_pos hb] at hI2;have h':=h.out;rw [<- hI2] at h';replace h':=hid h';clear hI2 hn;refine sk ?_;have kk1:=@hid _ (fun L K=>Y0 (syn:=ty.2.1) (n:=n) (cap:=cu) hu1 (L:=L) (K:=K));refine wk ?_;exact bv (ae rfl h'.out)
  rw [if_neg (by rw [hb];simp)] at hI2;obtain ⟨u',hu'⟩:=Zt (ff ty.2.1 v false u);have hl':=LB ty.2.1 v u false;rw [hu'] at hI2 hl';replace hI2:=hid hI2;clear hn;refine sk ?_;have kk1:=@hid _ (fun L K=>Y0 (syn:=ty.2.1) (n:=n) (cap:=cu) hu1 (L:=L) (K:=K));have kk2:=@hid _ (fun L K=>Yd (syn:=ty.2.1) (v:=v) (cap:=cu) hu1 (L:=L) (K:=K));refine wk ?_;exact aj _ _ _ (by omega) (CutL (b:=by simp)) ⟨i+1,u',none,rfl,hlt,by omega,hI2,rfl,rfl⟩
 ·have hke:i=vs.length:=by omega
  subst hke;have g1:¬ (vs.length:Int)<(vs.length:Int):=by omega
  have hI2:=hI.out;rw [aai,dZ] at hI2;by_cases hs:ty.2.2.1=true/\1<u.length
  ·rw [if_pos hs] at hI2;have h':=h.out;rw [<- hI2] at h';replace h':=hid h';obtain ⟨hs1,hs2⟩:=hs;have g3:(1:Int)<(u.length:Int):=by omega
   clear hI hI2 hR hs2;refine wk ?_;exact bv (ae rfl h'.out)
  ·rw [if_neg hs] at hI2;have g3:(ty.2.2.1 && decide ((1:Int)<(u.length:Int)))=false:=by
    rcases hsg:ty.2.2.1 with _|_
    ·rfl
    ·simp only [aaw,decide_eq_false_iff_not];intro e;exact hs ⟨hsg,by omega⟩
   have h':=h.out;rw [<- hI2] at h';replace h':=hid h';clear hI hI2 hR hs;refine wk ?_;refine bv (ae ?_ ?_)
   ·simp only [AV.frz,AV.frzL,dD,AV.refs,AV.refsL,fA];rfl
   ·simp only [AV.frz,AV.frzL,dD];exact h'.out
theorem Ss {l:List Atr} {cap:Option Nat} {n:List UInt8} (hl:l.length<=1100000) (hz:∀ a∈l,bd a.1/\a.2.length<=1100000) (hn:bd n) (h:K (G9 (dz l n)) L) :
  Zx 15 [.sl (be l) l.length cap,.str n] L K:=by
 obtain ⟨R,hR⟩:=Zt (dz l n);rw [hR] at h;replace h:=hid h;replace hR:=hid hR;refine Zw IJ ?_;refine ak (fun m T' L'=>∃ (k:Nat) (X:List Blk),m=l.length - k/\k<=l.length/\Hid (dz (l.drop k) n=R)/\T'=[(9,.int .i64 (k:Int)),(8,.int .i64 l.length),(7,.sl (be l) l.length cap),(1,.str n)]/\L'=L++X) (CutS (b:=by simp)) ⟨0,[],rfl,ZI _,hid (by simpa using hR.out),rfl,by simp⟩ ?_;rintro _ _ _ ⟨k,X,rfl,hk,hI,rfl,rfl⟩;by_cases hlt:k<l.length
 ·have g1:(k:Int)<(l.length:Int):=by omega
  have g2:=Zv k (by omega);have e3:=l3 hlt;have e4:k * 2+2<=(be l).length:=by rw [kO];omega
  obtain ⟨⟨nm,vs⟩,ha⟩:∃ a,l.getD k ([],[])=a:=⟨_,rfl⟩;have hdr:l.drop k=(nm,vs)::l.drop (k+1):=by rw [aal hlt,<- ha];simp [hlt]
  obtain ⟨hnm,hvs⟩:=hz (nm,vs) (by rw [<- ha];simp [hlt]);simp only at hnm hvs;rw [ha] at e3;simp only [atA] at e3;have hI2:=hI.out;rw [hdr,dz] at hI2;simp only at hI2;clear hI hdr ha hz hR;by_cases hq:ab nm=ab n
  ·rw [if_pos hq] at hI2;subst hI2;have e0:AV.frzL (vs.map AV.str)=vs.map AV.str:=dD vs;have kk1:=@hid _ (fun L K=>bX hnm (L:=L) (K:=K));have kk2:=@hid _ (fun L K=>bX hn (L:=L) (K:=K));refine wk ?_;refine bv ?_;simp only [AV.frz,e0];exact ae (by simp only [AV.refs,fA]) h.out
  ·rw [if_neg hq] at hI2;replace hI2:=hid hI2;have kk1:=@hid _ (fun L K=>bX hnm (L:=L) (K:=K));have kk2:=@hid _ (fun L K=>bX hn (L:=L) (K:=K));refine wk ?_;exact aj _ _ _ (by omega) (CutL (b:=by simp)) ⟨k+1,_,rfl,hlt,hI2,rfl,rfl⟩
 ·have hke:k=l.length:=by omega
  subst hke;have g1:¬ (l.length:Int)<(l.length:Int):=by omega
  have hI2:=hI.out;rw [aai,dz] at hI2;subst hI2;refine wk ?_;exact bv (ae rfl h.out)
theorem X4 {l:List Atr} {cap capV:Option Nat} {n:List UInt8} {vs:List (List UInt8)} (hl:l.length<=1100000) (hz:∀ a∈l,bd a.1/\a.2.length<=1100000) (hn:bd n) (h:K (.sl (be (me n vs vs.isEmpty l)) (me n vs vs.isEmpty l).length none) L) :
  Zx 84 [.sl (be l) l.length cap,.str n,.sl (vs.map AV.str) vs.length capV] L K:=by
 obtain ⟨R,hR⟩:=Zt (me n vs vs.isEmpty l);rw [hR] at h;replace h:=hid h;obtain ⟨d0,hd0⟩:=Zt (vs.isEmpty);have hd1:decide ((vs.length:Int)=0)=d0:=by rw [<- hd0];cases vs<;>simp;omega
 rw [hd0] at hR;replace hR:=hid hR;have ev:AV.frzL (vs.map AV.str)=vs.map AV.str:=dD vs;replace hd0:=hid hd0;refine Zw Mh ?_;refine cG (l:=[]) (n:=0) 7 2 rfl (aae 2).symm ?_;refine ak (fun m T' L'=>∃ (k:Nat) (d:Bool) (u:List Atr) (C:List AV) (z:Nat) (X:List Blk),m=l.length - k/\k<=l.length/\z<=k+1/\(d=false->z<=k)/\Hid (C=be u/\z=u.length)/\Hid (u++me n vs d (l.drop k)=R)/\T'=[(16,.int .i64 (k:Int)),(15,.int .i64 l.length),(14,.sl (be l) l.length cap),(8,.bool d),(7,.gsl C z L.length 2),(1,.str n),(2,.sl (vs.map AV.str) vs.length capV)]/\L'=L++(.spare z 2::X)) (CutS (b:=by simp)) ⟨0,d0,[],[],0,[],rfl,ZI _,by simp,by simp,hid ⟨rfl,rfl⟩,hid (by simpa using hR.out),rfl,rfl⟩ ?_;rintro _ _ _ ⟨k,d,u,C,z,X,rfl,hk,hul,hul2,hC,hI,rfl,rfl⟩;by_cases hlt:k<l.length
 ·have g1:(k:Int)<(l.length:Int):=by omega
  have g2:=Zv k (by omega);have e3:=l3 hlt;have e4:k * 2+2<=(be l).length:=by rw [kO];omega
  obtain ⟨⟨nm,ws⟩,ha⟩:∃ a,l.getD k ([],[])=a:=⟨_,rfl⟩;have hdr:l.drop k=(nm,ws)::l.drop (k+1):=by rw [aal hlt,<- ha];simp [hlt]
  obtain ⟨hnm,hws⟩:=hz (nm,ws) (by rw [<- ha];simp [hlt]);simp only at hnm hws;rw [ha] at e3;simp only [atA] at e3;have ew:AV.frzL (ws.map AV.str)=ws.map AV.str:=dD ws;have hI2:=hI.out;rw [hdr,me] at hI2;simp only at hI2;have fin:∀ (C':List AV) (u':List Atr) (z':Nat) (a:Atr),C'=be u'/\z'=u'.length->C'++[.str a.1,.sl (a.2.map AV.str) a.2.length none]=be (u'++[a])/\z'+1=(u'++[a]).length:=fun C' u' z' a e=>by
   obtain ⟨rfl,rfl⟩:=e;simp [IQ,be]
  replace fin:=hid fin;replace hd1:=hid hd1;clear hI hdr ha hz hR;by_cases hx:ab nm<ab n
  ·have hq:ab n≠ab nm:=fun e=>by rw [e] at hx;exact aaL _ hx
   have hb:Op.bytesLess (ab n) (ab nm)=false:=by
    rw [bytesLess_eq,decide_eq_false_iff_not];exact fun e=>aaL _ (abB hx e)
   cases d with
   | true =>
     have hI3:=hI2;rw [if_neg (fun e=>by cases e.1),if_pos hq] at hI3;rw [show (true || !decide (ab nm<ab n))=true by simp [hx]] at hI3;replace hI3:=hid hI3;clear hI2;have kk1:=@hid _ (fun L K=>bX hn (L:=L) (K:=K));have kk2:=@hid _ (fun L K=>bX hnm (L:=L) (K:=K));refine wk ?_;exact aj _ _ _ (by omega) (CutL (b:=by simp)) ⟨k+1,true,u++[(nm,ws)],C++[.str nm,.sl (ws.map AV.str) ws.length none],z+1,_,rfl,hlt,by omega,by simp,hid (fin.out _ _ _ (nm,ws) hC.out),hid (by simpa using hI3.out),rfl,rfl⟩
   | false =>
     have hul3:=hul2 rfl;have hI3:=hI2;rw [if_neg (fun e=>e.2 hx),if_pos hq] at hI3;rw [show (false || !decide (ab nm<ab n))=false by simp [hx]] at hI3;replace hI3:=hid hI3;clear hI2;have kk1:=@hid _ (fun L K=>bX hn (L:=L) (K:=K));have kk2:=@hid _ (fun L K=>bX hnm (L:=L) (K:=K));refine wk ?_;exact aj _ _ _ (by omega) (CutL (b:=by simp)) ⟨k+1,false,u++[(nm,ws)],C++[.str nm,.sl (ws.map AV.str) ws.length none],z+1,_,rfl,hlt,by omega,by simp;omega,hid (fin.out _ _ _ (nm,ws) hC.out),hid (by simpa using hI3.out),rfl,rfl⟩
  ·by_cases hq:ab n=ab nm
   ·have hb:Op.bytesLess (ab n) (ab nm)=false:=by
     rw [bytesLess_eq,decide_eq_false_iff_not,hq];exact aaL _
    cases d with
    | true =>
      have hI3:=hI2;rw [if_neg (fun e=>by cases e.1),if_neg (fun e=>e hq)] at hI3;rw [show (true || !decide (ab nm<ab n))=true by simp [hx]] at hI3;replace hI3:=hid hI3;clear hI2;have kk1:=@hid _ (fun L K=>bX hn (L:=L) (K:=K));have kk2:=@hid _ (fun L K=>bX hnm (L:=L) (K:=K));refine wk ?_;exact aj _ _ _ (by omega) (CutL (b:=by simp)) ⟨k+1,true,u,C,z,_,rfl,hlt,by omega,by simp,hid hC.out,hid (by simpa using hI3.out),rfl,rfl⟩
    | false =>
      have hul3:=hul2 rfl;have hI3:=hI2;rw [if_pos ⟨rfl,hx⟩,if_neg (fun e=>e hq)] at hI3;rw [show (false || !decide (ab nm<ab n))=true by simp [hx]] at hI3;replace hI3:=hid hI3;clear hI2;have kk1:=@hid _ (fun L K=>bX hn (L:=L) (K:=K));have kk2:=@hid _ (fun L K=>bX hnm (L:=L) (K:=K));refine wk ?_;exact aj _ _ _ (by omega) (CutL (b:=by simp)) ⟨k+1,true,u++[(n,vs)],C++[.str n,.sl (vs.map AV.str) vs.length none],z+1,_,rfl,hlt,by omega,by simp,hid (fin.out _ _ _ (n,vs) hC.out),hid (by simpa using hI3.out),rfl,rfl⟩
   ·have hb:Op.bytesLess (ab n) (ab nm)=true:=by
     rw [bytesLess_eq,decide_eq_true_eq];exact (abK.1 (aaS.1 hx)).resolve_right hq
    cases d with
    | true =>
      have hI3:=hI2;rw [if_neg (fun e=>by cases e.1),if_pos hq] at hI3;rw [show (true || !decide (ab nm<ab n))=true by simp [hx]] at hI3;replace hI3:=hid hI3;clear hI2;have kk1:=@hid _ (fun L K=>bX hn (L:=L) (K:=K));have kk2:=@hid _ (fun L K=>bX hnm (L:=L) (K:=K));refine wk ?_;exact aj _ _ _ (by omega) (CutL (b:=by simp)) ⟨k+1,true,u++[(nm,ws)],C++[.str nm,.sl (ws.map AV.str) ws.length none],z+1,_,rfl,hlt,by omega,by simp,hid (fin.out _ _ _ (nm,ws) hC.out),hid (by simpa using hI3.out),rfl,rfl⟩
    | false =>
      have hul3:=hul2 rfl;have hI3:=hI2;rw [if_pos ⟨rfl,hx⟩,if_pos hq] at hI3;rw [show (false || !decide (ab nm<ab n))=true by simp [hx]] at hI3;replace hI3:=hid hI3;clear hI2;have kk1:=@hid _ (fun L K=>bX hn (L:=L) (K:=K));have kk2:=@hid _ (fun L K=>bX hnm (L:=L) (K:=K));refine wk ?_;exact aj _ _ _ (by omega) (CutL (b:=by simp)) ⟨k+1,true,u++[(n,vs)]++[(nm,ws)],C++[.str n,.sl (vs.map AV.str) vs.length none]++[.str nm,.sl (ws.map AV.str) ws.length none],z+1+1,_,rfl,hlt,by omega,by simp,hid (fin.out _ _ _ (nm,ws) (fin.out _ _ _ (n,vs) hC.out)),hid (by simpa using hI3.out),rfl,rfl⟩
 ·have hke:k=l.length:=by omega
  subst hke;have g1:¬ (l.length:Int)<(l.length:Int):=by omega
  have hI2:=hI.out;rw [aai,me] at hI2;have e0:=gq R;have hfin:∀ X:List Blk,Fin L (.sl (be R) R.length none) (L++X) K:=fun X=>ae (by simp only [AV.refs,Dx]) h.out
  replace hfin:=hid hfin;replace hd1:=hid hd1;clear hI hR;cases d with
  | true =>
    rw [if_pos rfl,aah] at hI2;subst hI2;refine wk ?_;refine bv ?_;simp only [AV.frz];rw [hC.out.1,e0,hC.out.2];exact hfin.out _
  | false =>
    rw [if_neg (by simp)] at hI2;subst hI2;have hul3:=hul2 rfl;refine wk ?_;refine bv ?_;simp only [AV.frz];rw [show C++[AV.str n,.sl (vs.map AV.str) vs.length none]=be (u++[(n,vs)]) by rw [hC.out.1,IQ];simp [be],e0,show z+1=(u++[(n,vs)]).length by rw [hC.out.2];simp];exact hfin.out _
theorem WQ {ts:List Typ} {capT:Option Nat} {c2:List AV} {n2:Nat} {cap2:Option Nat} {list:List Atr} {cap:Option Nat} (hts:Y9 ts) (hl:list.length<=100) (hv:∀ a∈list,bd a.1/\a.2.length<=9000) {R:List Atr×Int} (hR:qJ ts [] list=R) (h:K (.tup [.sl (be R.1) R.1.length none,.int .i64 R.2]) L) :
  Zx 34 [.agg [.sl (cy ts) ts.length capT,.sl c2 n2 cap2],.sl (be list) list.length cap] L K:=by
 replace h:=hid h;replace hR:=hid hR;refine Zw KF ?_;obtain ⟨sC,hsC⟩:=Zt (AV.sl c2 n2 cap2);rw [hsC];refine ak (fun m T' L'=>∃ (i:Nat) (out:List Atr) (co:Option Nat) (X:List Blk),m=list.length - i/\i<=list.length/\out.length<=i/\Hid (qJ ts out (list.drop i)=R)/\Hid (∀ a∈out,bd a.1/\a.2.length<=9000 * i)/\T'=[(14,.int .i64 (i:Int)),(13,.int .i64 list.length),(12,.sl (be list) list.length cap),(6,.sl (be out) out.length co),(2,.ptr L.length 0)]/\L'=L++(.cells [.sl (cy ts) ts.length capT,sC]::X)) (CutS (b:=by simp)) ⟨0,[],some 0,[],rfl,ZI _,ZA _,hid (by simpa using hR.out),hid (by simp),rfl,by simp⟩ ?_;rintro _ _ _ ⟨i,out,co,X,rfl,hi,hol,hI,ho,rfl,rfl⟩;by_cases hlt:i<list.length
 ·have g1:(i:Int)<(list.length:Int):=by omega
  have g2:=Zv i (by omega);have e3:=l3 hlt;have e4:i * 2+2<=(be list).length:=by rw [kO];omega
  obtain ⟨⟨nm,vs⟩,ha⟩:∃ a,list.getD i ([],[])=a:=⟨_,rfl⟩;have hdr:list.drop i=(nm,vs)::list.drop (i+1):=by rw [aal hlt,<- ha];simp [hlt]
  obtain ⟨hnm,hvs⟩:=hv (nm,vs) (by rw [<- ha];simp [hlt]);simp only at hnm hvs;rw [ha] at e3;simp only [atA] at e3;have hI2:=hI.out;rw [hdr,qJ] at hI2;simp only at hI2;replace hI2:=hid hI2;clear hI hdr ha hv hR;refine wk ?_;refine Y8 hts.1 hts.2.1 hnm (fun hty=>?_) (fun t ht hty=>?_)
  ·have hI3:=hI2.out;rw [hty] at hI3;simp only at hI3;have h':=h.out;rw [<- hI3] at h';replace h':=hid h';clear hI2 hI3 hty;refine sk ?_;refine wk ?_;exact bv (ae rfl h'.out)
  ·have hI3:=hI2.out;have e5:=Dm ht;have e6:t * 4+4<=(cy ts).length:=by rw [G3];omega
   have e8:(cy ts).getD (t * 4) .undef=.str (ts.getD t lW).1:=by
    have h3:=congrArg (fun l=>l[0]?) (Dm ht);simp only [aas (show 0<4 by omega),aan,aaP] at h3;rw [Z2,h3];rfl
   have g3:¬ (t:Int)<0:=by omega
   have g4:(t:Int)<(ts.length:Int):=by omega
   have g6:t * 4<(cy ts).length:=by omega
   have htn:=M8 hty;obtain ⟨ty,hte⟩:=Zt (ts.getD t lW);rw [hte] at hty e5 e8 htn;rw [hty] at hI3;simp only at hI3;simp only [tyC] at e5;by_cases hvn:vs=[]
   ·rw [if_pos hvn] at hI3;have h':=h.out;rw [<- hI3] at h';replace h':=hid h';subst hvn;clear hI2 hI3 hty htn hte;refine sk ?_;refine wk ?_;exact bv (ae rfl h'.out)
   rw [if_neg hvn] at hI3;have g5:¬ (vs.length:Int)=0:=by
    rcases vs with _|⟨x,t⟩
    ·exact absurd rfl hvn
    ·simp;omega
   obtain ⟨V,hV⟩:=Zt (dz out nm);have hVl:V.length<=9000 * i:=by rw [<- hV];exact T9 fun a ha=>(ho.out a ha).2
   rw [hV] at hI3;obtain ⟨A,hA⟩:=Zt (dZ ty.2.1 ty.2.2.1 V vs);rw [hA] at hI3;have kk1:Hid (Ctr Tryz.prog 15 [.sl (be out) out.length co,.str nm] (.sl (V.map AV.str) V.length none)):=hid fun q=>Ss (by omega) (fun a ha=>⟨(ho.out a ha).1,by have:=(ho.out a ha).2;omega⟩) hnm (by rw [hV];exact q)
   have kk2:Hid (Ctr Tryz.prog 83 [.agg [.str ty.1,.int .i64 ty.2.1,.bool ty.2.2.1,.bool ty.2.2.2],.sl (V.map AV.str) V.length none,.sl (vs.map AV.str) vs.length none] (.tup [.sl (A.1.map AV.str) A.1.length none,.int .i64 A.2])):=hid fun q=>X6 (ty:=ty) (by omega) hA q
   have kk3:Hid (Ctr Tryz.prog 84 [.sl (be out) out.length co,.str ty.1,.sl (A.1.map AV.str) A.1.length none] (.sl (be (me ty.1 A.1 A.1.isEmpty out)) (me ty.1 A.1 A.1.isEmpty out).length none)):=hid fun q=>X4 (by omega) (fun a ha=>⟨(ho.out a ha).1,by have:=(ho.out a ha).2;omega⟩) (hts.2.1 ty htn.1) q
   obtain ⟨A1,A2⟩:=A;simp only at kk2 kk3 hI3;obtain ⟨out',hout'⟩:=Zt (me ty.1 A1 A1.isEmpty out);rw [hout'] at kk3 hI3;clear hI2 hvn hty;by_cases hc0:A2=0
   ·subst hc0;rw [if_neg (by simp)] at hI3;have hAl:=MB (by rw [hA]:(dZ ty.2.1 ty.2.2.1 V vs).2=0);rw [hA] at hAl;simp only at hAl;have hol':out'.length<=i+1:=by
     have:=@N5 ty.1 A1 A1.isEmpty out;rw [hout'] at this;split at this<;>omega
    have ho':∀ a∈out',bd a.1/\a.2.length<=9000 * (i+1):=fun a ha=>by
     rw [<- hout'] at ha;rcases K8 ha with e|e
     ·rw [e];exact ⟨hts.2.1 ty htn.1,by simp only;omega⟩
     ·have:=ho.out a e;exact ⟨this.1,by omega⟩
    replace hI3:=hid hI3;replace ho':=hid ho';clear hA hV hout' hAl htn hte;refine sk ?_;refine wk ?_;exact aj _ _ _ (by omega) (CutL (b:=by simp)) ⟨i+1,out',none,_,rfl,hlt,hol',hI3,ho',rfl,rfl⟩
   ·rw [if_pos hc0] at hI3;have h':=h.out;rw [<- hI3] at h';replace h':=hid h';clear hA hV hout' htn hI3 hte;refine sk ?_;refine wk ?_;exact bv (ae rfl h'.out)
 ·have hke:i=list.length:=by omega
  subst hke;have g1:¬ (list.length:Int)<(list.length:Int):=by omega
  have hI2:=hI.out;rw [aai,qJ] at hI2;have h':=h.out;rw [<- hI2] at h';replace h':=hid h';clear hI hI2 hR hv;have e0:=gq out;refine wk ?_;refine bv ?_;simp only [AV.frz,AV.frzL,e0];exact ae (by simp only [AV.refs,AV.refsL,Dx];rfl) h'.out
theorem U8 {ts:List Typ} {B:Nat}:∀ {l out:List Atr} {i:Nat},out.length<=i->(∀ a∈out,a.2.length<=B * i)->(∀ a∈l,a.2.length<=B)->(qJ ts out l).1.length<=i+l.length/\∀ a∈(qJ ts out l).1,a.2.length<=B * (i+l.length)
 | [],out,i,h1,h2,_=>by rw [qJ];exact ⟨h1,h2⟩
 | x::t,out,i,h1,h2,h3=>by
   have nil:([]:List Atr).length<=i+(x::t).length/\∀ a∈([]:List Atr),a.2.length<=B * (i+(x::t).length):=⟨by simp,fun a ha=>by cases ha⟩;rw [qJ];rcases hty:eD ts x.1 with _|ty
   ·exact nil
   ·simp only;split
    ·exact nil
    ·split
     ·exact nil
     ·rename_i hd
      simp only [ne_eq,abL] at hd;have hl:=MB hd;have hv:=T9 (l:=out) (n:=x.1) h2;have hx:=h3 x (by simp);have hB:=Nat.mul_add_one B i;have:=@U8 ts B t (me ty.1 (dZ ty.2.1 ty.2.2.1 (dz out x.1) x.2).1 (dZ ty.2.1 ty.2.2.1 (dz out x.1) x.2).1.isEmpty out) (i+1) (by
       have:=@N5 ty.1 (dZ ty.2.1 ty.2.2.1 (dz out x.1) x.2).1 (dZ ty.2.1 ty.2.2.1 (dz out x.1) x.2).1.isEmpty out;split at this<;>omega) (fun a ha=>by
       rcases K8 ha with e|e
       ·rw [e];simp only;omega
       ·have:=h2 a e;omega) (fun a ha=>h3 a (by simp [ha]))
      rw [ZN,show i+(t.length+1)=i+1+t.length by omega];exact this
abbrev Cls:=List UInt8×List UInt8×Int×List (List UInt8)×List (List UInt8)
abbrev U1:Cls:=([],[],0,[],[])
def YM (cs:List Cls) (j:Nat):Prop:=fq (cs.getD j U1).1=true/\(∀ c∈cs.take j,ab c.1≠ab (cs.getD j U1).1)/\((cs.getD j U1).2.1≠[]->∃ w,w<j/\ab (cs.getD w U1).1=ab (cs.getD j U1).2.1)
def YN (cs:List Cls):Prop:=∀ j,j<cs.length->YM cs j
theorem VQ {xs:List (List UInt8)} {cap:Option Nat} (hn:xs.length<=2000000) (h:K (.sl (xs.map AV.str) xs.length none) L) :
  Zx 51 [.sl (xs.map AV.str) xs.length cap] L K:=by
 replace h:=hid h;by_cases h0:xs=[]
 ·subst h0;refine ad bW (by simp [aO]) ?_;simp only [aO,aq]
  repeat' first
   | refine bb ?_
   | (first|refine aU (by kernel_rfl) ?_|refine aA (by kernel_rfl) ?_|refine aD ?_|refine bS ?_|refine bh (fun _=>?_)|refine ay ?_|refine aW ?_)
     refine sm ?_
   | (first|refine aP (by kernel_rfl) ?_|refine aQ ?_|refine aC ?_|refine aV ?_|refine bq (ax ?_))
     refine sl ?_
   | exact bj
   | first|apply bm|apply aR|apply bo|apply aS|apply bp|apply aT
   | refine aG ?_
   | refine aB ?_
   | first|refine aE rfl ?_|refine aF rfl ?_|refine an rfl ?_ ?_|refine aI rfl (fun _=>?_) (fun _=>?_)|refine aH rfl (fun _=>?_) (fun _=>?_)
   | ((first|refine am (fun _=>?_) (fun _=>?_)|refine aw (fun _=>?_) (fun _=>?_))<;>try refine sm ?_)
   | refine And.intro trivial ?_
   | refine And.intro (by omega) ?_
   | refine aM rfl (fun _=>?_) (fun _=>?_)
   | refine And.intro ?_ ?_
  all_goals
   refine bv ?_;rw [show (AV.sl [] 0 (some 0)).frz=.sl (([]:List (List UInt8)).map AV.str) ([]:List (List UInt8)).length none from rfl];exact aa h.out
 ·have h1:¬ xs.length=0:=fun c=>h0 (aaj.1 c)
  have h2:(xs.map AV.str).all AV.one=true:=by rw [ZJ];intro a ha;obtain ⟨r,_,rfl⟩:=ZC.1 ha;rfl
  refine Zw bW ?_;refine P7 (i:=L.length) (l:=xs.map AV.str) (by simp) ?_;rw [show (AV.lsl L.length 0 xs.length none 1).snap L.length (xs.map AV.str)=.sl (xs.map AV.str) xs.length none from by simp [AV.snap,aaR],show (L++[Blk.cells (xs.map AV.str)]).set L.length .dead=L++[.dead] by simp];exact ae (by simp only [AV.refs];exact fA _ _) h.out
structure Zs (cs:List Cls):Prop where
 d:YN cs
 l:cs.length<=40
 r:∀ c∈cs,bd c.1/\bd c.2.1/\c.2.2.2.1.length<=2000000/\c.2.2.2.2.length<=2000000/\(∀ v∈c.2.2.2.1,bd v)/\∀ v∈c.2.2.2.2,bd v
end Go.Proofs.YtcmfcpjnhephaaaGreatDoor.Av
set_option maxRecDepth 100000
namespace Go.Proofs.YtcmfcpjnhephaaaGreatDoor.Av
open Go
def Fi:LSO:=[A5 2 0,AD 4,Ab 5 0]
def Fh:LSO:=[.op ⟨(some 13),.mkmap,none⟩,
 .op ⟨(some 14),.mkmap,none⟩,
 .op ⟨(some 15),.mkmap,none⟩,
 .op ⟨(some 16),.mkmap,none⟩,o1 17 (.build [.nilmap,.nilmap,.nilmap,.nilmap] [(0,(1,(tm 13))),(1,(1,(tm 14))),(2,(1,(tm 15))),(3,(1,(tm 16)))]),A5 18 17,Aa 6 18]
def Fg:LSO:=[Aa 19 1,Al 20 19,Ab 21 0]
def Ff:LSO:=[Ak 22 21 20]
def Fe:LSO:=[An 23 1 19 21,Ac 24 1 23,Aa 8 24]
def Fd:LSO:=[Aw 26 2 2,Aa 27 8,Aq 28 49 26 27,Aa 25 28,Ar 29 25,Au 30 25,Bn 9,Ao 4 9 29,Aa 10 30]
def Fc:List (ai×Kd) :=
 [A4 32 6,A9 33 32 0 1,A0 34 0 33,Ax 35 1 34 0 1,A4 36 8,AK 37 38 36 0 1,
 od 38 (.mget .str true (.agg [(.str []),(.int .i64 0),(.bool false),(.bool false)]) (tm 35) (tm 37)) (.read 0 1),A4 31 38,od 39 (.extract (tm 31) 0) .pure,
 od 40 (.extract (tm 31) 1) .pure,od 11 (.alloc [(.str []),(.int .i64 0),(.bool false),(.bool false)]) .eff,
 (⟨none,(.store 4 (tm 11) (tm 39)),none⟩,.eff)]
def zG:List ai :=
 [⟨(some 12),(.mv (tm 40)),none⟩]
def Fb:LSO:=[Aa 42 10,Az 43 42,Aa 41 43]
def Fa:LSO:=[AD 4,Ab 5 20]
def E9:LSO:=[Aa 45 12,Aa 44 45]
def zL:LSO:=[AD 4,Ab 5 21]
def zK:List (ai×Kd) :=
 [A4 46 6,A9 47 46 0 0,A0 48 0 47,Ax 49 1 48 0 0,A4 50 8,AK 51 38 50 0 0,Bt 52 4 9 0 0]
def vK:List ai :=
 [⟨none,(.mset .str (tm 49) (tm 51) (tm 52)),none⟩]
def zJ:List (ai×Kd) :=
 [A4 53 6,A9 54 53 0 1,A0 55 2 54,Ax 56 1 55 0 1,A4 57 8,AK 58 38 57 0 1,
 (⟨(some 59),.mkmap,none⟩,.eff)]
def vJ:List ai :=
 [⟨none,(.mset .str (tm 56) (tm 58) (tm 59)),none⟩]
def zI:LSO:=[Ah 60 21 1,Aa 21 60]
def zH:LSO:=[Aa 61 6,Aa 4 61,Ab 5 0]
def CZ:br:=⟨62,(.seq (.sreg Fi [])
 (.seq (.sreg Fh Ci)
 (.seq (.seq (.sreg Fg [])
 (.block 0 (.loop (.seq (.sreg Ff [])
 (.seq (.cond (tm 22) .skip
 (.exit 0))
 (.seq (.block 1 (.seq (.sreg Fe Ce)
 (.seq (.sreg Fd Co)
 (.seq (.dregM Fc zG Ct)
 (.seq (.block 2 (.seq (.sreg Fb Ce)
 (.cond (tm 41) (.seq (.sreg Fa [])
 .ret)
 (.seq (.sreg E9 Cd)
 (.cond (tm 44) (.seq (.sreg zL [])
 .ret)
 .skip)))))
 (.seq (.dregM zK vK Cp)
 (.dregM zJ vJ Cp)))))))
 (.sreg zI Cd)))))))
 (.seq (.sreg zH Cj)
 .ret)))),[(.tmp 4),(.tmp 5)]⟩
attribute [push_cast] Fi Fh Fg Ff Fe Fd Fc zG Fb Fa E9 zL zK vK zJ vJ zI zH
theorem Mo:bt Tryz.prog (fun _ _=>1) 19=some CZ.raw:=by kernel_rfl
def vI:LSO:=[Aj 2]
def vH:LSO:=[Aj 3]
def vG:LSO:=[Ab 4 0]
def vF:LSO:=[Aa 5 4,Ah 6 5 3,Aa 7 0,Ap 8 7,o1 9 (.bin .leq (tm 6) (tm 8))]
def vE:LSO:=[Aa 12 3,Aa 13 0,Aa 14 4,Aa 15 4,Ah 16 15 3,BC 17 13 14 16,Br 18 17,Bj 19 12 18,Aa 3 19]
def vD:LSO:=[Aa 10 4,Ah 11 10 1,Aa 4 11]
def vC:LSO:=[Aa 20 3,Aa 2 20]
def nW:br:=⟨21,(.seq (.sreg vI [])
 (.seq (.sreg vH [])
 (.seq (.seq (.sreg vG [])
 (.block 0 (.loop (.seq (.seq (.sreg vF Cg)
 (.cond (tm 9) .skip
 (.exit 0)))
 (.seq (.block 1 (.sreg vE Cr))
 (.sreg vD Ce))))))
 (.seq (.sreg vC Cd)
 .ret)))),[(.tmp 2)]⟩
attribute [push_cast] vI vH vG vF vE vD vC
theorem JD:bt Tryz.prog (fun _ _=>1) 41=some nW.raw:=by kernel_rfl
def jR:LSO:=[Aa 14 0,A7 15 14,Ad 16 0 15,Ac 17 1 16,o1 18 (.mrange (tm 17))]
def jQ:LSO:=[o1 19 (.mnext (tm 18)),Ar 20 19]
def jP:LSO:=[o1 21 (.mentry (tm 18)),Ar 22 21,Au 23 21,Bn 7,Aa 6 22,Ao 4 7 23]
def jO:LSO:=[Aa 24 1,Aa 25 6,Aq 26 52 24 25,Al 27 26,Ab 28 0]
def jN:LSO:=[Ak 29 28 27]
def jM:LSO:=[An 30 1 26 28,Ac 31 1 30,Aa 9 31]
def jL:LSO:=[Ad 33 1 7,Ac 34 1 33,Aa 35 9,Aq 36 48 34 35,Aa 32 36,Ar 37 32,Au 38 32,Aa 10 37,Aa 11 38]
def jK:LSO:=[Aa 39 11,Az 40 39]
def jJ:LSO:=[Aa 41 2,Aa 42 6,Aa 43 10,o1 44 (.build [(.str []),(.bool false),(.str [])] [(0,(1,(tm 42))),(1,(1,(.av (.bool false)))),(2,(1,(tm 43)))]),
 Bo 45 41 44]
def jI:LSO:=[Aa 46 10,Ai 47 41 46,Al 48 47,Ab 49 0]
def hG:LSO:=[Ak 50 49 48]
def gZ:LSO:=[An 51 1 47 49,Ac 52 1 51,Aa 13 52]
def gY:LSO:=[Aa 53 2,Aa 54 6,Aa 55 13,o1 56 (.build [(.str []),(.bool false),(.str [])] [(0,(1,(tm 54))),(1,(1,(.av (.bool true)))),(2,(1,(tm 55)))]),
 Bo 57 53 56]
def gX:LSO:=[Ah 58 49 1,Aa 49 58]
def gW:LSO:=[Ah 59 28 1,Aa 28 59]
def fy:br:=⟨60,(.seq (.sreg jR Cg)
 (.block 0 (.loop (.seq (.sreg jQ Cd)
 (.seq (.cond (tm 20) .skip
 (.exit 0))
 (.block 1 (.seq (.sreg jP Cl)
 (.seq (.sreg jO Cy)
 (.block 2 (.loop (.seq (.sreg jN [])
 (.seq (.cond (tm 29) .skip
 (.exit 2))
 (.seq (.block 3 (.seq (.sreg jM Ce)
 (.seq (.sreg jL C0)
 (.seq (.seq (.sreg jK Cd)
 (.cond (tm 40) (.exit 3)
 .skip))
 (.seq (.sreg jJ Ck)
 (.seq (.sreg jI Cu)
 (.block 4 (.loop (.seq (.sreg hG [])
 (.seq (.cond (tm 50) .skip
 (.exit 4))
 (.seq (.block 5 (.seq (.sreg gZ Ce)
 (.sreg gY Ck)))
 (.sreg gX Cd))))))))))))
 (.sreg gW Cd)))))))))))))),[]⟩
attribute [push_cast] jR jQ jP jO jN jM jL jK jJ jI hG gZ gY gX gW
theorem v6:bt Tryz.prog (fun _ _=>1) 53=some fy.raw:=by kernel_rfl
def lQ:LSO:=[A5 3 0,A5 4 1]
def lP:LSO:=[Ac 10 1 3,BG 11 10]
def lO:LSO:=[Ac 12 1 3,Ac 13 1 4,Aq 14 35 12 13]
def lN:LSO:=[Aj 6]
def lM:LSO:=[Aa 15 2,Al 16 15,Ab 17 0]
def lL:LSO:=[Ak 18 17 16]
def lK:LSO:=[An 19 2 15 17,Aw 20 2 19,Bk 8,Ao 2 8 20]
def lJ:List (ai×Kd) :=
 [A4 21 6,A0 22 0 8,Ax 23 1 22 0 0,A0 24 1 8,Ax 25 1 24 0 0,AK 26 51 25 0 0,od 27 (.build [(.str []),(.sl [] 0 (some 0))] [(0,(1,(tm 23))),(1,(1,(tm 26)))]) .pure,
 od 28 (.bslice false 2 1 [(.str []),(.sl [] 0 (some 0))] [(0,(2,(tm 27)))]) (.read 0 0)]
def jT:List ai :=
 [⟨(some 29),(.app 1 2 40 [(.str []),(.sl [] 0 (some 0))] (tm 21) (tm 28)),none⟩,⟨(some 6),(.mv (tm 29)),none⟩]
def lI:LSO:=[Ah 30 17 1,Aa 17 30]
def lH:List (ai×Kd) :=
 [Ax 31 1 3 0 0,A9 32 31 0 0,A0 33 1 32,Ax 34 1 33 0 0,Ax 35 1 4 0 0,A4 36 6]
def jS:List ai :=
 [⟨none,(.mset .int (tm 34) (tm 35) (tm 36)),none⟩]
def jZ:LSO:=[Ac 37 1 3,A7 38 37,Ad 39 0 38,Ac 40 1 39,o1 41 (.mrange (tm 40))]
def jY:LSO:=[o1 42 (.mnext (tm 41)),Ar 43 42]
def jX:LSO:=[o1 44 (.mentry (tm 41)),Ar 45 44,Aa 9 45]
def jW:LSO:=[Aa 46 6,Aa 47 9,Aq 48 52 46 47,Al 49 48,A3 50 49 0]
def jV:List (ai×Kd) :=
 [Ax 51 1 3 0 0,A9 52 51 0 0,A0 53 2 52,Ax 54 1 53 0 0,A4 55 9,od 56 (.mget .str false .nilmap (tm 54) (tm 55)) (.read 0 0),Ax 57 1 4 0 0]
def ic:List ai :=
 [⟨none,(.mset .int (tm 56) (tm 57) (.av (.bool true))),none⟩]
def jU:LSO:=[Ac 58 1 3,Aa 59 6,o1 60 (.mkfn 54 [(tm 3),(tm 4)]),Ba 61 53 58 59 60]
def gp:br:=⟨62,(.seq (.sreg lQ [])
 (.seq (.seq (.sreg lP Cd)
 (.cond (tm 11) .ret
 .skip))
 (.seq (.sreg lO C7)
 (.seq (.sreg lN [])
 (.seq (.seq (.sreg lM [])
 (.block 0 (.loop (.seq (.sreg lL [])
 (.seq (.cond (tm 18) .skip
 (.exit 0))
 (.seq (.block 1 (.seq (.sreg lK Ce)
 (.dregM lJ jT C2)))
 (.sreg lI Cd)))))))
 (.seq (.dregM lH jS Cx)
 (.seq (.seq (.sreg jZ Cg)
 (.block 2 (.loop (.seq (.sreg jY Cd)
 (.seq (.cond (tm 43) .skip
 (.exit 2))
 (.block 3 (.seq (.sreg jX Ce)
 (.seq (.sreg jW Cg)
 (.cond (tm 50) (.dregM jV ic Cp)
 .skip)))))))))
 (.sreg jU Cv)))))))),[]⟩
attribute [push_cast] lQ lP lO lN lM lL lK lJ jT lI lH jS jZ jY jX jW jV ic jU
theorem Da:bt Tryz.prog (fun _ _=>1) 21=some gp.raw:=by kernel_rfl
def ia:LSO:=[A5 3 0]
def hZ:LSO:=[Ac 4 1 1,A7 5 4,Ad 6 3 5,Ac 7 1 6,Aw 8 3 3,BH 9 7 8,o1 10 (.eqk false .map (tm 9) (.av .nilmap))]
def hU:List (ai×Kd) :=
 [Ax 11 1 1 0 1,A9 12 11 0 1,A0 13 3 12,Ax 14 1 13 0 1,Bt 15 3 3 0 1,
 (⟨(some 16),.mkmap,none⟩,.eff)]
def fW:List ai :=
 [⟨none,(.mset (.st [.str,.bool,.str]) (tm 14) (tm 15) (tm 16)),none⟩]
def hP:List (ai×Kd) :=
 [Ax 17 1 1 0 0,A9 18 17 0 0,A0 19 3 18,Ax 20 1 19 0 0,Bt 21 3 3 0 0,od 22 (.mget (.st [.str,.bool,.str]) false .nilmap (tm 20) (tm 21)) (.read 0 0),Ax 23 1 2 0 0]
def fV:List ai :=
 [⟨none,(.mset .int (tm 22) (tm 23) (.av (.bool true))),none⟩]
def cc:br:=⟨24,(.seq (.sreg ia [])
 (.seq (.seq (.sdreg hZ [(.read 0 0),(.read 0 0),.pure,(.read 0 0),(.read 0 0)] Ci)
 (.cond (tm 10) (.dregM hU fW Cx)
 .skip))
 (.dregM hP fV Cp))),[]⟩
attribute [push_cast] ia hZ hU fW hP fV
theorem dY:bt Tryz.prog (fun _ _=>1) 54=some cc.raw:=by kernel_rfl
def kw:LSO:=[A5 2 0,A5 3 1]
def ku:LSO:=[Ac 8 1 2,BG 9 8]
def kr:LSO:=[Ac 11 1 2,A7 12 11,Ad 13 1 12,Ac 14 1 13,Ac 15 1 3,o1 16 (.mget .int true (.sl [] 0 (some 0)) (tm 14) (tm 15)),Aa 10 16,Ar 17 10,Au 18 10,Aa 4 17,
 Aa 5 18]
def kq:LSO:=[Aa 19 5,Az 20 19]
def kp:List (ai×Kd) :=
 [Ax 21 1 2 0 0,A9 22 21 0 0,A0 23 1 22,Ax 24 1 23 0 0,Ax 25 1 3 0 0]
def iG:List ai :=
 [⟨none,(.mdel .int (tm 24) (tm 25)),none⟩]
def ko:LSO:=[Ac 26 1 2,A7 27 26,Ad 28 2 27,Ac 29 1 28,o1 30 (.mrange (tm 29))]
def kn:LSO:=[o1 31 (.mnext (tm 30)),Ar 32 31]
def kl:LSO:=[o1 33 (.mentry (tm 30)),Au 34 33,Aa 7 34]
def kk:LSO:=[Aa 35 7,Ac 36 1 3,o0 (.mdel .int (tm 35) (tm 36))]
def kj:LSO:=[Ac 37 1 2,Aa 38 4,o1 39 (.mkfn 85 [(tm 2),(tm 3)]),Ba 40 53 37 38 39]
def dy:br:=⟨41,(.seq (.sreg kw [])
 (.seq (.seq (.sreg ku Cd)
 (.cond (tm 9) .ret
 .skip))
 (.seq (.sdreg kr [(.read 0 0),(.read 0 0),.pure,(.read 0 0),(.read 0 0),(.read 0 0),.pure,.pure,.pure,.pure] CC)
 (.seq (.seq (.sreg kq Cd)
 (.cond (tm 20) .ret
 .skip))
 (.seq (.dregM kp iG Ck)
 (.seq (.seq (.sreg ko Cg)
 (.block 0 (.loop (.seq (.sreg kn Cd)
 (.seq (.cond (tm 32) .skip
 (.exit 0))
 (.block 1 (.seq (.sreg kl Ce)
 (.sreg kk C3))))))))
 (.sreg kj Cv))))))),[]⟩
attribute [push_cast] kw ku kr kq kp iG ko kn kl kk kj
theorem iJ:bt Tryz.prog (fun _ _=>1) 35=some dy.raw:=by kernel_rfl
def gb:LSO:=[A5 3 0]
def ga:List (ai×Kd) :=
 [Ax 4 1 1 0 0,A9 5 4 0 0,A0 6 3 5,Ax 7 1 6 0 0,Bt 8 3 3 0 0,od 9 (.mget (.st [.str,.bool,.str]) false .nilmap (tm 7) (tm 8)) (.read 0 0),Ax 10 1 2 0 0]
def fG:List ai :=
 [⟨none,(.mdel .int (tm 9) (tm 10)),none⟩]
def f9:LSO:=[Ac 11 1 1,A7 12 11,Ad 13 3 12,Ac 14 1 13,Aw 15 3 3,BH 16 14 15,o1 17 (.mlen (tm 16)),As 18 17 0]
def fZ:List (ai×Kd) :=
 [Ax 19 1 1 0 0,A9 20 19 0 0,A0 21 3 20,Ax 22 1 21 0 0,Bt 23 3 3 0 0]
def fF:List ai :=
 [⟨none,(.mdel (.st [.str,.bool,.str]) (tm 22) (tm 23)),none⟩]
def ba:br:=⟨24,(.seq (.sreg gb [])
 (.seq (.dregM ga fG Cp)
 (.seq (.sdreg f9 [(.read 0 0),(.read 0 0),.pure,(.read 0 0),(.read 0 0)] Cm)
 (.cond (tm 18) (.dregM fZ fF Ck)
 .skip)))),[]⟩
attribute [push_cast] gb ga fG f9 fZ fF
theorem cw:bt Tryz.prog (fun _ _=>1) 85=some ba.raw:=by kernel_rfl
def lV:LSO:=[Af 4]
def lU:LSO:=[Aa 7 0,BG 8 7]
def lT:LSO:=[Af 4]
def lS:List (ai×Kd) :=
 [A4 10 0,A9 11 10 0 1,A0 12 0 11,Ax 13 1 12 0 1,A4 14 1,AK 15 38 14 0 1,
 od 16 (.mget .str true (.agg [(.str []),(.int .i64 0),(.bool false),(.bool false)]) (tm 13) (tm 15)) (.read 0 1),A4 9 16,od 17 (.extract (tm 9) 0) .pure,
 od 18 (.extract (tm 9) 1) .pure,od 5 (.alloc [(.str []),(.int .i64 0),(.bool false),(.bool false)]) .eff,
 (⟨none,(.store 4 (tm 5) (tm 17)),none⟩,.eff)]
def ki:List ai :=
 [⟨(some 6),(.mv (tm 18)),none⟩]
def lR:LSO:=[Aa 19 6,Aa 4 19]
def dF:br:=⟨20,(.seq (.sreg lV [])
 (.seq (.seq (.sreg lU Cd)
 (.cond (tm 8) (.seq (.sreg lT [])
 .ret)
 .skip))
 (.seq (.dregM lS ki Ct)
 (.seq (.sreg lR Cd)
 .ret)))),[(.tmp 4)]⟩
attribute [push_cast] lV lU lT lS ki lR
theorem kK:bt Tryz.prog (fun _ _=>1) 11=some dF.raw:=by kernel_rfl
def fE:LSO:=[Aj 4]
def fD:LSO:=[Aa 5 0,Aa 6 1,Aq 7 11 5 6,Az 8 7]
def fC:LSO:=[Aj 4]
def fB:LSO:=[Aa 9 0,A7 10 9,Ad 11 2 10,Ac 12 1 11,Aa 13 1,Ai 14 38 13,o1 15 (.mget .str false .nilmap (tm 12) (tm 14)),Ai 16 44 15,Aa 4 16]
def cI:br:=⟨17,(.seq (.sreg fE [])
 (.seq (.seq (.sreg fD Cf)
 (.cond (tm 8) (.seq (.sreg fC [])
 .ret)
 .skip))
 (.seq (.sdreg fB [.pure,(.read 0 0),.pure,(.read 0 0),.pure,(.read 0 0)] Cr)
 .ret))),[(.tmp 4)]⟩
attribute [push_cast] fE fD fC fB
theorem fm:bt Tryz.prog (fun _ _=>1) 14=some cI.raw:=by kernel_rfl
def iF:LSO:=[Aj 6]
def iE:LSO:=[Aa 9 0,Aa 10 1,Aq 11 11 9 10,Az 12 11]
def iD:LSO:=[Aj 6]
def iC:LSO:=[Aa 14 0,A7 15 14,Ad 16 0 15,Ac 17 1 16,Aa 18 1,Ai 19 38 18,
 o1 20 (.mget .str false (.agg [(.str []),(.int .i64 0),(.bool false),(.bool false)]) (tm 17) (tm 19)),o1 21 (.field false 1 1 (tm 20)),Aa 22 2,Aq 23 48 21 22,Aa 13 23,Ar 24 13,
 Au 25 13,Aa 7 24,Aa 8 25]
def iB:LSO:=[Aa 26 8,Az 27 26]
def iA:LSO:=[Aj 6]
def iz:LSO:=[Aa 28 0,A7 29 28,Ad 30 3 29,Ac 31 1 30,Aa 32 1,Ai 33 38 32,Aa 34 7,
 o1 35 (.build [(.str []),(.bool false),(.str [])] [(0,(1,(tm 33))),(1,(1,(.av (.bool false)))),(2,(1,(tm 34)))]),BH 36 31 35,Ai 37 44 36,Aa 6 37]
def bz:br:=⟨38,(.seq (.sreg iF [])
 (.seq (.seq (.sreg iE Cf)
 (.cond (tm 12) (.seq (.sreg iD [])
 .ret)
 .skip))
 (.seq (.sdreg iC [.pure,(.read 0 0),.pure,(.read 0 0),.pure,(.read 0 0),(.read 0 0),(.read 0 0),.pure,(.read 0 0),.pure,.pure,.pure,.pure] [true,true,false,false,false,false,false,false,false,false,false,false,false,false,false])
 (.seq (.seq (.sreg iB Cd)
 (.cond (tm 27) (.seq (.sreg iA [])
 .ret)
 .skip))
 (.seq (.sdreg iz [.pure,(.read 0 0),.pure,(.read 0 0),.pure,(.read 0 0),.pure,.pure] C6)
 .ret))))),[(.tmp 6)]⟩
attribute [push_cast] iF iE iD iC iB iA iz
theorem dp:bt Tryz.prog (fun _ _=>1) 18=some bz.raw:=by kernel_rfl
def kg:LSO:=[Aj 6]
def kf:LSO:=[Aa 15 0,Aa 16 1,Aq 17 11 15 16,Az 18 17]
def ke:LSO:=[Aj 6]
def kc:LSO:=[Aa 19 1,Ai 20 38 19,Aa 7 20]
def kb:LSO:=[Aa 21 0,A7 22 21,Ad 23 2 22,Ac 24 1 23,Aa 25 7,o1 26 (.mget .str false .nilmap (tm 24) (tm 25)),Ai 27 40 26,Aa 8 27]
def j9:LSO:=[Aa 28 2,Al 29 28,Ab 30 0]
def j8:LSO:=[Ak 31 30 29]
def j7:LSO:=[An 32 2 28 30,Aw 33 2 32,o1 10 (.alloc [(.int .i64 0),(.str [])]),Ao 2 10 33]
def j6:LSO:=[Ad 34 1 10,Ac 35 1 34,Aa 11 35]
def j5:LSO:=[Aa 36 0,A7 37 36,Ad 38 0 37,Ac 39 1 38,Aa 40 7,
 o1 41 (.mget .str false (.agg [(.str []),(.int .i64 0),(.bool false),(.bool false)]) (tm 39) (tm 40)),o1 42 (.field false 1 1 (tm 41)),AC 43 42 2]
def iw:LSO:=[Aa 44 11,Ai 45 38 44,Aa 11 45]
def iu:LSO:=[Aa 46 11,Ai 47 41 46,Al 48 47,Ab 49 0]
def ir:LSO:=[Ak 50 49 48]
def iq:LSO:=[An 51 1 47 49,Ac 52 1 51,Aa 13 52]
def io:LSO:=[Aa 53 0,A7 54 53,Ad 55 3 54,Ac 56 1 55,Aa 57 7,Aa 58 13,
 o1 59 (.build [(.str []),(.bool false),(.str [])] [(0,(1,(tm 57))),(1,(1,(.av (.bool true)))),(2,(1,(tm 58)))]),BH 60 56 59,o1 14 (.alloc [.nilmap]),Ao 1 14 60]
def il:LSO:=[Aa 61 8,o1 62 (.mkfn 43 [(tm 14)]),Aq 63 42 61 62]
def ik:LSO:=[Ah 64 49 1,Aa 49 64]
def ij:LSO:=[Ah 65 30 1,Aa 30 65]
def ig:LSO:=[Aa 66 8,Ai 67 44 66,Aa 6 67]
def dx:br:=⟨68,(.seq (.sreg kg [])
 (.seq (.seq (.sreg kf Cf)
 (.cond (tm 18) (.seq (.sreg ke [])
 .ret)
 .skip))
 (.seq (.sreg kc Ce)
 (.seq (.sreg kb Cm)
 (.seq (.seq (.sreg j9 [])
 (.block 0 (.loop (.seq (.sreg j8 [])
 (.seq (.cond (tm 31) .skip
 (.exit 0))
 (.seq (.block 1 (.seq (.sreg j7 Ce)
 (.seq (.sreg j6 Ce)
 (.seq (.seq (.sreg j5 Cm)
 (.cond (tm 43) (.sreg iw Ce)
 .skip))
 (.seq (.sreg iu Cu)
 (.block 2 (.loop (.seq (.sreg ir [])
 (.seq (.cond (tm 50) .skip
 (.exit 2))
 (.seq (.block 3 (.seq (.sreg iq Ce)
 (.seq (.sreg io Cr)
 (.sreg il C7))))
 (.sreg ik Cd)))))))))))
 (.sreg ij Cd)))))))
 (.seq (.sreg ig Ce)
 .ret)))))),[(.tmp 6)]⟩
attribute [push_cast] kg kf ke kc kb j9 j8 j7 j6 j5 iw iu ir iq io il ik ij ig
theorem iI:bt Tryz.prog (fun _ _=>1) 13=some dx.raw:=by kernel_rfl
def fY:LSO:=[Af 5]
def fX:LSO:=[Ac 6 1 2,Aa 7 0,o1 8 (.mget .int false (.bool false) (tm 6) (tm 7)),Az 9 8,Aa 5 9]
def cY:br:=⟨10,(.seq (.sreg fY [])
 (.seq (.sreg fX Cg)
 .ret)),[(.tmp 5)]⟩
attribute [push_cast] fY fX
theorem fI:bt Tryz.prog (fun _ _=>1) 43=some cY.raw:=by kernel_rfl
def cE:LSO:=[Aa 6 0,o1 7 (.mrange (tm 6))]
def cD:LSO:=[o1 8 (.mnext (tm 7)),Ar 9 8]
def cC:LSO:=[o1 10 (.mentry (tm 7)),Ar 11 10,Au 12 10,Aa 4 11,Aa 5 12]
def cB:LSO:=[Aa 13 1,Aa 14 4,Aa 15 5,o1 16 (.callv (tm 13) [(tm 14),(tm 15)])]
def cA:LSO:=[Aa 17 0,Aa 18 4,o0 (.mdel .int (tm 17) (tm 18))]
def bH:br:=⟨19,(.seq (.sreg cE Cd)
 (.block 0 (.loop (.seq (.sreg cD Cd)
 (.seq (.cond (tm 9) .skip
 (.exit 0))
 (.block 1 (.seq (.sreg cC Cl)
 (.seq (.sreg cB Cf)
 (.cond (tm 16) (.sreg cA C3)
 .skip))))))))),[]⟩
attribute [push_cast] cE cD cC cB cA
theorem dR:bt Tryz.prog (fun _ _=>1) 42=some bH.raw:=by kernel_rfl
attribute [push_cast] CZ nW fy gp cc dy ba dF cI bz dx
end Go.Proofs.YtcmfcpjnhephaaaGreatDoor.Av
