/- Joined texts of the walk, made small by a program. -/
import Derived.Test.YtcmfcpjnhephaaaGreatDoorFk10
import Derived.Test.YtcmfcpjnhephaaaGreatDoorFk13
import Derived.Test.YtcmfcpjnhephaaaGreatDoorFk6
import Derived.Test.YtcmfcpjnhephaaaGreatDoorFk12
import Derived.Sort.Walk0
set_option linter.unusedSimpArgs false
set_option linter.unusedVariables false
namespace Go.Proofs.YtcmfcpjnhephaaaGreatDoor.Av
open Go
variable {L:List Blk} {K:Zy}
set_option maxHeartbeats 8000000
set_option maxRecDepth 100000
theorem Jb (sep x:List UInt8):∀ xs:List (List UInt8),Lib.join (xs++[x]) sep=if xs=[] then x else Lib.join xs sep++sep++x
 | []=>by simp [Lib.join,List.intercalate]
 | [y]=>by simp [Lib.join,List.intercalate]
 | y::z::l=>by
   have ih:=Jb sep x (z::l);rw [if_neg (by simp)] at ih ⊢;have e1:Lib.join (y::z::l++[x]) sep=y++(sep++Lib.join (z::l++[x]) sep):=by simp [Lib.join,List.intercalate]
   have e2:Lib.join (y::z::l) sep=y++(sep++Lib.join (z::l) sep):=by simp [Lib.join,List.intercalate]
   rw [e1,ih,e2];simp
theorem N6 {d:List Rdn} {cap:Option Nat} (hn:d.length<=1000) (hr:∀ r∈d,r.length<=1000/\∀ a∈r,a.1.length<=10000/\a.2.length<=10000) (h:K (.str (dJ false d)) L) :
  Zx 168 [.sl (d.map cf) d.length cap] L K:=by
 replace h:=hid h;have hat:=hid (fun k=>@Gp d k);replace hr:=hid hr;refine Zw KI ?_;refine ak (fun n T' L'=>∃ (i:Nat) (acc:List UInt8) (Z:List Blk),n=d.length - i/\i<=d.length/\acc.length<=i * 50000000/\Hid (acc=Lib.join ((d.take i).map (c8 false)) [44])/\T'=[(10,.int .i64 (i:Int)),(9,.int .i64 d.length),(8,.sl (d.map cf) d.length cap),(3,.str acc)]/\L'=L++Z) (CutS (b:=by simp)) ⟨0,[],[],rfl,ZI _,by simp,hid (by simp [Lib.join]),rfl,by simp⟩ ?_;rintro _ _ _ ⟨i,acc,X,rfl,hi,hal,hacc,rfl,rfl⟩;by_cases hlt:i<d.length
 ·have g1:(i:Int)<(d.length:Int):=by omega
  have g2:=Zv i (by omega);have e2:=hat.out i hlt;have hrm:d.getD i []∈d:=by rw [Z2,ZR hlt];exact aaI _
  have hrl:=hr.out _ hrm;obtain ⟨r,hri⟩:=Zt (d.getD i []);have htk:d.take (i+1)=d.take i++[r]:=by rw [ZY hlt,<- hri];simp [hlt]
  rw [hri] at e2 hrl;clear hri hrm;obtain ⟨hrl1,hrl2⟩:=hrl;replace hrl2:=hid hrl2;obtain ⟨B,hB⟩:=Zt ((if 0<i then acc++[44] else acc));have hBl:B.length<=i * 50000000+1:=by
   rw [<- hB];split
   ·exact Z0 (Nat.le_of_eq (by simp)) (Nat.add_le_add_right hal 1)
   ·exact Z0 hal (Nat.le_add_right _ _)
  have hfin:B++c8 false r=Lib.join ((d.take (i+1)).map (c8 false)) [44]:=by
   rw [htk,Z7,List.map_singleton,Jb,<- hacc.out,<- hB];by_cases h0:0<i
   ·rw [if_pos h0,if_neg];intro e;rcases List.take_eq_nil_iff.1 (acA.1 e) with e|e
    ·omega
    ·rw [e] at hlt;simp at hlt
   ·have:i=0:=by omega
    subst this;simp at hal;simp [hal]
  replace hfin:=hid hfin;replace hB:=hid hB;replace htk:=hid htk;have hb0:(i:Int)<=1000:=by omega
  have hab:((acc.length+1:Nat):Int)<=9223372036854775807:=by omega
  iterate 12 first
   | refine bb ?_
   | (first|refine aU (by kernel_rfl) ?_|refine aA (by kernel_rfl) ?_|refine aD ?_|refine bS ?_|refine bh (fun _=>?_)|refine ay ?_|refine aW ?_)
     simp (config:={ maxSteps:=2000000 }) only [Kon,push_cast,reduceIte,Nat.reduceEqDiff,Nat.reduceAdd,Nat.reduceMul,Nat.reduceSub,Nat.reduceLT,Nat.reduceLeDiff,Int.reduceLT,Int.reduceLE,Int.reduceAdd,Int.reduceSub,Int.reduceNeg,Int.reduceToNat,Int.reduceEq,reduceCtorEq, *]
   | (first|refine aP (by kernel_rfl) ?_|refine aQ ?_|refine aC ?_|refine aV ?_|refine bq (ax ?_))
     simp only [push_cast,reduceIte,Nat.reduceEqDiff,Nat.reduceAdd,Nat.reduceMul,Nat.reduceSub,Nat.reduceLT,Nat.reduceLeDiff,Int.reduceLT,Int.reduceLE,Int.reduceAdd,Int.reduceSub,Int.reduceNeg,Int.reduceToNat,Int.reduceEq,reduceCtorEq, *]
   | exact bj
   | first|apply bm|apply aR|apply bo|apply aS|apply bp|apply aT
   | refine aG ?_
   | refine aB ?_
   | first|refine aE rfl ?_|refine aF rfl ?_|refine an rfl ?_ ?_|refine aI rfl (fun _=>?_) (fun _=>?_)|refine aH rfl (fun _=>?_) (fun _=>?_)
   | ((first|refine am (fun _=>?_) (fun _=>?_)|refine aw (fun _=>?_) (fun _=>?_))<;>try simp (config:={ maxSteps:=2000000 }) only [Kon,push_cast,reduceIte,Nat.reduceEqDiff,Nat.reduceAdd,Nat.reduceMul,Nat.reduceSub,Nat.reduceLT,Nat.reduceLeDiff,Int.reduceLT,Int.reduceLE,Int.reduceAdd,Int.reduceSub,Int.reduceNeg,Int.reduceToNat,Int.reduceEq,reduceCtorEq, *])
   | refine And.intro trivial ?_
   | refine And.intro (by omega) ?_
   | refine aM rfl (fun _=>?_) (fun _=>?_)
   | refine And.intro ?_ ?_
  refine K1 (fun T2 L2=>T2=[(3,.str B),(5,cf r),(10,.int .i64 (i:Int)),(9,.int .i64 d.length),(8,.sl (d.map cf) d.length cap)]/\L2=L++X) ?_ ?_
  ·by_cases h0:0<i
   ·have k0:(0:Int)<(i:Int):=by omega
    have hB':=hB.out;rw [if_pos h0] at hB';subst hB';clear h0;refine wk ?_;exact nX _ _ (CutL (b:=by simp)) ⟨rfl,rfl⟩
   ·have k0:¬ (0:Int)<(i:Int):=by omega
    have hB':=hB.out;rw [if_neg h0] at hB';subst hB';clear h0;refine wk ?_;exact nX _ _ (CutL (b:=by simp)) ⟨rfl,rfl⟩
  rintro _ _ ⟨rfl,rfl⟩ -;refine wk ?_;refine ak (fun n T' L'=>∃ (k:Nat) (acc2:List UInt8) (Z:List Blk),n=r.length - k/\k<=r.length/\acc2.length<=i * 50000000+1+k * 40002/\X.length<=Z.length/\Hid (acc2=B++Lib.join ((r.take k).map (avT false)) [43])/\T'=[(21,.int .i64 (k:Int)),(20,.int .i64 r.length),(19,cf r),(10,.int .i64 (i:Int)),(9,.int .i64 d.length),(8,.sl (d.map cf) d.length cap),(3,.str acc2)]/\L'=L++Z) (CutS (b:=by simp)) ⟨0,B,X,rfl,ZI _,by omega,ZA _,hid (by simp [Lib.join]),rfl,rfl⟩ ?_;rintro _ _ _ ⟨k,acc2,Z,rfl,hk,hal2,hXZ,hacc2,rfl,rfl⟩;replace hXZ:=hid hXZ;by_cases hkl:k<r.length
  ·have g3:(k:Int)<(r.length:Int):=by omega
   have g4:=Zv k (by omega);have e3:=eM hkl;have e4:k * 2+2<=(a7 r).length:=by rw [dt];omega
   obtain ⟨⟨ty,va⟩,ha⟩:∃ a,r.getD k ([],[])=a:=⟨_,rfl⟩;have ham:(ty,va)∈r:=by rw [<- ha];simp [hkl]
   have htk2:r.take (k+1)=r.take k++[(ty,va)]:=by rw [ZY hkl,<- ha];simp [hkl]
   rw [ha] at e3;simp only [mL] at e3;have hva:=hrl2.out _ ham;simp only at hva;have hva':va.length<=100000:=by omega
   have hwl:=G0 va.length va 0;obtain ⟨wv,hwv⟩:=Zt (dS va);have hwl2:wv.length<=30000:=by rw [<- hwv];unfold dS;omega
   have hty:=hva.1;obtain ⟨B2,hB2⟩:=Zt ((if 0<k then acc2++[43] else acc2));have hB2l:B2.length<=i * 50000000+1+k * 40002+1:=by
    rw [<- hB2];split
    ·exact Z0 (Nat.le_of_eq (by simp)) (Nat.add_le_add_right hal2 1)
    ·exact Z0 hal2 (Nat.le_add_right _ _)
   have hnew:B2++ty++[61]++wv=B++Lib.join ((r.take (k+1)).map (avT false)) [43]:=by
    rw [htk2,Z7,List.map_singleton,Jb,<- hB2];have e0:avT false (ty,va)=ty++[61]++wv:=by simp [avT,hwv]
    by_cases h0:0<k
    ·rw [if_pos h0,if_neg,hacc2.out,e0]
     ·simp
     ·intro e;rcases List.take_eq_nil_iff.1 (acA.1 e) with e|e
      ·omega
      ·rw [e] at hkl;simp at hkl
    ·have:k=0:=by omega
     subst this;have:=hacc2.out;simp only [aaX,abr] at this;rw [if_neg (by omega),this,e0];simp [Lib.join]
   replace hnew:=hid hnew;have hBn:(B2++ty++[61]++wv).length=B2.length+ty.length+1+wv.length:=by simp only [ZQ,ZN,aav]
   have hBn2:(B2++ty++[61]++wv).length<=i * 50000000+1+(k+1) * 40002:=by rw [hBn];omega
   replace hB2:=hid hB2;clear hwl ha ham hva htk2;have hkb:k<1000:=by omega
   have b0:((acc2.length+1:Nat):Int)<=9223372036854775807:=by omega
   have b1:((B2.length+ty.length:Nat):Int)<=9223372036854775807:=by omega
   have b2:((B2.length+ty.length+1:Nat):Int)<=9223372036854775807:=by omega
   have b3:((B2.length+ty.length+1+wv.length:Nat):Int)<=9223372036854775807:=by omega
   simp only [Int.natCast_add,Int.cast_ofNat_Int] at b0 b1 b2 b3
   iterate 12 first
    | refine bb ?_
    | (first|refine aU (by kernel_rfl) ?_|refine aA (by kernel_rfl) ?_|refine aD ?_|refine bS ?_|refine bh (fun _=>?_)|refine ay ?_|refine aW ?_)
      simp (config:={ maxSteps:=2000000 }) only [Kon,push_cast,reduceIte,Nat.reduceEqDiff,Nat.reduceAdd,Nat.reduceMul,Nat.reduceSub,Nat.reduceLT,Nat.reduceLeDiff,Int.reduceLT,Int.reduceLE,Int.reduceAdd,Int.reduceSub,Int.reduceNeg,Int.reduceToNat,Int.reduceEq,reduceCtorEq, *]
    | (first|refine aP (by kernel_rfl) ?_|refine aQ ?_|refine aC ?_|refine aV ?_|refine bq (ax ?_))
      simp only [push_cast,reduceIte,Nat.reduceEqDiff,Nat.reduceAdd,Nat.reduceMul,Nat.reduceSub,Nat.reduceLT,Nat.reduceLeDiff,Int.reduceLT,Int.reduceLE,Int.reduceAdd,Int.reduceSub,Int.reduceNeg,Int.reduceToNat,Int.reduceEq,reduceCtorEq, *]
    | exact bj
    | first|apply bm|apply aR|apply bo|apply aS|apply bp|apply aT
    | refine aG ?_
    | refine aB ?_
    | first|refine aE rfl ?_|refine aF rfl ?_|refine an rfl ?_ ?_|refine aI rfl (fun _=>?_) (fun _=>?_)|refine aH rfl (fun _=>?_) (fun _=>?_)
    | ((first|refine am (fun _=>?_) (fun _=>?_)|refine aw (fun _=>?_) (fun _=>?_))<;>try simp (config:={ maxSteps:=2000000 }) only [Kon,push_cast,reduceIte,Nat.reduceEqDiff,Nat.reduceAdd,Nat.reduceMul,Nat.reduceSub,Nat.reduceLT,Nat.reduceLeDiff,Int.reduceLT,Int.reduceLE,Int.reduceAdd,Int.reduceSub,Int.reduceNeg,Int.reduceToNat,Int.reduceEq,reduceCtorEq, *])
    | refine And.intro trivial ?_
    | refine And.intro (by omega) ?_
    | refine aM rfl (fun _=>?_) (fun _=>?_)
    | refine And.intro ?_ ?_
   refine K1 (fun T2 L2=>T2=[(3,.str B2),(7,.ptr (L.length+Z.length) 0),(21,.int .i64 (k:Int)),(20,.int .i64 r.length),(19,cf r),(10,.int .i64 (i:Int)),(9,.int .i64 d.length),(8,.sl (d.map cf) d.length cap)]/\L2=L++(Z++[.cells [.str ty,.str va]])) ?_ ?_
   ·by_cases h0:0<k
    ·have k0:(0:Int)<(k:Int):=by omega
     have hB':=hB2.out;rw [if_pos h0] at hB';subst hB';clear h0;refine wk ?_;exact nX _ _ (CutL (b:=by simp)) ⟨rfl,rfl⟩
    ·have k0:¬ (0:Int)<(k:Int):=by omega
     have hB':=hB2.out;rw [if_neg h0] at hB';subst hB';clear h0;refine wk ?_;exact nX _ _ (CutL (b:=by simp)) ⟨rfl,rfl⟩
   rintro _ _ ⟨rfl,rfl⟩ -;have kk1:=@hid _ (fun L K=>iM hva' (L:=L) (K:=K));refine wk ?_;exact aj _ _ _ (by omega) (CutL (b:=by have:=hXZ.out;simp;omega)) ⟨k+1,B2++ty++[61]++wv,_,rfl,hkl,hBn2,by have:=hXZ.out;simp;omega,hnew,rfl,rfl⟩
  ·have hke:k=r.length:=by omega
   subst hke;have g3:¬ (r.length:Int)<(r.length:Int):=by omega
   have hfl:acc2.length<=(i+1) * 50000000:=by
    rw [abR];clear hal hBl hab;generalize i * 50000000=M at hal2 ⊢;omega
   have e:=hacc2.out;rw [ZW,show Lib.join (r.map (avT false)) [43]=c8 false r by simp [c8],hfin.out] at e;replace e:=hid e;refine wk ?_;exact aj _ _ _ (by omega) (CutL (b:=by simp)) ⟨i+1,acc2,_,rfl,hlt,hfl,e,rfl,rfl⟩
 ·have hke:i=d.length:=by omega
  subst hke;have g1:¬ (d.length:Int)<(d.length:Int):=by omega
  have e:=hacc.out;rw [ZW] at e;have h':=h.out;simp only [dJ] at h';rw [<- e] at h';replace h':=hid h';clear hacc e;refine wk ?_;exact ae rfl h'.out
def G8 (r:Rdn):Nat:=(r.map fun a=>min a.2.length 5000).sum
def Kw (d:List Rdn):Nat:=(d.map G8).sum
theorem T8 (n:Nat):∀ (s:List UInt8) (i:Nat),s.length<=(wrL n i s).length
 | [],_=>by simp
 | c::s,i=>by
   have h1:=T8 n s (i+1);have h2:1<=(wrB i n c).length:=by
    unfold wrB;split
    ·simp
    ·split<;>simp
   simp only [wrL,ZQ,ZN];omega
theorem Ot (sep:List UInt8):∀ xs:List (List UInt8),(xs.map List.length).sum<=(Lib.join xs sep).length
 | []=>by simp [Lib.join]
 | [x]=>by simp [Lib.join,List.intercalate]
 | x::y::l=>by
   have h1:=Ot sep (y::l);have e:Lib.join (x::y::l) sep=x++(sep++Lib.join (y::l) sep):=by simp [Lib.join,List.intercalate]
   rw [e];simp only [ZK,aaT,ZQ] at h1 ⊢;omega
theorem WO (r:Rdn):G8 r<=(c8 false r).length:=by
 have h1:G8 r<=((r.map (avT false)).map List.length).sum:=by
  induction r with
  | nil=>simp [G8]
  | cons a r ih =>
    have h2:=T8 a.2.length a.2 0;have h3:min a.2.length 5000<=(avT false a).length:=by
     simp only [avT,ZP,if_false,ZQ,dS];omega
    simp only [G8,ZK,aaT] at ih ⊢;omega
 have h2:=Ot [43] (r.map (avT false));simp only [c8,ZP,if_false];omega
theorem Rr (d:List Rdn):Kw d<=(dJ false d).length:=by
 have h1:Kw d<=((d.map (c8 false)).map List.length).sum:=by
  induction d with
  | nil=>simp [Kw]
  | cons a r ih =>
    have h2:=WO a;simp only [Kw,ZK,aaT] at ih ⊢;omega
 have h2:=Ot [44] (d.map (c8 false));simp only [dJ];omega
theorem Ok:∀ {l:List Nat} {x:Nat},x∈l->x<=l.sum
 | [],_,h=>by cases h
 | y::l,x,h=>by
   rw [aaT];rcases ZF.1 h with rfl|h
   ·omega
   ·have:=Ok h;omega
theorem O4 {d:List Rdn} (h:Kw d<=4096):∀ r∈d,∀ a∈r,a.2.length<=4096:=fun r hr a ha=>by
 have h1:G8 r<=Kw d:=by
  unfold Kw;exact Ok (List.mem_map_of_mem hr)
 have h2:min a.2.length 5000<=G8 r:=by
  unfold G8;exact Ok (List.mem_map_of_mem (f:=fun a:Ava=>min a.2.length 5000) ha)
 omega
theorem Ps {d:List Rdn} (h:∀ r∈d,∀ a∈r,a.2.length<=4096):Iw d=false:=by
 unfold Iw z8;rw [abc];intro r hr;simp only [aa0,abc,decide_eq_true_eq];intro a ha;have:=h r hr a ha;omega
theorem WR {r:Rdn} {typ:List UInt8} {n:Nat} {cap:Option Nat} (hr:r.length=n) (hn:n<=8) (h1:∀ a∈r,a.1.length<=32) (h2:typ.length<=32) (h:K (.bool (gw r typ)) L) :
  Zx 165 [.sl (a7 r) n cap,.str typ] L K:=by
 subst hr;exact Uz (by omega) (fun a ha=>by have:=h1 a ha;omega) (by omega) h
theorem Sw {d:List Rdn} {cap:Option Nat} (hn:d.length<=1100000) (hr:∀ r∈d,r.length<=1100000/\∀ a∈r,(a.1.length:Int)<=140737488351232) (h:K (oa (prS d)) L):Zx 167 [.sl (d.map cf) d.length cap] L K:=by
 obtain ⟨R,hR⟩:=Zt (prS d);rw [hR] at h;replace h:=hid h;have hat:=hid (fun k=>@Gp d k);replace hr:=hid hr;have hbad:gx 0 d≠0->R=([],gx 0 d):=fun e=>by rw [<- hR,prS,if_pos e]
 replace hbad:=hid hbad;replace hR:=hid hR;refine Zw Jx ?_;refine ak (fun n T' L'=>∃ (i:Nat) (c:Int) (X:List Blk),n=d.length - i/\i<=d.length/\i<=32/\Hid (c=(Kw (d.take i):Nat)/\c<=40000 * i)/\Hid (gx i (d.drop i)=gx 0 d)/\T'=[(11,.int .i64 (i:Int)),(10,.int .i64 d.length),(9,.sl (d.map cf) d.length cap),(4,.int .i64 c),(0,.sl (d.map cf) d.length cap)]/\L'=L++X) (CutS (b:=by simp)) ⟨0,0,[],rfl,ZI _,by omega,hid ⟨rfl,by omega⟩,hid rfl,rfl,by simp⟩ ?_;rintro _ _ _ ⟨i,c,X,rfl,hi,hi32,hc,he,rfl,rfl⟩;by_cases hlt:i<d.length
 ·have g1:(i:Int)<(d.length:Int):=by omega
  have g2:=Zv i (by omega);have e2:=hat.out i hlt;have hrm:d.getD i []∈d:=by rw [Z2,ZR hlt];exact aaI _
  obtain ⟨hrl,hrt⟩:=hr.out (d.getD i []) hrm;obtain ⟨r,hri⟩:=Zt (d.getD i []);have hdr:d.drop i=r::d.drop (i+1):=by rw [aal hlt,<- hri];simp [hlt]
  have hdt:d.take (i+1)=d.take i++[r]:=by rw [ZY hlt,<- hri];simp [hlt]
  rw [hri] at e2 hrl hrt;have he2:=he.out;rw [hdr,gx] at he2;clear hdr hri hrm;replace hrt:=hid hrt;replace hdt:=hid hdt;by_cases h32:i=32
  ·rw [if_pos h32] at he2;have h':=h.out;rw [hbad.out (by rw [<- he2];decide),<- he2] at h';replace h':=hid h';have k1:(i:Int)=32:=by omega
   have g1':(32:Int)<(d.length:Int):=by omega
   clear h32 he2;refine wk ?_;exact ae rfl h'.out
  rw [if_neg h32] at he2;have k1:¬ (i:Int)=32:=by omega
  by_cases hr0:r=[]
  ·rw [if_pos hr0] at he2;subst hr0;have h':=h.out;rw [hbad.out (by rw [<- he2];decide),<- he2] at h';replace h':=hid h';clear h32 he2;refine wk ?_;exact ae rfl h'.out
  rw [if_neg hr0] at he2;have k2:¬ (r.length:Int)=0:=by have:=aaQ.2 hr0;omega
  have herr:∀ e:Int,dw [] r=e->e≠0->K (.tup [.str [],.int .i64 e]) L:=fun e a1 a2=>by
   rw [if_pos (by rw [a1];exact a2),a1] at he2;have h':=h.out
   rwa [hbad.out (by rw [<- he2];exact a2),<- he2] at h'
  replace herr:=hid herr;replace he2:=hid he2;clear h32;refine wk ?_;refine ak (fun n T' L'=>∃ (k:Nat) (c':Int) (Y:List Blk),n=r.length - k/\k<=r.length/\k<=8/\Hid (c'=c+(G8 (r.take k):Nat)/\0<=c'/\c'<=40000 * i+5000 * k)/\Hid (dw (r.take k) (r.drop k)=dw [] r/\∀ a∈r.take k,a.1.length<=32)/\T'=[(23,.int .i64 (k:Int)),(22,.int .i64 r.length),(21,cf r),(6,cf r),(11,.int .i64 (i:Int)),(10,.int .i64 d.length),(9,.sl (d.map cf) d.length cap),(4,.int .i64 c'),(0,.sl (d.map cf) d.length cap)]/\L'=L++(X++Y)) (CutS (b:=by simp)) ⟨0,c,[],rfl,ZI _,by omega,hid ⟨by simp [G8],by have:=hc.out;omega,by have:=hc.out;omega⟩,hid ⟨rfl,by simp⟩,rfl,by simp⟩ ?_;rintro _ _ _ ⟨k,c',Y,rfl,hk,hk8,hc',hrow,rfl,rfl⟩;by_cases hkl:k<r.length
  ·have g3:(k:Int)<(r.length:Int):=by omega
   have g4:=Zv k (by omega);have e3:=eM hkl;have e4:k * 2+2<=(a7 r).length:=by rw [dt];omega
   obtain ⟨⟨ty,va⟩,ha⟩:∃ a,r.getD k ([],[])=a:=⟨_,rfl⟩;have ham:(ty,va)∈r:=by rw [<- ha];simp [hkl]
   have hdk:r.drop k=(ty,va)::r.drop (k+1):=by rw [aal hkl,<- ha];simp [hkl]
   have htk:r.take (k+1)=r.take k++[(ty,va)]:=by rw [ZY hkl,<- ha];simp [hkl]
   rw [ha] at e3;simp only [mL] at e3;have hty1:=hrt.out _ ham;simp only at hty1;obtain ⟨hr1,hr2⟩:=hrow.out;rw [hdk,dw] at hr1;have hlk:(r.take k).length=k:=by simp;omega
   rw [hlk] at hr1;clear hdk ha hrow ham;have e5:(a7 r).take (k * 2)=a7 (r.take k):=JG;have g5:(k:Int)<=(r.length:Int):=by omega
   replace hr1:=hid hr1;replace hr2:=hid hr2;replace htk:=hid htk;have e6:=hid hlk;clear hlk
   repeat' first
    | refine bb ?_
    | (first|refine aU (by kernel_rfl) ?_|refine aA (by kernel_rfl) ?_|refine aD ?_|refine bS ?_|refine bh (fun _=>?_)|refine ay ?_|refine aW ?_)
      refine sm ?_
    | (first|refine aP (by kernel_rfl) ?_|refine aQ ?_|refine aC ?_|refine aV ?_|refine bq (ax ?_))
      refine sl ?_
    | exact bj
    | first|apply bm|apply aR|apply bo|apply aS|apply bp|apply aT
    | refine aG ?_
    | refine aB ?_
    | first|refine aE rfl ?_|refine aF rfl ?_|refine an rfl ?_ ?_|refine aI rfl (fun _=>?_) (fun _=>?_)|refine aH rfl (fun _=>?_) (fun _=>?_)
    | ((first|refine am (fun _=>?_) (fun _=>?_)|refine aw (fun _=>?_) (fun _=>?_))<;>try refine sm ?_)
    | refine And.intro trivial ?_
    | refine And.intro (by omega) ?_
    | refine aM rfl (fun _=>?_) (fun _=>?_)
    | refine And.intro ?_ ?_
   ·rename_i h8
    have h':=hid (herr.out 9 (by rw [<- hr1.out,if_pos (by omega)]) (by decide));exact ae rfl h'.out
   ·rename_i h8
    have hr3:=hr1.out;rw [if_neg (by omega)] at hr3;replace hr3:=hid hr3;refine O6 hty1 ?_;cases hty:fq ty with
    | false =>
      have h':=hid (herr.out 20 (by rw [<- hr3.out,if_pos hty]) (by decide));clear hr3;refine sk ?_;refine wk ?_;exact ae rfl h'.out
    | true =>
      have hr4:=hr3.out;rw [if_neg (by rw [hty];simp)] at hr4;replace hr4:=hid hr4;have htl:=n9 hty;clear hr3;refine sk ?_
      repeat' first
       | refine bb ?_
       | (first|refine aU (by kernel_rfl) ?_|refine aA (by kernel_rfl) ?_|refine aD ?_|refine bS ?_|refine bh (fun _=>?_)|refine ay ?_|refine aW ?_)
         refine sm ?_
       | (first|refine aP (by kernel_rfl) ?_|refine aQ ?_|refine aC ?_|refine aV ?_|refine bq (ax ?_))
         refine sl ?_
       | exact bj
       | first|apply bm|apply aR|apply bo|apply aS|apply bp|apply aT
       | refine aG ?_
       | refine aB ?_
       | first|refine aE rfl ?_|refine aF rfl ?_|refine an rfl ?_ ?_|refine aI rfl (fun _=>?_) (fun _=>?_)|refine aH rfl (fun _=>?_) (fun _=>?_)
       | ((first|refine am (fun _=>?_) (fun _=>?_)|refine aw (fun _=>?_) (fun _=>?_))<;>try refine sm ?_)
       | refine And.intro trivial ?_
       | refine And.intro (by omega) ?_
       | refine aM rfl (fun _=>?_) (fun _=>?_)
       | refine And.intro ?_ ?_
      refine aL (WR e6.out (by omega) hr2.out htl ⟨rfl,rfl⟩) ?_;cases hha:gw (r.take k) ty with
      | true =>
        have h':=hid (herr.out 21 (by rw [<- hr4.out,if_pos hha]) (by decide));refine sk ?_;refine wk ?_;exact ae rfl h'.out
      | false =>
        have hr5:=hr4.out;rw [if_neg (by rw [hha];simp),<- htk.out] at hr5;replace hr5:=hid hr5;clear hr4;obtain ⟨z,hz⟩:∃ z:Int,(if (5000:Int)<(va.length:Int) then 5000 else (va.length:Int))=z:=⟨_,rfl⟩;have hz2:z=((min va.length 5000:Nat):Int):=by rw [<- hz];split<;>omega
        have hzw:IntKind.i64.wrap (c'+z)=c'+z:=by
         have:=hc'.out;exact ac (by omega) (by omega)
        replace hz2:=hid hz2;refine sk ?_;refine wk ?_;refine aj _ _ _ (by omega) (CutL (b:=by simp)) ⟨k+1,c'+z,Y++[.cells [.str ty,.str va]],rfl,hkl,by omega,hid ?_,hid ⟨hr5.out,fun a ha=>?_⟩,rfl,by simp⟩
        ·have:=hc'.out;have e:G8 (r.take (k+1))=G8 (r.take k)+min va.length 5000:=by rw [htk.out];simp [G8]
         have:=hz2.out;omega
        rw [htk.out] at ha;rcases ZD.1 ha with h|h
        ·exact hr2.out a h
        ·rw [ZS.1 h];exact htl
  ·have hke:k=r.length:=by omega
   subst hke;have g3:¬ (r.length:Int)<(r.length:Int):=by omega
   have hz:=hrow.out.1;rw [aai,dw] at hz;have he3:=he2.out;rw [<- hz] at he3;simp only [ne_eq,not_true_eq_false,if_false] at he3;replace he3:=hid he3;have hcn:=hc'.out;rw [ZW] at hcn;replace hcn:=hid hcn;clear hz;refine wk ?_;refine aj _ _ _ (by omega) (CutS (b:=by simp)) ⟨i+1,c',X++Y,rfl,hlt,by omega,hid ?_,hid he3.out,rfl,rfl⟩;have e:Kw (d.take (i+1))=Kw (d.take i)+G8 r:=by rw [hdt.out];simp [Kw]
   have:=hcn.out;have:=hc.out;omega
 ·have hke:i=d.length:=by omega
  subst hke;have g1:¬ (d.length:Int)<(d.length:Int):=by omega
  have hch:=he.out;rw [aai,gx] at hch;have hcc:=hc.out.1;rw [ZW] at hcc;have hR':=hR.out;rw [prS,if_neg (by rw [<- hch];simp)] at hR';have hge:=Rr d;by_cases hbig:4096<Kw d
  ·have k1:(4096:Int)<c:=by omega
   have h':=h.out;rw [<- hR'] at h';have e:(if Iw d=true then (([]:List UInt8),(5:Int)) else if 4096<(dJ false d).length then ([],5) else (dJ false d,0))=([],5):=by
    split
    ·rfl
    ·rw [if_pos (by omega)]
   rw [e] at h';replace h':=hid h';clear hbig hge hcc e hR' hch;refine wk ?_;exact ae rfl h'.out
  ·have k1:¬ (4096:Int)<c:=by omega
   have hlo:=O4 (d:=d) (by omega);obtain ⟨hd32,hd8⟩:=KZ d 0 hch.symm (by omega);rw [Ps hlo,if_neg (by simp)] at hR';replace hlo:=hid hlo;replace hd8:=hid hd8;have hbn:=hid (show ∀ r∈d,r.length<=1000/\∀ a∈r,a.1.length<=10000/\a.2.length<=10000 from fun r hr=>⟨by have:=(hd8.out r hr).1;omega,fun a ha=>⟨by have:=(hd8.out r hr).2 a ha;omega,by have:=hlo.out r hr a ha;omega⟩⟩);by_cases hlg:4096<(dJ false d).length
   ·have k2:(4096:Int)<((dJ false d).length:Int):=by omega
    have h':=h.out;rw [<- hR',if_pos hlg] at h';replace h':=hid h';clear hbig hge hcc hR' hch hlg;have kk1:=@hid _ (fun L K=>N6 (cap:=cap) (by omega) hbn.out (L:=L) (K:=K));refine wk ?_;exact ae rfl h'.out
   ·have k2:¬ (4096:Int)<((dJ false d).length:Int):=by omega
    have h':=h.out;rw [<- hR',if_neg hlg] at h';replace h':=hid h';clear hbig hge hcc hR' hch hlg;have kk1:=@hid _ (fun L K=>N6 (cap:=cap) (by omega) hbn.out (L:=L) (K:=K));refine wk ?_;exact ae rfl h'.out
def nI (a:Ava):Ava:=(ab a.1,bD a.2)
abbrev qO (a:Ava):List UInt8:=avT false a
def rl (l:Rdn) (x:Ava):Nat->Nat
 | 0=>0
 | n+1=>if qO x<qO (l.getD n ([],[])) then rl l x n else n+1
def CE (l:Rdn) (x:Ava):Rdn:=l.take (rl l x l.length)++[x]++l.drop (rl l x l.length)
def ez (r:Rdn):Rdn:=r.foldl (fun l a=>CE l (nI a)) []
def gc (d:List Rdn):List Rdn:=d.map ez
theorem Oc (l:Rdn) (x:Ava):∀ n,rl l x n<=n
 | 0=>ZA _
 | n+1=>by
   have:=Oc l x n;unfold rl;split<;>omega
theorem Pz (l:Rdn) (x:Ava):(CE l x).length=l.length+1:=by
 have:=Oc l x l.length;simp [CE];omega
theorem Pf {r:Rdn} {k:Nat} (h:k<r.length):ez (r.take (k+1))=CE (ez (r.take k)) (nI (r.getD k ([],[]))):=by
 unfold ez;rw [ZY h,abo];simp [h]
theorem LR (r:Rdn):∀ l:Rdn,(r.foldl (fun l a=>CE l (nI a)) l).length=l.length+r.length:=by
 induction r with
 | nil=>simp
 | cons a r ih=>intro l;rw [aat,ih,Pz];simp;omega
theorem rm (r:Rdn):(ez r).length=r.length:=by simp [ez,LR]
theorem TF {r:Rdn} {k:Nat}:(a7 r).drop (k * 2)=a7 (r.drop k):=by
 induction r generalizing k with
 | nil=>simp [a7]
 | cons a r ih =>
   cases k with
   | zero=>simp [a7]
   | succ k =>
     have:=@ih k;simp only [a7] at this;rw [show (k+1) * 2=k * 2+1+1 by omega];simp [a7,mL,this]
theorem NX (r q:Rdn):a7 (r++q)=a7 r++a7 q:=by simp [a7]
theorem Rx (l:Rdn) (x:Ava):∀ (n j:Nat),rl l x n<=j->j<n->qO x<qO (l.getD j ([],[]))
 | 0,_,_,h=>by omega
 | n+1,j,h1,h2=>by
   unfold rl at h1;split at h1
   ·rename_i hk
    rcases ZT j n with e|e
    ·exact Rx l x n j h1 e
    ·have:j=n:=by omega
     subst this;exact hk
   ·omega
theorem Ry (l:Rdn) (x:Ava):∀ n,rl l x n=0\/¬ qO x<qO (l.getD (rl l x n - 1) ([],[]))
 | 0=>.inl rfl
 | n+1=>by
   unfold rl;split
   ·exact Ry l x n
   ·rename_i hk;exact .inr (by simpa using hk)
def NZ (l:Rdn):Prop:=l.Pairwise fun a b=>qO a<=qO b
theorem QM {l:Rdn} {x:Ava} (hs:NZ l):NZ (CE l x):=by
 have hge:=Rx l x l.length;have hat:=Ry l x l.length;have hle:=Oc l x l.length;unfold CE;obtain ⟨p,hp⟩:=Zt (rl l x l.length);rw [hp] at hge hat hle ⊢;have hs2:NZ (l.take p++l.drop p):=by rw [aby];exact hs
 obtain ⟨h1,h2,h3⟩:=List.pairwise_append.1 hs2;have ha:∀ a∈l.take p,qO a<=qO x:=fun a ha=>by
  rcases hat with e|e
  ·subst e;simp at ha
  ·have hp1:p - 1<l.length:=by
    rcases aaW p with z|z
    ·subst z;simp at ha
    ·omega
   refine List.le_trans ?_ (aaS.1 e);obtain ⟨i,hi,rfl⟩:=aa1.1 ha;simp only [acq] at hi;rw [List.getElem_take];have hg:l.getD (p - 1) ([],[])=l[p - 1]:=by simp [hp1]
   rw [hg];rcases ZT i (p - 1) with q|q
   ·exact (acx.1 hs) i (p - 1) (by omega) hp1 q
   ·have:i=p - 1:=by omega
    subst this;exact aaS.1 (aaL _)
 have hb:∀ b∈l.drop p,qO x<=qO b:=fun b hb=>by
  obtain ⟨i,hi,rfl⟩:=aa1.1 hb;simp only [abC] at hi;rw [List.getElem_drop];have:=hge (p+i) (by omega) (by omega);have hg:l.getD (p+i) ([],[])=l[p+i]:=by simp [show p+i<l.length by omega]
  rw [hg] at this;exact List.le_of_lt this
 unfold NZ;rw [ZO,List.pairwise_append];refine ⟨h1,?_,?_⟩
 ·simp only [acb,aap];exact ⟨hb,h2⟩
 ·intro a haa b hbb;simp only [acb,ZF] at hbb;rcases hbb with rfl|hbb
  ·exact ha a haa
  ·exact h3 a haa b hbb
theorem Py (l:Rdn) (x:Ava):(CE l x).Perm (x::l):=by
 unfold CE;rw [ZO];refine (List.perm_middle (l₁:=l.take _) (l₂:=l.drop _)).trans ?_;rw [aby]
theorem ID:∀ (r l:Rdn),NZ l->NZ (r.foldl (fun l a=>CE l (nI a)) l)/\(r.foldl (fun l a=>CE l (nI a)) l).Perm (l++r.map nI)
 | [],l,h=>by simpa using h
 | a::r,l,h=>by
   obtain ⟨h1,h2⟩:=ID r (CE l (nI a)) (QM h);refine ⟨h1,h2.trans ?_⟩;refine ((Py l (nI a)).append_right _).trans ?_;simp only [ZK];exact (List.perm_middle (l₁:=l)).symm
theorem RQ (a:Ava):avT true a=qO (nI a):=by simp [avT,nI]
theorem Qr (r:Rdn):(ez r).map qO=du (r.map (avT true)):=by
 obtain ⟨h1,h2⟩:=ID r [] List.Pairwise.nil;refine acy (le:=fun x y=>x<=y) (fun a b _ _=>ack) ?_ ?_ ?_
 ·rw [acj];exact h1
 ·have:=acz (le:=fun x y:List UInt8=>decide (x<=y)) (fun a b c h1 h2=>by
   simp only [decide_eq_true_eq] at *;exact List.le_trans h1 h2) (fun a b=>by
   simp only [aaa,decide_eq_true_eq];exact List.le_total a b) (r.map (avT true))
  exact this.imp fun h=>by simpa using h
 ·refine (h2.map qO).trans ?_;unfold du;refine List.Perm.trans ?_ (abJ _ _).symm;rw [aab,Z4];rw [show (qO ∘ nI)=avT true from funext fun a=>(RQ a).symm]
theorem SI (r:Rdn):c8 false (ez r)=c8 true r:=by
 have:=Qr r;simp only [c8,ZP,if_false,if_true];rw [<- this]
theorem Lq (d:List Rdn):dJ false (gc d)=dJ true d:=by
 unfold dJ gc;rw [Z4];rw [show (c8 false ∘ ez)=c8 true from funext SI]
theorem W7 {p:Ava->Prop} {l:Rdn} {x:Ava} (h:∀ a∈l,p a) (hx:p x):∀ a∈CE l x,p a:=fun a ha=>by
 rcases ZF.1 ((Py l x).mem_iff.1 ha) with rfl|h1
 ·exact hx
 ·exact h a h1
theorem Mw:∀ r:Rdn,(a7 r).all AV.one=true
 | []=>rfl
 | a::r=>by
   have:=Mw r;simp only [a7] at this;simp [a7,mL,AV.one,this]
theorem Sf {xs:List AV} {i:Nat} {a b:AV} (h:(xs.drop i).take 2=[a,b]):xs.getD i .undef=a/\xs.getD (i+1) .undef=b:=by
 have h0:=congrArg (·[0]?) h;have h1:=congrArg (·[1]?) h;simp [ab5,aan] at h0 h1;simp [Z2,h0,h1]
theorem Ut {d:List Rdn} {cap:Option Nat} (hn:d.length<=1000) (hr:∀ r∈d,r.length<=1000/\∀ a∈r,a.1.length<=10000/\a.2.length<=10000) (h:K (.sl ((gc d).map cf) d.length none) L) :
  Zx 169 [.sl (d.map cf) d.length cap] L K:=by
 replace h:=hid h;have hat:=hid (fun k=>@Gp d k);replace hr:=hid hr;refine Zw Jw ?_;refine cG (l:=[]) (n:=0) 3 1 rfl (aae 1).symm ?_;refine ak (fun n T' L'=>∃ (i:Nat) (out:List Rdn) (Z:List Blk),n=d.length - i/\i<=d.length/\Hid (out=(d.take i).map ez)/\L'[L.length]?=some (.spare i 1)/\T'=[(14,.int .i64 (i:Int)),(13,.int .i64 d.length),(12,.sl (d.map cf) d.length cap),(3,.gsl (out.map cf) i L.length 1)]/\L'=L++Z) (CutS (b:=by simp)) ⟨0,[],[.spare 0 1],rfl,ZI _,hid rfl,by simp,rfl,rfl⟩ ?_;rintro _ _ _ ⟨i,out,X,rfl,hi,hout,ho,rfl,rfl⟩;by_cases hlt:i<d.length
 ·have g1:(i:Int)<(d.length:Int):=by omega
  have g2:=Zv i (by omega);have e2:=hat.out i hlt;have hrm:d.getD i []∈d:=by rw [Z2,ZR hlt];exact aaI _
  have hrl:=hr.out _ hrm;obtain ⟨r,hri⟩:=Zt (d.getD i []);have htk:d.take (i+1)=d.take i++[r]:=by rw [ZY hlt,<- hri];simp [hlt]
  rw [hri] at e2 hrl;clear hri hrm;obtain ⟨hrl1,hrl2⟩:=hrl;replace hrl2:=hid hrl2;replace htk:=hid htk;refine wk ?_;refine ak (fun n T' L'=>∃ (k:Nat) (l:Rdn) (v:AV) (Z:List Blk),n=r.length - k/\k<=r.length/\Hid (l=ez (r.take k)/\YI L.length l v L'/\∀ a∈l,a.1.length<=10000/\a.2.length<=10000)/\L'[L.length]?=some (.spare i 1)/\X.length<=Z.length/\T'=[(20,.int .i64 (k:Int)),(19,.int .i64 r.length),(18,cf r),(6,v),(14,.int .i64 (i:Int)),(13,.int .i64 d.length),(12,.sl (d.map cf) d.length cap),(3,.gsl (out.map cf) i L.length 1)]/\L'=L++Z) (CutS (b:=by have:=(Zz.1 ho).1;simp at this ⊢)) ⟨0,[],_,X,rfl,ZI _,hid ⟨rfl,.inl ⟨rfl,rfl,rfl⟩,by simp⟩,ho,ZA _,rfl,rfl⟩ ?_;clear ho;rintro _ _ _ ⟨k,l,v,X1,rfl,hk,hI,ho,hXZ,rfl,rfl⟩;obtain ⟨hl,hv,hlen⟩:=hI.out;clear hI;have hB:L.length<(L++X1).length:=(Zz.1 ho).1;refine OU 6 2 L.length rfl hB hv fun p Y hBi hpi=>?_
  rw [ZO] at hpi ⊢;have ho2:(L++(X1++Y))[L.length]?=some (.spare i 1):=by rw [<- ZO,ZM hB];exact ho
  have hXZ2:X.length<=(X1++Y).length:=by simp;omega
  generalize X1++Y=Z at hpi ho2 hXZ2 ⊢;clear ho hB hv hXZ X1 Y;replace hXZ2:=hid hXZ2;have hll:l.length=k:=by rw [hl,rm];simp;omega
  rw [hll] at hpi ⊢;have hpl:=(Zz.1 hpi).1;have hol:=(Zz.1 ho2).1;rw [ZQ] at hpl hol;replace hlen:=hid hlen;replace hl:=hid hl;replace hpl:=hid hpl;replace hol:=hid hol;by_cases hkl:k<r.length
  ·have g3:(k:Int)<(r.length:Int):=by omega
   have g4:=Zv k (by omega);have e3:=eM hkl;have e4:k * 2+2<=(a7 r).length:=by rw [dt];omega
   obtain ⟨⟨ty,va⟩,ha⟩:∃ a,r.getD k ([],[])=a:=⟨_,rfl⟩;have ham:(ty,va)∈r:=by rw [<- ha];simp [hkl]
   have hnew:=Pf hkl;rw [ha] at e3 hnew;simp only [mL] at e3;have hva:=hrl2.out _ ham;simp only at hva;have hva2:(va.length:Int)<=100000:=by omega
   have hty2:(ty.length:Int)<=100000:=by omega
   obtain ⟨fx,hfx⟩:=Zt (ab ty);obtain ⟨px,hpx⟩:=Zt (bD va);have hfl:fx.length<=10000:=by rw [<- hfx];simp [ab];omega
   have hpxl:px.length<=10000:=by rw [<- hpx];have:=qE va;omega
   have hpav:nI (ty,va)=(fx,px):=by simp [nI,hfx,hpx]
   rw [hpav,<- hl.out] at hnew;replace hnew:=hid hnew;clear ha ham hpav
   iterate 24 first
    | refine bb ?_
    | (first|refine aU (by kernel_rfl) ?_|refine aA (by kernel_rfl) ?_|refine aD ?_|refine bS ?_|refine bh (fun _=>?_)|refine ay ?_|refine aW ?_|refine iX hty2 ?_|refine rf hva2 ?_|refine bg (iX hty2 ⟨rfl,rfl⟩) (iX hty2 ⟨rfl,rfl⟩) ?_|refine bg (rf hva2 ⟨rfl,rfl⟩) (rf hva2 ⟨rfl,rfl⟩) ?_|refine aL (iX hty2 ⟨rfl,rfl⟩) ?_|refine aL (rf hva2 ⟨rfl,rfl⟩) ?_)
      simp (config:={ maxSteps:=2000000 }) only [Kon,push_cast,reduceIte,Nat.reduceEqDiff,Nat.reduceAdd,Nat.reduceMul,Nat.reduceSub,Nat.reduceLT,Nat.reduceLeDiff,Int.reduceLT,Int.reduceLE,Int.reduceAdd,Int.reduceSub,Int.reduceNeg,Int.reduceToNat,Int.reduceEq,reduceCtorEq, *]
    | (first|refine aP (by kernel_rfl) ?_|refine aQ ?_|refine aC ?_|refine aV ?_|refine bq (ax ?_))
      simp only [push_cast,reduceIte,Nat.reduceEqDiff,Nat.reduceAdd,Nat.reduceMul,Nat.reduceSub,Nat.reduceLT,Nat.reduceLeDiff,Int.reduceLT,Int.reduceLE,Int.reduceAdd,Int.reduceSub,Int.reduceNeg,Int.reduceToNat,Int.reduceEq,reduceCtorEq, *]
    | exact bj
    | first|apply bm|apply aR|apply bo|apply aS|apply bp|apply aT
    | refine aG ?_
    | refine aB ?_
    | first|refine aE rfl ?_|refine aF rfl ?_|refine an rfl ?_ ?_|refine aI rfl (fun _=>?_) (fun _=>?_)|refine aH rfl (fun _=>?_) (fun _=>?_)
    | ((first|refine am (fun _=>?_) (fun _=>?_)|refine aw (fun _=>?_) (fun _=>?_))<;>try simp (config:={ maxSteps:=2000000 }) only [Kon,push_cast,reduceIte,Nat.reduceEqDiff,Nat.reduceAdd,Nat.reduceMul,Nat.reduceSub,Nat.reduceLT,Nat.reduceLeDiff,Int.reduceLT,Int.reduceLE,Int.reduceAdd,Int.reduceSub,Int.reduceNeg,Int.reduceToNat,Int.reduceEq,reduceCtorEq, *])
    | refine And.intro trivial ?_
    | refine And.intro (by omega) ?_
    | refine aM rfl (fun _=>?_) (fun _=>?_)
    | refine And.intro ?_ ?_
   have hnp:l.getD k ([],[])=([],[]):=by simp [hll]
   obtain ⟨wx,hwx⟩:=Zt (dS px);have hkx:qO (fx,px)=fx++61::wx:=by simp [avT,hwx]
   have hwxl:wx.length<=30000:=by rw [<- hwx];have:=Dh px;omega
   have hpx2:px.length<=100000:=by omega
   replace hkx:=hid hkx;clear hnp;refine K1 (fun T2 L2=>∃ z:Nat,z<=k/\Hid (z=rl l (fx,px) k)/\T2=[(10,.int .i64 (z:Int)),(9,.ptr (L.length+(Z.length+1)) 0),(6,.gsl (a7 l) k p 2),(20,.int .i64 (k:Int)),(19,.int .i64 r.length),(18,cf r),(14,.int .i64 (i:Int)),(13,.int .i64 d.length),(12,.sl (d.map cf) d.length cap),(3,.gsl (out.map cf) i L.length 1)]/\L2=L++(Z++[.cells [.str ty,.str va],.cells [.str fx,.str px]])) ?_ ?_
   ·refine wk ?_;refine ak (fun n T' L'=>∃ q:Nat,q=n/\q<=k/\Hid (rl l (fx,px) q=rl l (fx,px) k)/\T'=[(10,.int .i64 (q:Int)),(9,.ptr (L.length+(Z.length+1)) 0),(6,.gsl (a7 l) k p 2),(20,.int .i64 (k:Int)),(19,.int .i64 r.length),(18,cf r),(14,.int .i64 (i:Int)),(13,.int .i64 d.length),(12,.sl (d.map cf) d.length cap),(3,.gsl (out.map cf) i L.length 1)]/\L'=L++(Z++[.cells [.str ty,.str va],.cells [.str fx,.str px]])) (CutS (b:=by simp)) ⟨k,rfl,ZA _,hid rfl,rfl,rfl⟩ ?_;rintro _ _ _ ⟨q,rfl,hqk,hq,rfl,rfl⟩;rcases q with _|q
    ·have h0:=hid hq.out.symm;have k0:¬ (0:Int)<((0:Nat):Int):=by omega
     have kk1:=@hid _ (fun L K=>iM hpx2 (L:=L) (K:=K));refine wk ?_;exact nX _ _ (CutL (b:=by simp)) ⟨0,by omega,hid h0.out.symm,rfl,rfl⟩
    ·have k0:(0:Int)<((q+1:Nat):Int):=by omega
     have k1:IntKind.i64.wrap (((q+1:Nat):Int) - 1)=(q:Int):=by rw [ac (by omega) (by omega)];omega
     have k4:(q:Int)<(k:Int):=by omega
     have e5:=eM (r:=l) (k:=q) (by omega);have e6:q * 2+2<=(a7 l).length:=by rw [dt];omega
     obtain ⟨⟨t1,v1⟩,hav⟩:∃ a,l.getD q ([],[])=a:=⟨_,rfl⟩;rw [hav] at e5;simp only [mL] at e5;obtain ⟨e7,e8⟩:=Sf e5;obtain ⟨w1,hw1⟩:=Zt (dS v1);have hv1:=hlen.out (t1,v1) (by rw [<- hav];simp [show q<l.length by omega]);simp only at hv1;have hv1':v1.length<=100000:=by omega
     have hw1l:w1.length<=30000:=by rw [<- hw1];have:=Dh v1;omega
     have hk1:qO (l.getD q ([],[]))=t1++61::w1:=by rw [hav];simp [avT,hw1]
     have c1:((t1.length+1:Nat):Int)<=9223372036854775807:=by omega
     have c2:((t1.length+1+w1.length:Nat):Int)<=9223372036854775807:=by omega
     have c3:((fx.length+1:Nat):Int)<=9223372036854775807:=by omega
     have c4:((fx.length+1+wx.length:Nat):Int)<=9223372036854775807:=by omega
     simp only [Int.natCast_add,Int.cast_ofNat_Int] at c1 c2 c3 c4;replace hk1:=hid hk1;simp only [Int.natCast_add,Int.cast_ofNat_Int] at k0 k1;have hq':=hid hq.out;clear hq hav;by_cases hc:qO (fx,px)<qO (l.getD q ([],[]))
     ·have hb:(Op.bytesLess (t1++61::w1) (fx++61::wx) || decide (t1++61::w1=fx++61::wx))=false:=by
       rw [hkx.out,hk1.out] at hc;rw [bytesLess_eq];simp only [abX,decide_eq_false_iff_not];exact ⟨fun e=>aaL _ (abB e hc),fun e=>by rw [e] at hc;exact aaL _ hc⟩
      have hq2:rl l (fx,px) q=rl l (fx,px) k:=by rw [<- hq'.out,rl,if_pos hc]
      replace hq2:=hid hq2;clear hc;have kk1:=@hid _ (fun L K=>iM hpx2 (L:=L) (K:=K));have kk2:=@hid _ (fun L K=>iM hv1' (L:=L) (K:=K));refine wk ?_;exact aj _ _ _ (by omega) (CutL (b:=by simp)) ⟨q,rfl,by omega,hq2,rfl,rfl⟩
     ·have hb:(Op.bytesLess (t1++61::w1) (fx++61::wx) || decide (t1++61::w1=fx++61::wx))=true:=by
       rw [hkx.out,hk1.out] at hc;rw [bytesLess_eq];simp only [aaa,decide_eq_true_eq];have:=aaS.1 hc;rcases abK.1 this with e|e
       ·exact .inl e
       ·exact .inr e
      have hq2:q+1=rl l (fx,px) k:=by rw [<- hq'.out,rl,if_neg hc]
      replace hq2:=hid hq2;clear hc;have kk1:=@hid _ (fun L K=>iM hpx2 (L:=L) (K:=K));have kk2:=@hid _ (fun L K=>iM hv1' (L:=L) (K:=K));refine wk ?_;exact nX _ _ (CutL (b:=by simp)) ⟨q+1,by omega,hq2,rfl,rfl⟩
   rintro _ _ ⟨z,hzk,hz,rfl,rfl⟩ -;have z0:(0:Int)<=(z:Int):=by omega
   have z1:(z:Int)<=(k:Int):=by omega
   have s1:(a7 l).take (z * 2)=a7 (l.take z):=JG;have s2:((a7 l).drop (z * 2)).take ((k - z) * 2)=a7 (l.drop z):=by
    rw [TF,aaR];rw [dt,abC,hll];omega
   have s3:AV.frzL (a7 (l.take z))=a7 (l.take z):=fJ _;have s4:AV.frzL (a7 (l.drop z))=a7 (l.drop z):=fJ _;have s5:(a7 (l.take z)).length=z * 2:=by rw [dt,acq];omega
   have s6:(a7 (l.drop z)).length=(k - z) * 2:=by rw [dt,abC,hll]
   have s7:z+1+(k - z)=k+1:=by omega
   have s8:=Mw (l.take z);have s9:=Mw (l.drop z);have q1:z * 32<=140737488355328:=by omega
   have q2:z<=140737488355328:=by omega
   have q3:(z+1) * 32<=140737488355328:=by omega
   have q4:z+1<=140737488355328:=by omega
   have q5:(k+1) * 32<=140737488355328:=by omega
   have q6:k+1<=140737488355328:=by omega
   iterate 3 first
    | refine bb ?_
    | (first|refine aU (by kernel_rfl) ?_|refine aA (by kernel_rfl) ?_|refine aD ?_|refine bS ?_|refine bh (fun _=>?_)|refine ay ?_|refine aW ?_)
      simp (config:={ maxSteps:=2000000 }) only [Kon,push_cast,reduceIte,Nat.reduceEqDiff,Nat.reduceAdd,Nat.reduceMul,Nat.reduceSub,Nat.reduceLT,Nat.reduceLeDiff,Int.reduceLT,Int.reduceLE,Int.reduceAdd,Int.reduceSub,Int.reduceNeg,Int.reduceToNat,Int.reduceEq,reduceCtorEq, *]
    | (first|refine aP (by kernel_rfl) ?_|refine aQ ?_|refine aC ?_|refine aV ?_|refine bq (ax ?_))
      simp only [push_cast,reduceIte,Nat.reduceEqDiff,Nat.reduceAdd,Nat.reduceMul,Nat.reduceSub,Nat.reduceLT,Nat.reduceLeDiff,Int.reduceLT,Int.reduceLE,Int.reduceAdd,Int.reduceSub,Int.reduceNeg,Int.reduceToNat,Int.reduceEq,reduceCtorEq, *]
    | exact bj
    | first|apply bm|apply aR|apply bo|apply aS|apply bp|apply aT
    | refine aG ?_
    | refine aB ?_
    | first|refine aE rfl ?_|refine aF rfl ?_|refine an rfl ?_ ?_|refine aI rfl (fun _=>?_) (fun _=>?_)|refine aH rfl (fun _=>?_) (fun _=>?_)
    | ((first|refine am (fun _=>?_) (fun _=>?_)|refine aw (fun _=>?_) (fun _=>?_))<;>try simp (config:={ maxSteps:=2000000 }) only [Kon,push_cast,reduceIte,Nat.reduceEqDiff,Nat.reduceAdd,Nat.reduceMul,Nat.reduceSub,Nat.reduceLT,Nat.reduceLeDiff,Int.reduceLT,Int.reduceLE,Int.reduceAdd,Int.reduceSub,Int.reduceNeg,Int.reduceToNat,Int.reduceEq,reduceCtorEq, *])
    | refine And.intro trivial ?_
    | refine And.intro (by omega) ?_
    | refine aM rfl (fun _=>?_) (fun _=>?_)
    | refine And.intro ?_ ?_
   refine cG (l:=[]) (n:=0) 11 2 rfl (aae 2).symm ?_;refine wk ?_;have hcell:a7 (l.take z)++AV.str fx::AV.str px::a7 (l.drop z)=a7 (CE l (fx,px)):=by
    rw [CE,hll,<- hz.out,NX,NX];simp [a7,mL]
   have hlen2:(CE l (fx,px)).length=k+1:=by rw [Pz,hll]
   rw [hcell];refine aj _ _ _ (by omega) (CutL (b:=?_)) ⟨k+1,CE l (fx,px),_,_,rfl,hkl,hid ⟨hnew.out.symm,.inr ⟨L.length+(Z.length+2),by omega,by rw [hlen2],?_⟩,W7 hlen.out ⟨hfl,hpxl⟩⟩,?_,?_,rfl,rfl⟩
   ·have:=hXZ2.out;simp;omega
   ·rw [lX,lX,hlen2];rfl
   ·rw [<- ZO,ZM (Zz.1 ho2).1];exact ho2
   ·have:=hXZ2.out;simp;omega
  ·have hke:k=r.length:=by omega
   subst hke;have g3:¬ (r.length:Int)<(r.length:Int):=by omega
   have q3:(i+1) * 24<=140737488355328:=by omega
   have q4:i+1<=140737488355328:=by omega
   have e5:AV.frzL (a7 l)=a7 l:=fJ _;have e6:out.map cf++[AV.sl (a7 l) r.length none]=(out++[l]).map cf:=by
    rw [Z7];simp [hll]
   have e7:out++[l]=(d.take (i+1)).map ez:=by
    rw [htk.out,Z7,<- hout.out,hl.out,ZW];rfl
   have s4:∀ (W:List Blk) A,(L++W).set L.length A=L++W.set 0 A:=fun W A=>by rw [aaz _ _ (ZA _),aaY]
   have f1:(L++Z.set 0 (.spare (i+1) 1))[L.length]?=some (.spare (i+1) 1):=by
    rw [<- s4,ZX,if_pos rfl,if_pos (Zz.1 ho2).1]
   replace e7:=hid e7;replace f1:=hid f1;replace e6:=hid e6;refine wk ?_;rw [e6.out];refine aj _ _ _ (by omega) (CutL (b:=?_)) ⟨i+1,out++[l],_,rfl,hlt,e7,f1.out,rfl,rfl⟩;have:=hol.out;simp;omega
 ·have hke:i=d.length:=by omega
  subst hke;have g1:¬ (d.length:Int)<(d.length:Int):=by omega
  have e:=hout.out;rw [ZW] at e;have h':=h.out;rw [show (gc d)=out from e.symm] at h';replace h':=hid h';clear hout e;refine wk ?_;refine bv (ae ?_ ?_)
  ·simp only [AV.frz,AV.frzL,oc,AV.refs,AV.refsL,Dp,abl]
  ·simp only [AV.frz,AV.frzL,oc];exact h'.out
theorem Qt (d:List Rdn):(gc d).length=d.length:=by simp [gc]
theorem Qs {r:Rdn} (h:∀ a∈r,a.1.length<=10000/\a.2.length<=10000):∀ a∈ez r,a.1.length<=10000/\a.2.length<=10000:=fun a ha=>by
 have hp:=(ID r [] List.Pairwise.nil).2;have hm:=hp.mem_iff.1 ha;rw [aab] at hm;obtain ⟨b,hb,rfl⟩:=ZC.1 hm;obtain ⟨h1,h2⟩:=h b hb;have h3:=qE b.2;simp only [nI,ab,Z9];omega
theorem Uv {d:List Rdn} {cap:Option Nat} (hn:d.length<=1100000) (hr:∀ r∈d,r.length<=1100000/\∀ a∈r,(a.1.length:Int)<=140737488351232) (h:K (oa (Ly d)) L) :
  Zx 132 [.sl (d.map cf) d.length cap] L K:=by
 unfold Ly oa at h;refine Zw KK ?_;refine Sw hn hr ?_;unfold oa;obtain ⟨⟨ps,pe⟩,hp⟩:∃ p,prS d=p:=⟨_,rfl⟩;rw [hp] at h ⊢;simp only at h ⊢;by_cases h0:pe=0
 ·subst h0;obtain ⟨q1,q2⟩:=UK (by rw [hp]);rw [if_neg (by simp)] at h;have hb:∀ r∈d,r.length<=1000/\∀ a∈r,a.1.length<=10000/\a.2.length<=10000:=fun r hr=>⟨by have:=(q2 r hr).1;omega,fun a ha=>⟨by have:=((q2 r hr).2 a ha).1;omega,by have:=((q2 r hr).2 a ha).2;omega⟩⟩
  have hb2:∀ r∈gc d,r.length<=1000/\∀ a∈r,a.1.length<=10000/\a.2.length<=10000:=fun r hr=>by
   obtain ⟨r0,hr0,rfl⟩:=ZC.1 hr;exact ⟨by rw [rm];exact (hb r0 hr0).1,Qs (hb r0 hr0).2⟩
  have hpl:=hid (Qt d);rw [<- Lq] at h;replace h:=hid h;replace hb:=hid hb;replace hb2:=hid hb2;clear hp hr q2;refine sk ?_;have kk1:=@hid _ (fun L K=>Ut (cap:=cap) (by omega) hb.out (L:=L) (K:=K));refine wk ?_;rw [<- hpl.out];refine N6 (by rw [hpl.out];omega) hb2.out ?_;refine sk ?_;refine wk ?_;exact aa h.out
 ·rw [if_pos h0] at h;replace h:=hid h;clear hp hr;refine sk ?_;refine wk ?_;exact aa h.out
theorem WP {d:List Rdn} {cap:Option Nat} (hn:d.length<=1000000) (hr:∀ r∈d,r.length<=1000000/\∀ a∈r,(a.1.length:Int)<=100000) (h:K (oa (Ly d)) L) :
 Zx 132 [.sl (d.map cf) d.length cap] L K:=Uv (by omega) (fun r hm=>⟨by have:=(hr r hm).1;omega,fun a ha=>by have:=(hr r hm).2 a ha;omega⟩) h
theorem Lv:∀ (f:Nat) (out:List Rdn) (now:Rdn) (s:List UInt8),(∀ a∈now,a.1.length<=32)->(∀ r∈out,∀ a∈r,a.1.length<=32)->∀ r∈(mK f out now s).1,∀ a∈r,a.1.length<=32
 | 0,_,_,_,_,_=>by simp [mK]
 | f+1,out,now,s,h1,h2=>by
   rw [mK];split
   ·simp
   split
   ·simp
   split
   ·simp
   rename_i hty
   have hty':=n9 (by simpa using hty);have hrow:∀ v,∀ a∈now++[(_,v)],a.1.length<=32:=fun v a ha=>by
    rcases ZD.1 ha with h|h
    ·exact h1 a h
    ·rw [ZS.1 h];exact hty'
   have hout:∀ v,∀ r∈out++[now++[(_,v)]],∀ a∈r,a.1.length<=32:=fun v r hr=>by
    rcases ZD.1 hr with h|h
    ·exact h2 r h
    ·rw [ZS.1 h];exact hrow v
   split
   ·simp
   split
   ·simp
   split
   ·simp
   split
   ·exact hout _
   split
   ·exact Lv f _ _ _ (by simp) (hout _)
   ·exact Lv f _ _ _ (hrow _) h2
theorem UR (s:List UInt8):∀ r∈(qF s).1,∀ a∈r,a.1.length<=32:=by
 unfold qF;split
 ·simp
 split
 ·simp
 ·exact Lv _ _ _ _ (by simp) (by simp)
theorem Ux {s:List UInt8} (h:K (oa (CD s)) L):Zx 92 [.str s] L K:=by
 unfold CD at h;refine Zw Mm ?_;refine Uu ?_;obtain ⟨q1,q2⟩:=Rz s;have q3:=UR s;obtain ⟨⟨pd,pe⟩,hp⟩:∃ p,qF s=p:=⟨_,rfl⟩;rw [hp] at h q1 q2 q3 ⊢;simp only [Qw] at h q1 q2 q3 ⊢;clear hp;by_cases h0:pe=0
 ·subst h0;rw [if_neg (by simp)] at h;replace h:=hid h;replace q2:=hid q2;replace q3:=hid q3;refine sk ?_;refine wk ?_;refine WP (by omega) (fun r hr=>⟨by have:=q2.out r hr;omega,fun a ha=>by have:=q3.out r hr a ha;omega⟩) ?_;have h':=h.out;unfold oa at h' ⊢;replace h':=hid h';refine sk ?_;refine wk ?_;exact aa h'.out
 ·rw [if_pos h0] at h;unfold oa at h;replace h:=hid h;clear q1 q2 q3;refine sk ?_;refine wk ?_;exact aa h.out
end Go.Proofs.YtcmfcpjnhephaaaGreatDoor.Av
