/- Joined texts of the walk, made small by a program. -/
import Derived.Test.YtcmfcpjnhephaaaGreatDoorJk10
import Derived.Test.YtcmfcpjnhephaaaGreatDoorJk13
import Derived.Test.YtcmfcpjnhephaaaGreatDoorJk6
import Derived.Test.YtcmfcpjnhephaaaGreatDoorJk12
import Derived.Sort.Walk0
set_option linter.unusedSimpArgs false
set_option linter.unusedVariables false
namespace Go.Proofs.YtcmfcpjnhephaaaGreatDoor.Av
open Go
variable {L:List Blk} {K:abD}
set_option maxHeartbeats 8000000
set_option maxRecDepth 100000
theorem KR (sep x:List UInt8):∀ xs:List (List UInt8),Lib.join (xs++[x]) sep=if xs=[] then x else Lib.join xs sep++sep++x
 | []=>by simp [Lib.join,List.intercalate]
 | [y]=>by simp [Lib.join,List.intercalate]
 | y::z::l=>by
   have ih:=KR sep x (z::l);rw [if_neg (by simp)] at ih ⊢;have e1:Lib.join (y::z::l++[x]) sep=y++(sep++Lib.join (z::l++[x]) sep):=by simp [Lib.join,List.intercalate]
   have e2:Lib.join (y::z::l) sep=y++(sep++Lib.join (z::l) sep):=by simp [Lib.join,List.intercalate]
   rw [e1,ih,e2];simp
theorem PP {d:List Rdn} {cap:Option Nat} (hn:d.length<=1000) (hr:∀ r∈d,r.length<=1000/\∀ a∈r,a.1.length<=10000/\a.2.length<=10000) (h:K (.str (dK false d)) L) :
  abC 168 [.sl (d.map ci) d.length cap] L K:=by
 replace h:=hid h;have hat:=hid (fun k=>@HV d k);replace hr:=hid hr;refine abB Mk ?_;refine ak (fun n T' L'=>∃ (i:Nat) (acc:List UInt8) (Z:List Blk),n=d.length - i/\i<=d.length/\acc.length<=i * 50000000/\Hid (acc=Lib.join ((d.take i).map (da false)) [44])/\T'=[(10,.int .i64 (i:Int)),(9,.int .i64 d.length),(8,.sl (d.map ci) d.length cap),(3,.str acc)]/\L'=L++Z) (CutS (b:=by simp)) ⟨0,[],[],rfl,abL _,by simp,hid (by simp [Lib.join]),rfl,by simp⟩ ?_;rintro _ _ _ ⟨i,acc,X,rfl,hi,hal,hacc,rfl,rfl⟩;by_cases hlt:i<d.length
 ·have g1:(i:Int)<(d.length:Int):=by omega
  have g2:=abA i (by omega);have e2:=hat.out i hlt;have hrm:d.getD i []∈d:=by rw [ab5,abV hlt];exact acN _
  have hrl:=hr.out _ hrm;obtain ⟨r,hri⟩:=aby (d.getD i []);have htk:d.take (i+1)=d.take i++[r]:=by rw [ab2 hlt,<- hri];simp [hlt]
  rw [hri] at e2 hrl;clear hri hrm;obtain ⟨hrl1,hrl2⟩:=hrl;replace hrl2:=hid hrl2;obtain ⟨B,hB⟩:=aby ((if 0<i then acc++[44] else acc));have hBl:B.length<=i * 50000000+1:=by
   rw [<- hB];split
   ·exact ab7 (Nat.le_of_eq (by simp)) (Nat.add_le_add_right hal 1)
   ·exact ab7 hal (Nat.le_add_right _ _)
  have hfin:B++da false r=Lib.join ((d.take (i+1)).map (da false)) [44]:=by
   rw [htk,aca,List.map_singleton,KR,<- hacc.out,<- hB];by_cases h0:0<i
   ·rw [if_pos h0,if_neg];intro e;rcases List.take_eq_nil_iff.1 (aeE.1 e) with e|e
    ·omega
    ·rw [e] at hlt;simp at hlt
   ·have:i=0:=by omega
    subst this;simp at hal;simp [hal]
  replace hfin:=hid hfin;replace hB:=hid hB;replace htk:=hid htk;have hb0:(i:Int)<=1000:=by omega
  have hab:((acc.length+1:Nat):Int)<=9223372036854775807:=by omega
  iterate 12 first
   | refine a8 ?_
   | (first|refine aU (by kernel_rfl) ?_|refine aB (by kernel_rfl) ?_|refine aE ?_|refine bI ?_|refine bf (fun _=>?_)|refine ay ?_|refine aW ?_)
     simp (config:={ maxSteps:=2000000 }) only [Kon,push_cast,reduceIte,Nat.reduceEqDiff,Nat.reduceAdd,Nat.reduceMul,Nat.reduceSub,Nat.reduceLT,Nat.reduceLeDiff,Int.reduceLT,Int.reduceLE,Int.reduceAdd,Int.reduceSub,Int.reduceNeg,Int.reduceToNat,Int.reduceEq,reduceCtorEq, *]
   | (first|refine aO (by kernel_rfl) ?_|refine aP ?_|refine aD ?_|refine aV ?_|refine bp (ax ?_))
     simp only [push_cast,reduceIte,Nat.reduceEqDiff,Nat.reduceAdd,Nat.reduceMul,Nat.reduceSub,Nat.reduceLT,Nat.reduceLeDiff,Int.reduceLT,Int.reduceLE,Int.reduceAdd,Int.reduceSub,Int.reduceNeg,Int.reduceToNat,Int.reduceEq,reduceCtorEq, *]
   | exact bg
   | first|apply bh|apply aR|apply bj|apply aS|apply bm|apply aT
   | refine aH ?_
   | refine aC ?_
   | first|refine aF rfl ?_|refine aG rfl ?_|refine an rfl ?_ ?_|refine aJ rfl (fun _=>?_) (fun _=>?_)|refine aI rfl (fun _=>?_) (fun _=>?_)
   | ((first|refine am (fun _=>?_) (fun _=>?_)|refine aw (fun _=>?_) (fun _=>?_))<;>try simp (config:={ maxSteps:=2000000 }) only [Kon,push_cast,reduceIte,Nat.reduceEqDiff,Nat.reduceAdd,Nat.reduceMul,Nat.reduceSub,Nat.reduceLT,Nat.reduceLeDiff,Int.reduceLT,Int.reduceLE,Int.reduceAdd,Int.reduceSub,Int.reduceNeg,Int.reduceToNat,Int.reduceEq,reduceCtorEq, *])
   | refine And.intro trivial ?_
   | refine And.intro (by omega) ?_
   | refine aM rfl (fun _=>?_) (fun _=>?_)
   | refine And.intro ?_ ?_
  refine KC (fun T2 L2=>T2=[(3,.str B),(5,ci r),(10,.int .i64 (i:Int)),(9,.int .i64 d.length),(8,.sl (d.map ci) d.length cap)]/\L2=L++X) ?_ ?_
  ·by_cases h0:0<i
   ·have k0:(0:Int)<(i:Int):=by omega
    have hB':=hB.out;rw [if_pos h0] at hB';subst hB';clear h0;refine wk ?_;exact jl _ _ (CutL (b:=by simp)) ⟨rfl,rfl⟩
   ·have k0:¬ (0:Int)<(i:Int):=by omega
    have hB':=hB.out;rw [if_neg h0] at hB';subst hB';clear h0;refine wk ?_;exact jl _ _ (CutL (b:=by simp)) ⟨rfl,rfl⟩
  rintro _ _ ⟨rfl,rfl⟩ -;refine wk ?_;refine ak (fun n T' L'=>∃ (k:Nat) (acc2:List UInt8) (Z:List Blk),n=r.length - k/\k<=r.length/\acc2.length<=i * 50000000+1+k * 40002/\X.length<=Z.length/\Hid (acc2=B++Lib.join ((r.take k).map (avT false)) [43])/\T'=[(21,.int .i64 (k:Int)),(20,.int .i64 r.length),(19,ci r),(10,.int .i64 (i:Int)),(9,.int .i64 d.length),(8,.sl (d.map ci) d.length cap),(3,.str acc2)]/\L'=L++Z) (CutS (b:=by simp)) ⟨0,B,X,rfl,abL _,by omega,abF _,hid (by simp [Lib.join]),rfl,rfl⟩ ?_;rintro _ _ _ ⟨k,acc2,Z,rfl,hk,hal2,hXZ,hacc2,rfl,rfl⟩;replace hXZ:=hid hXZ;by_cases hkl:k<r.length
  ·have g3:(k:Int)<(r.length:Int):=by omega
   have g4:=abA k (by omega);have e3:=eM hkl;have e4:k * 2+2<=(aZ r).length:=by rw [dw];omega
   obtain ⟨⟨ty,va⟩,ha⟩:∃ a,r.getD k ([],[])=a:=⟨_,rfl⟩;have ham:(ty,va)∈r:=by rw [<- ha];simp [hkl]
   have htk2:r.take (k+1)=r.take k++[(ty,va)]:=by rw [ab2 hkl,<- ha];simp [hkl]
   rw [ha] at e3;simp only [mY] at e3;have hva:=hrl2.out _ ham;simp only at hva;have hva':va.length<=100000:=by omega
   have hwl:=Iv va.length va 0;obtain ⟨wv,hwv⟩:=aby (dU va);have hwl2:wv.length<=30000:=by rw [<- hwv];unfold dU;omega
   have hty:=hva.1;obtain ⟨B2,hB2⟩:=aby ((if 0<k then acc2++[43] else acc2));have hB2l:B2.length<=i * 50000000+1+k * 40002+1:=by
    rw [<- hB2];split
    ·exact ab7 (Nat.le_of_eq (by simp)) (Nat.add_le_add_right hal2 1)
    ·exact ab7 hal2 (Nat.le_add_right _ _)
   have hnew:B2++ty++[61]++wv=B++Lib.join ((r.take (k+1)).map (avT false)) [43]:=by
    rw [htk2,aca,List.map_singleton,KR,<- hB2];have e0:avT false (ty,va)=ty++[61]++wv:=by simp [avT,hwv]
    by_cases h0:0<k
    ·rw [if_pos h0,if_neg,hacc2.out,e0]
     ·simp
     ·intro e;rcases List.take_eq_nil_iff.1 (aeE.1 e) with e|e
      ·omega
      ·rw [e] at hkl;simp at hkl
    ·have:k=0:=by omega
     subst this;have:=hacc2.out;simp only [ac4,ado] at this;rw [if_neg (by omega),this,e0];simp [Lib.join]
   replace hnew:=hid hnew;have hBn:(B2++ty++[61]++wv).length=B2.length+ty.length+1+wv.length:=by simp only [abW,abR,acD]
   have hBn2:(B2++ty++[61]++wv).length<=i * 50000000+1+(k+1) * 40002:=by rw [hBn];omega
   replace hB2:=hid hB2;clear hwl ha ham hva htk2;have hkb:k<1000:=by omega
   have b0:((acc2.length+1:Nat):Int)<=9223372036854775807:=by omega
   have b1:((B2.length+ty.length:Nat):Int)<=9223372036854775807:=by omega
   have b2:((B2.length+ty.length+1:Nat):Int)<=9223372036854775807:=by omega
   have b3:((B2.length+ty.length+1+wv.length:Nat):Int)<=9223372036854775807:=by omega
   simp only [Int.natCast_add,Int.cast_ofNat_Int] at b0 b1 b2 b3
   iterate 12 first
    | refine a8 ?_
    | (first|refine aU (by kernel_rfl) ?_|refine aB (by kernel_rfl) ?_|refine aE ?_|refine bI ?_|refine bf (fun _=>?_)|refine ay ?_|refine aW ?_)
      simp (config:={ maxSteps:=2000000 }) only [Kon,push_cast,reduceIte,Nat.reduceEqDiff,Nat.reduceAdd,Nat.reduceMul,Nat.reduceSub,Nat.reduceLT,Nat.reduceLeDiff,Int.reduceLT,Int.reduceLE,Int.reduceAdd,Int.reduceSub,Int.reduceNeg,Int.reduceToNat,Int.reduceEq,reduceCtorEq, *]
    | (first|refine aO (by kernel_rfl) ?_|refine aP ?_|refine aD ?_|refine aV ?_|refine bp (ax ?_))
      simp only [push_cast,reduceIte,Nat.reduceEqDiff,Nat.reduceAdd,Nat.reduceMul,Nat.reduceSub,Nat.reduceLT,Nat.reduceLeDiff,Int.reduceLT,Int.reduceLE,Int.reduceAdd,Int.reduceSub,Int.reduceNeg,Int.reduceToNat,Int.reduceEq,reduceCtorEq, *]
    | exact bg
    | first|apply bh|apply aR|apply bj|apply aS|apply bm|apply aT
    | refine aH ?_
    | refine aC ?_
    | first|refine aF rfl ?_|refine aG rfl ?_|refine an rfl ?_ ?_|refine aJ rfl (fun _=>?_) (fun _=>?_)|refine aI rfl (fun _=>?_) (fun _=>?_)
    | ((first|refine am (fun _=>?_) (fun _=>?_)|refine aw (fun _=>?_) (fun _=>?_))<;>try simp (config:={ maxSteps:=2000000 }) only [Kon,push_cast,reduceIte,Nat.reduceEqDiff,Nat.reduceAdd,Nat.reduceMul,Nat.reduceSub,Nat.reduceLT,Nat.reduceLeDiff,Int.reduceLT,Int.reduceLE,Int.reduceAdd,Int.reduceSub,Int.reduceNeg,Int.reduceToNat,Int.reduceEq,reduceCtorEq, *])
    | refine And.intro trivial ?_
    | refine And.intro (by omega) ?_
    | refine aM rfl (fun _=>?_) (fun _=>?_)
    | refine And.intro ?_ ?_
   refine KC (fun T2 L2=>T2=[(3,.str B2),(7,.ptr (L.length+Z.length) 0),(21,.int .i64 (k:Int)),(20,.int .i64 r.length),(19,ci r),(10,.int .i64 (i:Int)),(9,.int .i64 d.length),(8,.sl (d.map ci) d.length cap)]/\L2=L++(Z++[.cells [.str ty,.str va]])) ?_ ?_
   ·by_cases h0:0<k
    ·have k0:(0:Int)<(k:Int):=by omega
     have hB':=hB2.out;rw [if_pos h0] at hB';subst hB';clear h0;refine wk ?_;exact jl _ _ (CutL (b:=by simp)) ⟨rfl,rfl⟩
    ·have k0:¬ (0:Int)<(k:Int):=by omega
     have hB':=hB2.out;rw [if_neg h0] at hB';subst hB';clear h0;refine wk ?_;exact jl _ _ (CutL (b:=by simp)) ⟨rfl,rfl⟩
   rintro _ _ ⟨rfl,rfl⟩ -;have kk1:=@hid _ (fun L K=>jd hva' (L:=L) (K:=K));refine wk ?_;exact ai _ _ _ (by omega) (CutL (b:=by have:=hXZ.out;simp;omega)) ⟨k+1,B2++ty++[61]++wv,_,rfl,hkl,hBn2,by have:=hXZ.out;simp;omega,hnew,rfl,rfl⟩
  ·have hke:k=r.length:=by omega
   subst hke;have g3:¬ (r.length:Int)<(r.length:Int):=by omega
   have hfl:acc2.length<=(i+1) * 50000000:=by
    rw [adV];clear hal hBl hab;generalize i * 50000000=M at hal2 ⊢;omega
   have e:=hacc2.out;rw [abY,show Lib.join (r.map (avT false)) [43]=da false r by simp [da],hfin.out] at e;replace e:=hid e;refine wk ?_;exact ai _ _ _ (by omega) (CutL (b:=by simp)) ⟨i+1,acc2,_,rfl,hlt,hfl,e,rfl,rfl⟩
 ·have hke:i=d.length:=by omega
  subst hke;have g1:¬ (d.length:Int)<(d.length:Int):=by omega
  have e:=hacc.out;rw [abY] at e;have h':=h.out;simp only [dK] at h';rw [<- e] at h';replace h':=hid h';clear hacc e;refine wk ?_;exact ae rfl h'.out
def IC (r:Rdn):Nat:=(r.map fun a=>min a.2.length 5000).sum
def L9 (d:List Rdn):Nat:=(d.map IC).sum
theorem VV (n:Nat):∀ (s:List UInt8) (i:Nat),s.length<=(wrL n i s).length
 | [],_=>by simp
 | c::s,i=>by
   have h1:=VV n s (i+1);have h2:1<=(wrB i n c).length:=by
    unfold wrB;split
    ·simp
    ·split<;>simp
   simp only [wrL,abW,abR];omega
theorem P9 (sep:List UInt8):∀ xs:List (List UInt8),(xs.map List.length).sum<=(Lib.join xs sep).length
 | []=>by simp [Lib.join]
 | [x]=>by simp [Lib.join,List.intercalate]
 | x::y::l=>by
   have h1:=P9 sep (y::l);have e:Lib.join (x::y::l) sep=x++(sep++Lib.join (y::l) sep):=by simp [Lib.join,List.intercalate]
   rw [e];simp only [abS,acZ,abW] at h1 ⊢;omega
theorem YL (r:Rdn):IC r<=(da false r).length:=by
 have h1:IC r<=((r.map (avT false)).map List.length).sum:=by
  induction r with
  | nil=>simp [IC]
  | cons a r ih =>
    have h2:=VV a.2.length a.2 0;have h3:min a.2.length 5000<=(avT false a).length:=by
     simp only [avT,abU,if_false,abW,dU];omega
    simp only [IC,abS,acZ] at ih ⊢;omega
 have h2:=P9 [43] (r.map (avT false));simp only [da,abU,if_false];omega
theorem Tr (d:List Rdn):L9 d<=(dK false d).length:=by
 have h1:L9 d<=((d.map (da false)).map List.length).sum:=by
  induction d with
  | nil=>simp [L9]
  | cons a r ih =>
    have h2:=YL a;simp only [L9,abS,acZ] at ih ⊢;omega
 have h2:=P9 [44] (d.map (da false));simp only [dK];omega
theorem P4:∀ {l:List Nat} {x:Nat},x∈l->x<=l.sum
 | [],_,h=>by cases h
 | y::l,x,h=>by
   rw [acZ];rcases abJ.1 h with rfl|h
   ·omega
   ·have:=P4 h;omega
theorem QJ {d:List Rdn} (h:L9 d<=4096):∀ r∈d,∀ a∈r,a.2.length<=4096:=fun r hr a ha=>by
 have h1:IC r<=L9 d:=by
  unfold L9;exact P4 (List.mem_map_of_mem hr)
 have h2:min a.2.length 5000<=IC r:=by
  unfold IC;exact P4 (List.mem_map_of_mem (f:=fun a:Ava=>min a.2.length 5000) ha)
 omega
theorem Q7 {d:List Rdn} (h:∀ r∈d,∀ a∈r,a.2.length<=4096):Kb d=false:=by
 unfold Kb Ef;rw [adn];intro r hr;simp only [ac7,adn,decide_eq_true_eq];intro a ha;have:=h r hr a ha;omega
theorem YP {r:Rdn} {typ:List UInt8} {n:Nat} {cap:Option Nat} (hr:r.length=n) (hn:n<=8) (h1:∀ a∈r,a.1.length<=32) (h2:typ.length<=32) (h:K (.bool (gT r typ)) L) :
  abC 165 [.sl (aZ r) n cap,.str typ] L K:=by
 subst hr;exact Wp (by omega) (fun a ha=>by have:=h1 a ha;omega) (by omega) h
theorem UA {d:List Rdn} {cap:Option Nat} (hn:d.length<=1100000) (hr:∀ r∈d,r.length<=1100000/\∀ a∈r,(a.1.length:Int)<=140737488351232) (h:K (oC (prS d)) L):abC 167 [.sl (d.map ci) d.length cap] L K:=by
 obtain ⟨R,hR⟩:=aby (prS d);rw [hR] at h;replace h:=hid h;have hat:=hid (fun k=>@HV d k);replace hr:=hid hr;have hbad:gU 0 d≠0->R=([],gU 0 d):=fun e=>by rw [<- hR,prS,if_pos e]
 replace hbad:=hid hbad;replace hR:=hid hR;refine abB K9 ?_;refine ak (fun n T' L'=>∃ (i:Nat) (c:Int) (X:List Blk),n=d.length - i/\i<=d.length/\i<=32/\Hid (c=(L9 (d.take i):Nat)/\c<=40000 * i)/\Hid (gU i (d.drop i)=gU 0 d)/\T'=[(11,.int .i64 (i:Int)),(10,.int .i64 d.length),(9,.sl (d.map ci) d.length cap),(4,.int .i64 c),(0,.sl (d.map ci) d.length cap)]/\L'=L++X) (CutS (b:=by simp)) ⟨0,0,[],rfl,abL _,by omega,hid ⟨rfl,by omega⟩,hid rfl,rfl,by simp⟩ ?_;rintro _ _ _ ⟨i,c,X,rfl,hi,hi32,hc,he,rfl,rfl⟩;by_cases hlt:i<d.length
 ·have g1:(i:Int)<(d.length:Int):=by omega
  have g2:=abA i (by omega);have e2:=hat.out i hlt;have hrm:d.getD i []∈d:=by rw [ab5,abV hlt];exact acN _
  obtain ⟨hrl,hrt⟩:=hr.out (d.getD i []) hrm;obtain ⟨r,hri⟩:=aby (d.getD i []);have hdr:d.drop i=r::d.drop (i+1):=by rw [acp hlt,<- hri];simp [hlt]
  have hdt:d.take (i+1)=d.take i++[r]:=by rw [ab2 hlt,<- hri];simp [hlt]
  rw [hri] at e2 hrl hrt;have he2:=he.out;rw [hdr,gU] at he2;clear hdr hri hrm;replace hrt:=hid hrt;replace hdt:=hid hdt;by_cases h32:i=32
  ·rw [if_pos h32] at he2;have h':=h.out;rw [hbad.out (by rw [<- he2];decide),<- he2] at h';replace h':=hid h';have k1:(i:Int)=32:=by omega
   have g1':(32:Int)<(d.length:Int):=by omega
   clear h32 he2;refine wk ?_;exact ae rfl h'.out
  rw [if_neg h32] at he2;have k1:¬ (i:Int)=32:=by omega
  by_cases hr0:r=[]
  ·rw [if_pos hr0] at he2;subst hr0;have h':=h.out;rw [hbad.out (by rw [<- he2];decide),<- he2] at h';replace h':=hid h';clear h32 he2;refine wk ?_;exact ae rfl h'.out
  rw [if_neg hr0] at he2;have k2:¬ (r.length:Int)=0:=by have:=acQ.2 hr0;omega
  have herr:∀ e:Int,dy [] r=e->e≠0->K (.tup [.str [],.int .i64 e]) L:=fun e a1 a2=>by
   rw [if_pos (by rw [a1];exact a2),a1] at he2;have h':=h.out
   rwa [hbad.out (by rw [<- he2];exact a2),<- he2] at h'
  replace herr:=hid herr;replace he2:=hid he2;clear h32;refine wk ?_;refine ak (fun n T' L'=>∃ (k:Nat) (c':Int) (Y:List Blk),n=r.length - k/\k<=r.length/\k<=8/\Hid (c'=c+(IC (r.take k):Nat)/\0<=c'/\c'<=40000 * i+5000 * k)/\Hid (dy (r.take k) (r.drop k)=dy [] r/\∀ a∈r.take k,a.1.length<=32)/\T'=[(23,.int .i64 (k:Int)),(22,.int .i64 r.length),(21,ci r),(6,ci r),(11,.int .i64 (i:Int)),(10,.int .i64 d.length),(9,.sl (d.map ci) d.length cap),(4,.int .i64 c'),(0,.sl (d.map ci) d.length cap)]/\L'=L++(X++Y)) (CutS (b:=by simp)) ⟨0,c,[],rfl,abL _,by omega,hid ⟨by simp [IC],by have:=hc.out;omega,by have:=hc.out;omega⟩,hid ⟨rfl,by simp⟩,rfl,by simp⟩ ?_;rintro _ _ _ ⟨k,c',Y,rfl,hk,hk8,hc',hrow,rfl,rfl⟩;by_cases hkl:k<r.length
  ·have g3:(k:Int)<(r.length:Int):=by omega
   have g4:=abA k (by omega);have e3:=eM hkl;have e4:k * 2+2<=(aZ r).length:=by rw [dw];omega
   obtain ⟨⟨ty,va⟩,ha⟩:∃ a,r.getD k ([],[])=a:=⟨_,rfl⟩;have ham:(ty,va)∈r:=by rw [<- ha];simp [hkl]
   have hdk:r.drop k=(ty,va)::r.drop (k+1):=by rw [acp hkl,<- ha];simp [hkl]
   have htk:r.take (k+1)=r.take k++[(ty,va)]:=by rw [ab2 hkl,<- ha];simp [hkl]
   rw [ha] at e3;simp only [mY] at e3;have hty1:=hrt.out _ ham;simp only at hty1;obtain ⟨hr1,hr2⟩:=hrow.out;rw [hdk,dy] at hr1;have hlk:(r.take k).length=k:=by simp;omega
   rw [hlk] at hr1;clear hdk ha hrow ham;have e5:(aZ r).take (k * 2)=aZ (r.take k):=Li;have g5:(k:Int)<=(r.length:Int):=by omega
   replace hr1:=hid hr1;replace hr2:=hid hr2;replace htk:=hid htk;have e6:=hid hlk;clear hlk
   repeat' first
    | refine a8 ?_
    | (first|refine aU (by kernel_rfl) ?_|refine aB (by kernel_rfl) ?_|refine aE ?_|refine bI ?_|refine bf (fun _=>?_)|refine ay ?_|refine aW ?_)
      refine sm ?_
    | (first|refine aO (by kernel_rfl) ?_|refine aP ?_|refine aD ?_|refine aV ?_|refine bp (ax ?_))
      refine sl ?_
    | exact bg
    | first|apply bh|apply aR|apply bj|apply aS|apply bm|apply aT
    | refine aH ?_
    | refine aC ?_
    | first|refine aF rfl ?_|refine aG rfl ?_|refine an rfl ?_ ?_|refine aJ rfl (fun _=>?_) (fun _=>?_)|refine aI rfl (fun _=>?_) (fun _=>?_)
    | ((first|refine am (fun _=>?_) (fun _=>?_)|refine aw (fun _=>?_) (fun _=>?_))<;>try refine sm ?_)
    | refine And.intro trivial ?_
    | refine And.intro (by omega) ?_
    | refine aM rfl (fun _=>?_) (fun _=>?_)
    | refine And.intro ?_ ?_
   ·rename_i h8
    have h':=hid (herr.out 9 (by rw [<- hr1.out,if_pos (by omega)]) (by decide));exact ae rfl h'.out
   ·rename_i h8
    have hr3:=hr1.out;rw [if_neg (by omega)] at hr3;replace hr3:=hid hr3;refine QK hty1 ?_;cases hty:fc ty with
    | false =>
      have h':=hid (herr.out 20 (by rw [<- hr3.out,if_pos hty]) (by decide));clear hr3;refine sk ?_;refine wk ?_;exact ae rfl h'.out
    | true =>
      have hr4:=hr3.out;rw [if_neg (by rw [hty];simp)] at hr4;replace hr4:=hid hr4;have htl:=oB hty;clear hr3;refine sk ?_
      repeat' first
       | refine a8 ?_
       | (first|refine aU (by kernel_rfl) ?_|refine aB (by kernel_rfl) ?_|refine aE ?_|refine bI ?_|refine bf (fun _=>?_)|refine ay ?_|refine aW ?_)
         refine sm ?_
       | (first|refine aO (by kernel_rfl) ?_|refine aP ?_|refine aD ?_|refine aV ?_|refine bp (ax ?_))
         refine sl ?_
       | exact bg
       | first|apply bh|apply aR|apply bj|apply aS|apply bm|apply aT
       | refine aH ?_
       | refine aC ?_
       | first|refine aF rfl ?_|refine aG rfl ?_|refine an rfl ?_ ?_|refine aJ rfl (fun _=>?_) (fun _=>?_)|refine aI rfl (fun _=>?_) (fun _=>?_)
       | ((first|refine am (fun _=>?_) (fun _=>?_)|refine aw (fun _=>?_) (fun _=>?_))<;>try refine sm ?_)
       | refine And.intro trivial ?_
       | refine And.intro (by omega) ?_
       | refine aM rfl (fun _=>?_) (fun _=>?_)
       | refine And.intro ?_ ?_
      refine aN (YP e6.out (by omega) hr2.out htl ⟨rfl,rfl⟩) ?_;cases hha:gT (r.take k) ty with
      | true =>
        have h':=hid (herr.out 21 (by rw [<- hr4.out,if_pos hha]) (by decide));refine sk ?_;refine wk ?_;exact ae rfl h'.out
      | false =>
        have hr5:=hr4.out;rw [if_neg (by rw [hha];simp),<- htk.out] at hr5;replace hr5:=hid hr5;clear hr4;obtain ⟨z,hz⟩:∃ z:Int,(if (5000:Int)<(va.length:Int) then 5000 else (va.length:Int))=z:=⟨_,rfl⟩;have hz2:z=((min va.length 5000:Nat):Int):=by rw [<- hz];split<;>omega
        have hzw:IntKind.i64.wrap (c'+z)=c'+z:=by
         have:=hc'.out;exact ac (by omega) (by omega)
        replace hz2:=hid hz2;refine sk ?_;refine wk ?_;refine ai _ _ _ (by omega) (CutL (b:=by simp)) ⟨k+1,c'+z,Y++[.cells [.str ty,.str va]],rfl,hkl,by omega,hid ?_,hid ⟨hr5.out,fun a ha=>?_⟩,rfl,by simp⟩
        ·have:=hc'.out;have e:IC (r.take (k+1))=IC (r.take k)+min va.length 5000:=by rw [htk.out];simp [IC]
         have:=hz2.out;omega
        rw [htk.out] at ha;rcases abH.1 ha with h|h
        ·exact hr2.out a h
        ·rw [abZ.1 h];exact htl
  ·have hke:k=r.length:=by omega
   subst hke;have g3:¬ (r.length:Int)<(r.length:Int):=by omega
   have hz:=hrow.out.1;rw [acm,dy] at hz;have he3:=he2.out;rw [<- hz] at he3;simp only [ne_eq,not_true_eq_false,if_false] at he3;replace he3:=hid he3;have hcn:=hc'.out;rw [abY] at hcn;replace hcn:=hid hcn;clear hz;refine wk ?_;refine ai _ _ _ (by omega) (CutS (b:=by simp)) ⟨i+1,c',X++Y,rfl,hlt,by omega,hid ?_,hid he3.out,rfl,rfl⟩;have e:L9 (d.take (i+1))=L9 (d.take i)+IC r:=by rw [hdt.out];simp [L9]
   have:=hcn.out;have:=hc.out;omega
 ·have hke:i=d.length:=by omega
  subst hke;have g1:¬ (d.length:Int)<(d.length:Int):=by omega
  have hch:=he.out;rw [acm,gU] at hch;have hcc:=hc.out.1;rw [abY] at hcc;have hR':=hR.out;rw [prS,if_neg (by rw [<- hch];simp)] at hR';have hge:=Tr d;by_cases hbig:4096<L9 d
  ·have k1:(4096:Int)<c:=by omega
   have h':=h.out;rw [<- hR'] at h';have e:(if Kb d=true then (([]:List UInt8),(5:Int)) else if 4096<(dK false d).length then ([],5) else (dK false d,0))=([],5):=by
    split
    ·rfl
    ·rw [if_pos (by omega)]
   rw [e] at h';replace h':=hid h';clear hbig hge hcc e hR' hch;refine wk ?_;exact ae rfl h'.out
  ·have k1:¬ (4096:Int)<c:=by omega
   have hlo:=QJ (d:=d) (by omega);obtain ⟨hd32,hd8⟩:=ME d 0 hch.symm (by omega);rw [Q7 hlo,if_neg (by simp)] at hR';replace hlo:=hid hlo;replace hd8:=hid hd8;have hbn:=hid (show ∀ r∈d,r.length<=1000/\∀ a∈r,a.1.length<=10000/\a.2.length<=10000 from fun r hr=>⟨by have:=(hd8.out r hr).1;omega,fun a ha=>⟨by have:=(hd8.out r hr).2 a ha;omega,by have:=hlo.out r hr a ha;omega⟩⟩);by_cases hlg:4096<(dK false d).length
   ·have k2:(4096:Int)<((dK false d).length:Int):=by omega
    have h':=h.out;rw [<- hR',if_pos hlg] at h';replace h':=hid h';clear hbig hge hcc hR' hch hlg;have kk1:=@hid _ (fun L K=>PP (cap:=cap) (by omega) hbn.out (L:=L) (K:=K));refine wk ?_;exact ae rfl h'.out
   ·have k2:¬ (4096:Int)<((dK false d).length:Int):=by omega
    have h':=h.out;rw [<- hR',if_neg hlg] at h';replace h':=hid h';clear hbig hge hcc hR' hch hlg;have kk1:=@hid _ (fun L K=>PP (cap:=cap) (by omega) hbn.out (L:=L) (K:=K));refine wk ?_;exact ae rfl h'.out
def n8 (a:Ava):Ava:=(ab a.1,bE a.2)
abbrev rM (a:Ava):List UInt8:=avT false a
def sj (l:Rdn) (x:Ava):Nat->Nat
 | 0=>0
 | n+1=>if rM x<rM (l.getD n ([],[])) then sj l x n else n+1
def Ei (l:Rdn) (x:Ava):Rdn:=l.take (sj l x l.length)++[x]++l.drop (sj l x l.length)
def eB (r:Rdn):Rdn:=r.foldl (fun l a=>Ei l (n8 a)) []
def gD (d:List Rdn):List Rdn:=d.map eB
theorem PX (l:Rdn) (x:Ava):∀ n,sj l x n<=n
 | 0=>abF _
 | n+1=>by
   have:=PX l x n;unfold sj;split<;>omega
theorem Rj (l:Rdn) (x:Ava):(Ei l x).length=l.length+1:=by
 have:=PX l x l.length;simp [Ei];omega
theorem QS {r:Rdn} {k:Nat} (h:k<r.length):eB (r.take (k+1))=Ei (eB (r.take k)) (n8 (r.getD k ([],[]))):=by
 unfold eB;rw [ab2 h,adM];simp [h]
theorem Ny (r:Rdn):∀ l:Rdn,(r.foldl (fun l a=>Ei l (n8 a)) l).length=l.length+r.length:=by
 induction r with
 | nil=>simp
 | cons a r ih=>intro l;rw [acC,ih,Rj];simp;omega
theorem sn (r:Rdn):(eB r).length=r.length:=by simp [eB,Ny]
theorem Vz {r:Rdn} {k:Nat}:(aZ r).drop (k * 2)=aZ (r.drop k):=by
 induction r generalizing k with
 | nil=>simp [aZ]
 | cons a r ih =>
   cases k with
   | zero=>simp [aZ]
   | succ k =>
     have:=@ih k;simp only [aZ] at this;rw [show (k+1) * 2=k * 2+1+1 by omega];simp [aZ,mY,this]
theorem PC (r q:Rdn):aZ (r++q)=aZ r++aZ q:=by simp [aZ]
theorem Tw (l:Rdn) (x:Ava):∀ (n j:Nat),sj l x n<=j->j<n->rM x<rM (l.getD j ([],[]))
 | 0,_,_,h=>by omega
 | n+1,j,h1,h2=>by
   unfold sj at h1;split at h1
   ·rename_i hk
    rcases abX j n with e|e
    ·exact Tw l x n j h1 e
    ·have:j=n:=by omega
     subst this;exact hk
   ·omega
theorem Tx (l:Rdn) (x:Ava):∀ n,sj l x n=0\/¬ rM x<rM (l.getD (sj l x n - 1) ([],[]))
 | 0=>.inl rfl
 | n+1=>by
   unfold sj;split
   ·exact Tx l x n
   ·rename_i hk;exact .inr (by simpa using hk)
def PE (l:Rdn):Prop:=l.Pairwise fun a b=>rM a<=rM b
theorem SF {l:Rdn} {x:Ava} (hs:PE l):PE (Ei l x):=by
 have hge:=Tw l x l.length;have hat:=Tx l x l.length;have hle:=PX l x l.length;unfold Ei;obtain ⟨p,hp⟩:=aby (sj l x l.length);rw [hp] at hge hat hle ⊢;have hs2:PE (l.take p++l.drop p):=by rw [adA];exact hs
 obtain ⟨h1,h2,h3⟩:=List.pairwise_append.1 hs2;have ha:∀ a∈l.take p,rM a<=rM x:=fun a ha=>by
  rcases hat with e|e
  ·subst e;simp at ha
  ·have hp1:p - 1<l.length:=by
    rcases ac2 p with z|z
    ·subst z;simp at ha
    ·omega
   refine List.le_trans ?_ (acX.1 e);obtain ⟨i,hi,rfl⟩:=acV.1 ha;simp only [ad6] at hi;rw [List.getElem_take];have hg:l.getD (p - 1) ([],[])=l[p - 1]:=by simp [hp1]
   rw [hg];rcases abX i (p - 1) with q|q
   ·exact (aep.1 hs) i (p - 1) (by omega) hp1 q
   ·have:i=p - 1:=by omega
    subst this;exact acX.1 (acR _)
 have hb:∀ b∈l.drop p,rM x<=rM b:=fun b hb=>by
  obtain ⟨i,hi,rfl⟩:=acV.1 hb;simp only [acY] at hi;rw [List.getElem_drop];have:=hge (p+i) (by omega) (by omega);have hg:l.getD (p+i) ([],[])=l[p+i]:=by simp [show p+i<l.length by omega]
  rw [hg] at this;exact List.le_of_lt this
 unfold PE;rw [abT,List.pairwise_append];refine ⟨h1,?_,?_⟩
 ·simp only [aef,acA];exact ⟨hb,h2⟩
 ·intro a haa b hbb;simp only [aef,abJ] at hbb;rcases hbb with rfl|hbb
  ·exact ha a haa
  ·exact h3 a haa b hbb
theorem Ri (l:Rdn) (x:Ava):(Ei l x).Perm (x::l):=by
 unfold Ei;rw [abT];refine (List.perm_middle (l₁:=l.take _) (l₂:=l.drop _)).trans ?_;rw [adA]
theorem Kh:∀ (r l:Rdn),PE l->PE (r.foldl (fun l a=>Ei l (n8 a)) l)/\(r.foldl (fun l a=>Ei l (n8 a)) l).Perm (l++r.map n8)
 | [],l,h=>by simpa using h
 | a::r,l,h=>by
   obtain ⟨h1,h2⟩:=Kh r (Ei l (n8 a)) (SF h);refine ⟨h1,h2.trans ?_⟩;refine ((Ri l (n8 a)).append_right _).trans ?_;simp only [abS];exact (List.perm_middle (l₁:=l)).symm
theorem TU (a:Ava):avT true a=rM (n8 a):=by simp [avT,n8]
theorem Sh (r:Rdn):(eB r).map rM=dx (r.map (avT true)):=by
 obtain ⟨h1,h2⟩:=Kh r [] List.Pairwise.nil;refine aeC (le:=fun x y=>x<=y) (fun a b _ _=>aen) ?_ ?_ ?_
 ·rw [aem];exact h1
 ·have:=aeD (le:=fun x y:List UInt8=>decide (x<=y)) (fun a b c h1 h2=>by
   simp only [decide_eq_true_eq] at *;exact List.le_trans h1 h2) (fun a b=>by
   simp only [ace,decide_eq_true_eq];exact List.le_total a b) (r.map (avT true))
  exact this.imp fun h=>by simpa using h
 ·refine (h2.map rM).trans ?_;unfold dx;refine List.Perm.trans ?_ (adN _ _).symm;rw [aci,ab9];rw [show (rM ∘ n8)=avT true from funext fun a=>(TU a).symm]
theorem UL (r:Rdn):da false (eB r)=da true r:=by
 have:=Sh r;simp only [da,abU,if_false,if_true];rw [<- this]
theorem M4 (d:List Rdn):dK false (gD d)=dK true d:=by
 unfold dK gD;rw [ab9];rw [show (da false ∘ eB)=da true from funext UL]
theorem Y7 {p:Ava->Prop} {l:Rdn} {x:Ava} (h:∀ a∈l,p a) (hx:p x):∀ a∈Ei l x,p a:=fun a ha=>by
 rcases abJ.1 ((Ri l x).mem_iff.1 ha) with rfl|h1
 ·exact hx
 ·exact h a h1
theorem N7:∀ r:Rdn,(aZ r).all AV.one=true
 | []=>rfl
 | a::r=>by
   have:=N7 r;simp only [aZ] at this;simp [aZ,mY,AV.one,this]
theorem Ul {xs:List AV} {i:Nat} {a b:AV} (h:(xs.drop i).take 2=[a,b]):xs.getD i .undef=a/\xs.getD (i+1) .undef=b:=by
 have h0:=congrArg (·[0]?) h;have h1:=congrArg (·[1]?) h;simp [List.getElem?_take,acu] at h0 h1;simp [ab5,h0,h1]
theorem Wi {d:List Rdn} {cap:Option Nat} (hn:d.length<=1000) (hr:∀ r∈d,r.length<=1000/\∀ a∈r,a.1.length<=10000/\a.2.length<=10000) (h:K (.sl ((gD d).map ci) d.length none) L) :
  abC 169 [.sl (d.map ci) d.length cap] L K:=by
 replace h:=hid h;have hat:=hid (fun k=>@HV d k);replace hr:=hid hr;refine abB K8 ?_;refine cH (l:=[]) (n:=0) 3 1 rfl (acf 1).symm ?_;refine ak (fun n T' L'=>∃ (i:Nat) (out:List Rdn) (Z:List Blk),n=d.length - i/\i<=d.length/\Hid (out=(d.take i).map eB)/\L'[L.length]?=some (.spare i 1)/\T'=[(14,.int .i64 (i:Int)),(13,.int .i64 d.length),(12,.sl (d.map ci) d.length cap),(3,.gsl (out.map ci) i L.length 1)]/\L'=L++Z) (CutS (b:=by simp)) ⟨0,[],[.spare 0 1],rfl,abL _,hid rfl,by simp,rfl,rfl⟩ ?_;rintro _ _ _ ⟨i,out,X,rfl,hi,hout,ho,rfl,rfl⟩;by_cases hlt:i<d.length
 ·have g1:(i:Int)<(d.length:Int):=by omega
  have g2:=abA i (by omega);have e2:=hat.out i hlt;have hrm:d.getD i []∈d:=by rw [ab5,abV hlt];exact acN _
  have hrl:=hr.out _ hrm;obtain ⟨r,hri⟩:=aby (d.getD i []);have htk:d.take (i+1)=d.take i++[r]:=by rw [ab2 hlt,<- hri];simp [hlt]
  rw [hri] at e2 hrl;clear hri hrm;obtain ⟨hrl1,hrl2⟩:=hrl;replace hrl2:=hid hrl2;replace htk:=hid htk;refine wk ?_;refine ak (fun n T' L'=>∃ (k:Nat) (l:Rdn) (v:AV) (Z:List Blk),n=r.length - k/\k<=r.length/\Hid (l=eB (r.take k)/\aaL L.length l v L'/\∀ a∈l,a.1.length<=10000/\a.2.length<=10000)/\L'[L.length]?=some (.spare i 1)/\X.length<=Z.length/\T'=[(20,.int .i64 (k:Int)),(19,.int .i64 r.length),(18,ci r),(6,v),(14,.int .i64 (i:Int)),(13,.int .i64 d.length),(12,.sl (d.map ci) d.length cap),(3,.gsl (out.map ci) i L.length 1)]/\L'=L++Z) (CutS (b:=by have:=(abE.1 ho).1;simp at this ⊢)) ⟨0,[],_,X,rfl,abL _,hid ⟨rfl,.inl ⟨rfl,rfl,rfl⟩,by simp⟩,ho,abF _,rfl,rfl⟩ ?_;clear ho;rintro _ _ _ ⟨k,l,v,X1,rfl,hk,hI,ho,hXZ,rfl,rfl⟩;obtain ⟨hl,hv,hlen⟩:=hI.out;clear hI;have hB:L.length<(L++X1).length:=(abE.1 ho).1;refine Qy 6 2 L.length rfl hB hv fun p Y hBi hpi=>?_
  rw [abT] at hpi ⊢;have ho2:(L++(X1++Y))[L.length]?=some (.spare i 1):=by rw [<- abT,abQ hB];exact ho
  have hXZ2:X.length<=(X1++Y).length:=by simp;omega
  generalize X1++Y=Z at hpi ho2 hXZ2 ⊢;clear ho hB hv hXZ X1 Y;replace hXZ2:=hid hXZ2;have hll:l.length=k:=by rw [hl,sn];simp;omega
  rw [hll] at hpi ⊢;have hpl:=(abE.1 hpi).1;have hol:=(abE.1 ho2).1;rw [abW] at hpl hol;replace hlen:=hid hlen;replace hl:=hid hl;replace hpl:=hid hpl;replace hol:=hid hol;by_cases hkl:k<r.length
  ·have g3:(k:Int)<(r.length:Int):=by omega
   have g4:=abA k (by omega);have e3:=eM hkl;have e4:k * 2+2<=(aZ r).length:=by rw [dw];omega
   obtain ⟨⟨ty,va⟩,ha⟩:∃ a,r.getD k ([],[])=a:=⟨_,rfl⟩;have ham:(ty,va)∈r:=by rw [<- ha];simp [hkl]
   have hnew:=QS hkl;rw [ha] at e3 hnew;simp only [mY] at e3;have hva:=hrl2.out _ ham;simp only at hva;have hva2:(va.length:Int)<=100000:=by omega
   have hty2:(ty.length:Int)<=100000:=by omega
   obtain ⟨fx,hfx⟩:=aby (ab ty);obtain ⟨px,hpx⟩:=aby (bE va);have hfl:fx.length<=10000:=by rw [<- hfx];simp [ab];omega
   have hpxl:px.length<=10000:=by rw [<- hpx];have:=mg va;omega
   have hpav:n8 (ty,va)=(fx,px):=by simp [n8,hfx,hpx]
   rw [hpav,<- hl.out] at hnew;replace hnew:=hid hnew;clear ha ham hpav
   iterate 24 first
    | refine a8 ?_
    | (first|refine aU (by kernel_rfl) ?_|refine aB (by kernel_rfl) ?_|refine aE ?_|refine bI ?_|refine bf (fun _=>?_)|refine ay ?_|refine aW ?_|refine jp hty2 ?_|refine sd hva2 ?_|refine bo (jp hty2 ⟨rfl,rfl⟩) (jp hty2 ⟨rfl,rfl⟩) ?_|refine bo (sd hva2 ⟨rfl,rfl⟩) (sd hva2 ⟨rfl,rfl⟩) ?_|refine aN (jp hty2 ⟨rfl,rfl⟩) ?_|refine aN (sd hva2 ⟨rfl,rfl⟩) ?_)
      simp (config:={ maxSteps:=2000000 }) only [Kon,push_cast,reduceIte,Nat.reduceEqDiff,Nat.reduceAdd,Nat.reduceMul,Nat.reduceSub,Nat.reduceLT,Nat.reduceLeDiff,Int.reduceLT,Int.reduceLE,Int.reduceAdd,Int.reduceSub,Int.reduceNeg,Int.reduceToNat,Int.reduceEq,reduceCtorEq, *]
    | (first|refine aO (by kernel_rfl) ?_|refine aP ?_|refine aD ?_|refine aV ?_|refine bp (ax ?_))
      simp only [push_cast,reduceIte,Nat.reduceEqDiff,Nat.reduceAdd,Nat.reduceMul,Nat.reduceSub,Nat.reduceLT,Nat.reduceLeDiff,Int.reduceLT,Int.reduceLE,Int.reduceAdd,Int.reduceSub,Int.reduceNeg,Int.reduceToNat,Int.reduceEq,reduceCtorEq, *]
    | exact bg
    | first|apply bh|apply aR|apply bj|apply aS|apply bm|apply aT
    | refine aH ?_
    | refine aC ?_
    | first|refine aF rfl ?_|refine aG rfl ?_|refine an rfl ?_ ?_|refine aJ rfl (fun _=>?_) (fun _=>?_)|refine aI rfl (fun _=>?_) (fun _=>?_)
    | ((first|refine am (fun _=>?_) (fun _=>?_)|refine aw (fun _=>?_) (fun _=>?_))<;>try simp (config:={ maxSteps:=2000000 }) only [Kon,push_cast,reduceIte,Nat.reduceEqDiff,Nat.reduceAdd,Nat.reduceMul,Nat.reduceSub,Nat.reduceLT,Nat.reduceLeDiff,Int.reduceLT,Int.reduceLE,Int.reduceAdd,Int.reduceSub,Int.reduceNeg,Int.reduceToNat,Int.reduceEq,reduceCtorEq, *])
    | refine And.intro trivial ?_
    | refine And.intro (by omega) ?_
    | refine aM rfl (fun _=>?_) (fun _=>?_)
    | refine And.intro ?_ ?_
   have hnp:l.getD k ([],[])=([],[]):=by simp [hll]
   obtain ⟨wx,hwx⟩:=aby (dU px);have hkx:rM (fx,px)=fx++61::wx:=by simp [avT,hwx]
   have hwxl:wx.length<=30000:=by rw [<- hwx];have:=EL px;omega
   have hpx2:px.length<=100000:=by omega
   replace hkx:=hid hkx;clear hnp;refine KC (fun T2 L2=>∃ z:Nat,z<=k/\Hid (z=sj l (fx,px) k)/\T2=[(10,.int .i64 (z:Int)),(9,.ptr (L.length+(Z.length+1)) 0),(6,.gsl (aZ l) k p 2),(20,.int .i64 (k:Int)),(19,.int .i64 r.length),(18,ci r),(14,.int .i64 (i:Int)),(13,.int .i64 d.length),(12,.sl (d.map ci) d.length cap),(3,.gsl (out.map ci) i L.length 1)]/\L2=L++(Z++[.cells [.str ty,.str va],.cells [.str fx,.str px]])) ?_ ?_
   ·refine wk ?_;refine ak (fun n T' L'=>∃ q:Nat,q=n/\q<=k/\Hid (sj l (fx,px) q=sj l (fx,px) k)/\T'=[(10,.int .i64 (q:Int)),(9,.ptr (L.length+(Z.length+1)) 0),(6,.gsl (aZ l) k p 2),(20,.int .i64 (k:Int)),(19,.int .i64 r.length),(18,ci r),(14,.int .i64 (i:Int)),(13,.int .i64 d.length),(12,.sl (d.map ci) d.length cap),(3,.gsl (out.map ci) i L.length 1)]/\L'=L++(Z++[.cells [.str ty,.str va],.cells [.str fx,.str px]])) (CutS (b:=by simp)) ⟨k,rfl,abF _,hid rfl,rfl,rfl⟩ ?_;rintro _ _ _ ⟨q,rfl,hqk,hq,rfl,rfl⟩;rcases q with _|q
    ·have h0:=hid hq.out.symm;have k0:¬ (0:Int)<((0:Nat):Int):=by omega
     have kk1:=@hid _ (fun L K=>jd hpx2 (L:=L) (K:=K));refine wk ?_;exact jl _ _ (CutL (b:=by simp)) ⟨0,by omega,hid h0.out.symm,rfl,rfl⟩
    ·have k0:(0:Int)<((q+1:Nat):Int):=by omega
     have k1:IntKind.i64.wrap (((q+1:Nat):Int) - 1)=(q:Int):=by rw [ac (by omega) (by omega)];omega
     have k4:(q:Int)<(k:Int):=by omega
     have e5:=eM (r:=l) (k:=q) (by omega);have e6:q * 2+2<=(aZ l).length:=by rw [dw];omega
     obtain ⟨⟨t1,v1⟩,hav⟩:∃ a,l.getD q ([],[])=a:=⟨_,rfl⟩;rw [hav] at e5;simp only [mY] at e5;obtain ⟨e7,e8⟩:=Ul e5;obtain ⟨w1,hw1⟩:=aby (dU v1);have hv1:=hlen.out (t1,v1) (by rw [<- hav];simp [show q<l.length by omega]);simp only at hv1;have hv1':v1.length<=100000:=by omega
     have hw1l:w1.length<=30000:=by rw [<- hw1];have:=EL v1;omega
     have hk1:rM (l.getD q ([],[]))=t1++61::w1:=by rw [hav];simp [avT,hw1]
     have c1:((t1.length+1:Nat):Int)<=9223372036854775807:=by omega
     have c2:((t1.length+1+w1.length:Nat):Int)<=9223372036854775807:=by omega
     have c3:((fx.length+1:Nat):Int)<=9223372036854775807:=by omega
     have c4:((fx.length+1+wx.length:Nat):Int)<=9223372036854775807:=by omega
     simp only [Int.natCast_add,Int.cast_ofNat_Int] at c1 c2 c3 c4;replace hk1:=hid hk1;simp only [Int.natCast_add,Int.cast_ofNat_Int] at k0 k1;have hq':=hid hq.out;clear hq hav;by_cases hc:rM (fx,px)<rM (l.getD q ([],[]))
     ·have hb:(Op.bytesLess (t1++61::w1) (fx++61::wx) || decide (t1++61::w1=fx++61::wx))=false:=by
       rw [hkx.out,hk1.out] at hc;rw [bytesLess_eq];simp only [ad1,decide_eq_false_iff_not];exact ⟨fun e=>acR _ (adD e hc),fun e=>by rw [e] at hc;exact acR _ hc⟩
      have hq2:sj l (fx,px) q=sj l (fx,px) k:=by rw [<- hq'.out,sj,if_pos hc]
      replace hq2:=hid hq2;clear hc;have kk1:=@hid _ (fun L K=>jd hpx2 (L:=L) (K:=K));have kk2:=@hid _ (fun L K=>jd hv1' (L:=L) (K:=K));refine wk ?_;exact ai _ _ _ (by omega) (CutL (b:=by simp)) ⟨q,rfl,by omega,hq2,rfl,rfl⟩
     ·have hb:(Op.bytesLess (t1++61::w1) (fx++61::wx) || decide (t1++61::w1=fx++61::wx))=true:=by
       rw [hkx.out,hk1.out] at hc;rw [bytesLess_eq];simp only [ace,decide_eq_true_eq];have:=acX.1 hc;rcases adO.1 this with e|e
       ·exact .inl e
       ·exact .inr e
      have hq2:q+1=sj l (fx,px) k:=by rw [<- hq'.out,sj,if_neg hc]
      replace hq2:=hid hq2;clear hc;have kk1:=@hid _ (fun L K=>jd hpx2 (L:=L) (K:=K));have kk2:=@hid _ (fun L K=>jd hv1' (L:=L) (K:=K));refine wk ?_;exact jl _ _ (CutL (b:=by simp)) ⟨q+1,by omega,hq2,rfl,rfl⟩
   rintro _ _ ⟨z,hzk,hz,rfl,rfl⟩ -;have z0:(0:Int)<=(z:Int):=by omega
   have z1:(z:Int)<=(k:Int):=by omega
   have s1:(aZ l).take (z * 2)=aZ (l.take z):=Li;have s2:((aZ l).drop (z * 2)).take ((k - z) * 2)=aZ (l.drop z):=by
    rw [Vz,acW];rw [dw,acY,hll];omega
   have s3:AV.frzL (aZ (l.take z))=aZ (l.take z):=fH _;have s4:AV.frzL (aZ (l.drop z))=aZ (l.drop z):=fH _;have s5:(aZ (l.take z)).length=z * 2:=by rw [dw,ad6];omega
   have s6:(aZ (l.drop z)).length=(k - z) * 2:=by rw [dw,acY,hll]
   have s7:z+1+(k - z)=k+1:=by omega
   have s8:=N7 (l.take z);have s9:=N7 (l.drop z);have q1:z * 32<=140737488355328:=by omega
   have q2:z<=140737488355328:=by omega
   have q3:(z+1) * 32<=140737488355328:=by omega
   have q4:z+1<=140737488355328:=by omega
   have q5:(k+1) * 32<=140737488355328:=by omega
   have q6:k+1<=140737488355328:=by omega
   iterate 3 first
    | refine a8 ?_
    | (first|refine aU (by kernel_rfl) ?_|refine aB (by kernel_rfl) ?_|refine aE ?_|refine bI ?_|refine bf (fun _=>?_)|refine ay ?_|refine aW ?_)
      simp (config:={ maxSteps:=2000000 }) only [Kon,push_cast,reduceIte,Nat.reduceEqDiff,Nat.reduceAdd,Nat.reduceMul,Nat.reduceSub,Nat.reduceLT,Nat.reduceLeDiff,Int.reduceLT,Int.reduceLE,Int.reduceAdd,Int.reduceSub,Int.reduceNeg,Int.reduceToNat,Int.reduceEq,reduceCtorEq, *]
    | (first|refine aO (by kernel_rfl) ?_|refine aP ?_|refine aD ?_|refine aV ?_|refine bp (ax ?_))
      simp only [push_cast,reduceIte,Nat.reduceEqDiff,Nat.reduceAdd,Nat.reduceMul,Nat.reduceSub,Nat.reduceLT,Nat.reduceLeDiff,Int.reduceLT,Int.reduceLE,Int.reduceAdd,Int.reduceSub,Int.reduceNeg,Int.reduceToNat,Int.reduceEq,reduceCtorEq, *]
    | exact bg
    | first|apply bh|apply aR|apply bj|apply aS|apply bm|apply aT
    | refine aH ?_
    | refine aC ?_
    | first|refine aF rfl ?_|refine aG rfl ?_|refine an rfl ?_ ?_|refine aJ rfl (fun _=>?_) (fun _=>?_)|refine aI rfl (fun _=>?_) (fun _=>?_)
    | ((first|refine am (fun _=>?_) (fun _=>?_)|refine aw (fun _=>?_) (fun _=>?_))<;>try simp (config:={ maxSteps:=2000000 }) only [Kon,push_cast,reduceIte,Nat.reduceEqDiff,Nat.reduceAdd,Nat.reduceMul,Nat.reduceSub,Nat.reduceLT,Nat.reduceLeDiff,Int.reduceLT,Int.reduceLE,Int.reduceAdd,Int.reduceSub,Int.reduceNeg,Int.reduceToNat,Int.reduceEq,reduceCtorEq, *])
    | refine And.intro trivial ?_
    | refine And.intro (by omega) ?_
    | refine aM rfl (fun _=>?_) (fun _=>?_)
    | refine And.intro ?_ ?_
   refine cH (l:=[]) (n:=0) 11 2 rfl (acf 2).symm ?_;refine wk ?_;have hcell:aZ (l.take z)++AV.str fx::AV.str px::aZ (l.drop z)=aZ (Ei l (fx,px)):=by
    rw [Ei,hll,<- hz.out,PC,PC];simp [aZ,mY]
   have hlen2:(Ei l (fx,px)).length=k+1:=by rw [Rj,hll]
   rw [hcell];refine ai _ _ _ (by omega) (CutL (b:=?_)) ⟨k+1,Ei l (fx,px),_,_,rfl,hkl,hid ⟨hnew.out.symm,.inr ⟨L.length+(Z.length+2),by omega,by rw [hlen2],?_⟩,Y7 hlen.out ⟨hfl,hpxl⟩⟩,?_,?_,rfl,rfl⟩
   ·have:=hXZ2.out;simp;omega
   ·rw [l8,l8,hlen2];rfl
   ·rw [<- abT,abQ (abE.1 ho2).1];exact ho2
   ·have:=hXZ2.out;simp;omega
  ·have hke:k=r.length:=by omega
   subst hke;have g3:¬ (r.length:Int)<(r.length:Int):=by omega
   have q3:(i+1) * 24<=140737488355328:=by omega
   have q4:i+1<=140737488355328:=by omega
   have e5:AV.frzL (aZ l)=aZ l:=fH _;have e6:out.map ci++[AV.sl (aZ l) r.length none]=(out++[l]).map ci:=by
    rw [aca];simp [hll]
   have e7:out++[l]=(d.take (i+1)).map eB:=by
    rw [htk.out,aca,<- hout.out,hl.out,abY];rfl
   have s4:∀ (W:List Blk) A,(L++W).set L.length A=L++W.set 0 A:=fun W A=>by rw [acE _ _ (abF _),ac5]
   have f1:(L++Z.set 0 (.spare (i+1) 1))[L.length]?=some (.spare (i+1) 1):=by
    rw [<- s4,ab3,if_pos rfl,if_pos (abE.1 ho2).1]
   replace e7:=hid e7;replace f1:=hid f1;replace e6:=hid e6;refine wk ?_;rw [e6.out];refine ai _ _ _ (by omega) (CutL (b:=?_)) ⟨i+1,out++[l],_,rfl,hlt,e7,f1.out,rfl,rfl⟩;have:=hol.out;simp;omega
 ·have hke:i=d.length:=by omega
  subst hke;have g1:¬ (d.length:Int)<(d.length:Int):=by omega
  have e:=hout.out;rw [abY] at e;have h':=h.out;rw [show (gD d)=out from e.symm] at h';replace h':=hid h';clear hout e;refine wk ?_;refine bv (ae ?_ ?_)
  ·simp only [AV.frz,AV.frzL,oD,AV.refs,AV.refsL,EU,adv]
  ·simp only [AV.frz,AV.frzL,oD];exact h'.out
theorem Sj (d:List Rdn):(gD d).length=d.length:=by simp [gD]
theorem Si {r:Rdn} (h:∀ a∈r,a.1.length<=10000/\a.2.length<=10000):∀ a∈eB r,a.1.length<=10000/\a.2.length<=10000:=fun a ha=>by
 have hp:=(Kh r [] List.Pairwise.nil).2;have hm:=hp.mem_iff.1 ha;rw [aci] at hm;obtain ⟨b,hb,rfl⟩:=abI.1 hm;obtain ⟨h1,h2⟩:=h b hb;have h3:=mg b.2;simp only [n8,ab,aco];omega
theorem Wk {d:List Rdn} {cap:Option Nat} (hn:d.length<=1100000) (hr:∀ r∈d,r.length<=1100000/\∀ a∈r,(a.1.length:Int)<=140737488351232) (h:K (oC (Nc d)) L) :
  abC 132 [.sl (d.map ci) d.length cap] L K:=by
 unfold Nc oC at h;refine abB Mm ?_;refine UA hn hr ?_;unfold oC;obtain ⟨⟨ps,pe⟩,hp⟩:∃ p,prS d=p:=⟨_,rfl⟩;rw [hp] at h ⊢;simp only at h ⊢;by_cases h0:pe=0
 ·subst h0;obtain ⟨q1,q2⟩:=WA (by rw [hp]);rw [if_neg (by simp)] at h;have hb:∀ r∈d,r.length<=1000/\∀ a∈r,a.1.length<=10000/\a.2.length<=10000:=fun r hr=>⟨by have:=(q2 r hr).1;omega,fun a ha=>⟨by have:=((q2 r hr).2 a ha).1;omega,by have:=((q2 r hr).2 a ha).2;omega⟩⟩
  have hb2:∀ r∈gD d,r.length<=1000/\∀ a∈r,a.1.length<=10000/\a.2.length<=10000:=fun r hr=>by
   obtain ⟨r0,hr0,rfl⟩:=abI.1 hr;exact ⟨by rw [sn];exact (hb r0 hr0).1,Si (hb r0 hr0).2⟩
  have hpl:=hid (Sj d);rw [<- M4] at h;replace h:=hid h;replace hb:=hid hb;replace hb2:=hid hb2;clear hp hr q2;refine sk ?_;have kk1:=@hid _ (fun L K=>Wi (cap:=cap) (by omega) hb.out (L:=L) (K:=K));refine wk ?_;rw [<- hpl.out];refine PP (by rw [hpl.out];omega) hb2.out ?_;refine sk ?_;refine wk ?_;exact aa h.out
 ·rw [if_pos h0] at h;replace h:=hid h;clear hp hr;refine sk ?_;refine wk ?_;exact aa h.out
theorem YM {d:List Rdn} {cap:Option Nat} (hn:d.length<=1000000) (hr:∀ r∈d,r.length<=1000000/\∀ a∈r,(a.1.length:Int)<=100000) (h:K (oC (Nc d)) L) :
 abC 132 [.sl (d.map ci) d.length cap] L K:=Wk (by omega) (fun r hm=>⟨by have:=(hr r hm).1;omega,fun a ha=>by have:=(hr r hm).2 a ha;omega⟩) h
theorem M9:∀ (f:Nat) (out:List Rdn) (now:Rdn) (s:List UInt8),(∀ a∈now,a.1.length<=32)->(∀ r∈out,∀ a∈r,a.1.length<=32)->∀ r∈(mX f out now s).1,∀ a∈r,a.1.length<=32
 | 0,_,_,_,_,_=>by simp [mX]
 | f+1,out,now,s,h1,h2=>by
   rw [mX];split
   ·simp
   split
   ·simp
   split
   ·simp
   rename_i hty
   have hty':=oB (by simpa using hty);have hrow:∀ v,∀ a∈now++[(_,v)],a.1.length<=32:=fun v a ha=>by
    rcases abH.1 ha with h|h
    ·exact h1 a h
    ·rw [abZ.1 h];exact hty'
   have hout:∀ v,∀ r∈out++[now++[(_,v)]],∀ a∈r,a.1.length<=32:=fun v r hr=>by
    rcases abH.1 hr with h|h
    ·exact h2 r h
    ·rw [abZ.1 h];exact hrow v
   split
   ·simp
   split
   ·simp
   split
   ·simp
   split
   ·exact hout _
   split
   ·exact M9 f _ _ _ (by simp) (hout _)
   ·exact M9 f _ _ _ (hrow _) h2
theorem WI (s:List UInt8):∀ r∈(rC s).1,∀ a∈r,a.1.length<=32:=by
 unfold rC;split
 ·simp
 split
 ·simp
 ·exact M9 _ _ _ _ (by simp) (by simp)
theorem Wn {s:List UInt8} (h:K (oC (Eh s)) L):abC 92 [.str s] L K:=by
 unfold Eh at h;refine abB NZ ?_;refine Wj ?_;obtain ⟨q1,q2⟩:=TA s;have q3:=WI s;obtain ⟨⟨pd,pe⟩,hp⟩:∃ p,rC s=p:=⟨_,rfl⟩;rw [hp] at h q1 q2 q3 ⊢;simp only [Sm] at h q1 q2 q3 ⊢;clear hp;by_cases h0:pe=0
 ·subst h0;rw [if_neg (by simp)] at h;replace h:=hid h;replace q2:=hid q2;replace q3:=hid q3;refine sk ?_;refine wk ?_;refine YM (by omega) (fun r hr=>⟨by have:=q2.out r hr;omega,fun a ha=>by have:=q3.out r hr a ha;omega⟩) ?_;have h':=h.out;unfold oC at h' ⊢;replace h':=hid h';refine sk ?_;refine wk ?_;exact aa h'.out
 ·rw [if_pos h0] at h;unfold oC at h;replace h:=hid h;clear q1 q2 q3;refine sk ?_;refine wk ?_;exact aa h.out
end Go.Proofs.YtcmfcpjnhephaaaGreatDoor.Av
