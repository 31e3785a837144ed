/- Joined texts of the walk, made small by a program. -/
import Derived.Test.YtigifoeopopnbaaGreatDoorQk10
import Derived.Test.YtigifoeopopnbaaGreatDoorQk15
import Derived.Test.YtigifoeopopnbaaGreatDoorQk6
import Derived.Test.YtigifoeopopnbaaGreatDoorQk14
import Derived.Sort.Walk0
set_option linter.unusedSimpArgs false
set_option linter.unusedVariables false
namespace Go.Proofs.YtigifoeopopnbaaGreatDoor.Av
open Go
variable {L:List Blk} {K:aef}
set_option maxHeartbeats 8000000
set_option maxRecDepth 100000
theorem Ok (sep x:List UInt8):∀ xs:List (List UInt8),Lib.join (xs++[x]) sep=if xs=[] then x else Lib.join xs sep++sep++x
 | []=>by simp [Lib.join,List.intercalate]
 | [y]=>by simp [Lib.join,List.intercalate]
 | y::z::l=>by
   have ih:=Ok sep x (z::l);rw [if_neg (by simp)] at ih ⊢;have e1:Lib.join (y::z::l++[x]) sep=y++(sep++Lib.join (z::l++[x]) sep):=by simp [Lib.join,List.intercalate]
   have e2:Lib.join (y::z::l) sep=y++(sep++Lib.join (z::l) sep):=by simp [Lib.join,List.intercalate]
   rw [e1,ih,e2];simp
theorem Te {d:List Rdn} {cap:Option Nat} (hn:d.length<=1000) (hr:∀ r∈d,r.length<=1000/\∀ a∈r,a.1.length<=10000/\a.2.length<=10000) (h:K (.str (jH false d)) L) :
  aee 112 [.sl (d.map cm) d.length cap] L K:=by
 replace h:=hid h;have hat:=hid (fun k=>@K9 d k);replace hr:=hid hr;refine aed PO ?_;refine ai (fun n T' L'=>∃ (i:Nat) (acc:List UInt8) (Z:List Blk),n=d.length - i/\i<=d.length/\acc.length<=i * 50000000/\Hid (acc=Lib.join ((d.take i).map (gI false)) [44])/\T'=[(10,.int .i64 (i:Int)),(9,.int .i64 d.length),(8,.sl (d.map cm) d.length cap),(3,.str acc)]/\L'=L++Z) (CutS (b:=by simp)) ⟨0,[],[],rfl,aej _,by simp,hid (by simp [Lib.join]),rfl,by simp⟩ ?_;rintro _ _ _ ⟨i,acc,X,rfl,hi,hal,hacc,rfl,rfl⟩;by_cases hlt:i<d.length
 ·have g1:(i:Int)<(d.length:Int):=by omega
  have g2:=aec i (by omega);have e2:=hat.out i hlt;have hrm:d.getD i []∈d:=by rw [aew,aev hlt];exact afi _
  have hrl:=hr.out _ hrm;obtain ⟨r,hri⟩:=aea (d.getD i []);have htk:d.take (i+1)=d.take i++[r]:=by rw [aeL hlt,<- hri];simp [hlt]
  rw [hri] at e2 hrl;clear hri hrm;obtain ⟨hrl1,hrl2⟩:=hrl;replace hrl2:=hid hrl2;obtain ⟨B,hB⟩:=aea ((if 0<i then acc++[44] else acc));have hBl:B.length<=i * 50000000+1:=by
   rw [<- hB];split
   ·exact aeM (Nat.le_of_eq (by simp)) (Nat.add_le_add_right hal 1)
   ·exact aeM hal (Nat.le_add_right _ _)
  have hfin:B++gI false r=Lib.join ((d.take (i+1)).map (gI false)) [44]:=by
   rw [htk,ae8,List.map_singleton,Ok,<- hacc.out,<- hB];by_cases h0:0<i
   ·rw [if_pos h0,if_neg];intro e;rcases List.take_eq_nil_iff.1 (ag9.1 e) with e|e
    ·omega
    ·rw [e] at hlt;simp at hlt
   ·have:i=0:=by omega
    subst this;simp at hal;simp [hal]
  replace hfin:=hid hfin;replace hB:=hid hB;replace htk:=hid htk;have hb0:(i:Int)<=1000:=by omega
  have hab:((acc.length+1:Nat):Int)<=9223372036854775807:=by omega
  iterate 12 first
   | refine aY ?_
   | (first|refine aO (by kernel_rfl) ?_|refine aA (by kernel_rfl) ?_|refine aB ?_|refine bw ?_|refine a6 (fun _=>?_)|refine ax ?_|refine aR ?_)
     simp (config:={ maxSteps:=2000000 }) only [Kon,push_cast,reduceIte,Nat.reduceEqDiff,Nat.reduceAdd,Nat.reduceMul,Nat.reduceSub,Nat.reduceLT,Nat.reduceLeDiff,Int.reduceLT,Int.reduceLE,Int.reduceAdd,Int.reduceSub,Int.reduceNeg,Int.reduceToNat,Int.reduceEq,reduceCtorEq, *]
   | (first|refine aK (by kernel_rfl) ?_|refine aP ?_|refine aQ ?_|refine bd (aw ?_))
     simp only [push_cast,reduceIte,Nat.reduceEqDiff,Nat.reduceAdd,Nat.reduceMul,Nat.reduceSub,Nat.reduceLT,Nat.reduceLeDiff,Int.reduceLT,Int.reduceLE,Int.reduceAdd,Int.reduceSub,Int.reduceNeg,Int.reduceToNat,Int.reduceEq,reduceCtorEq, *]
   | exact a7
   | first|apply a8|apply aL|apply ba|apply aM|apply bc|apply aN
   | refine aE ?_
   | first|refine aC rfl ?_|refine aD rfl ?_|refine ap rfl ?_ ?_|refine aG rfl (fun _=>?_) (fun _=>?_)|refine aF rfl (fun _=>?_) (fun _=>?_)
   | ((first|refine ao (fun _=>?_) (fun _=>?_)|refine au (fun _=>?_) (fun _=>?_))<;>try simp (config:={ maxSteps:=2000000 }) only [Kon,push_cast,reduceIte,Nat.reduceEqDiff,Nat.reduceAdd,Nat.reduceMul,Nat.reduceSub,Nat.reduceLT,Nat.reduceLeDiff,Int.reduceLT,Int.reduceLE,Int.reduceAdd,Int.reduceSub,Int.reduceNeg,Int.reduceToNat,Int.reduceEq,reduceCtorEq, *])
   | refine And.intro trivial ?_
   | refine And.intro (by omega) ?_
   | refine aI rfl (fun _=>?_) (fun _=>?_)
   | refine And.intro ?_ ?_
  refine uW (fun T2 L2=>T2=[(3,.str B),(5,cm r),(10,.int .i64 (i:Int)),(9,.int .i64 d.length),(8,.sl (d.map cm) d.length cap)]/\L2=L++X) ?_ ?_
  ·by_cases h0:0<i
   ·have k0:(0:Int)<(i:Int):=by omega
    have hB':=hB.out;rw [if_pos h0] at hB';subst hB';clear h0;refine wk ?_;exact gT _ _ (CutL (b:=by simp)) ⟨rfl,rfl⟩
   ·have k0:¬ (0:Int)<(i:Int):=by omega
    have hB':=hB.out;rw [if_neg h0] at hB';subst hB';clear h0;refine wk ?_;exact gT _ _ (CutL (b:=by simp)) ⟨rfl,rfl⟩
  rintro _ _ ⟨rfl,rfl⟩ -;refine wk ?_;refine ai (fun n T' L'=>∃ (k:Nat) (acc2:List UInt8) (Z:List Blk),n=r.length - k/\k<=r.length/\acc2.length<=i * 50000000+1+k * 40002/\X.length<=Z.length/\Hid (acc2=B++Lib.join ((r.take k).map (avT false)) [43])/\T'=[(21,.int .i64 (k:Int)),(20,.int .i64 r.length),(19,cm r),(10,.int .i64 (i:Int)),(9,.int .i64 d.length),(8,.sl (d.map cm) d.length cap),(3,.str acc2)]/\L'=L++Z) (CutS (b:=by simp)) ⟨0,B,X,rfl,aej _,by omega,aeg _,hid (by simp [Lib.join]),rfl,rfl⟩ ?_;rintro _ _ _ ⟨k,acc2,Z,rfl,hk,hal2,hXZ,hacc2,rfl,rfl⟩;replace hXZ:=hid hXZ;by_cases hkl:k<r.length
  ·have g3:(k:Int)<(r.length:Int):=by omega
   have g4:=aec k (by omega);have e3:=dc hkl;have e4:k * 2+2<=(aH r).length:=by rw [bW];omega
   obtain ⟨⟨ty,va⟩,ha⟩:∃ a,r.getD k ([],[])=a:=⟨_,rfl⟩;have ham:(ty,va)∈r:=by rw [<- ha];simp [hkl]
   have htk2:r.take (k+1)=r.take k++[(ty,va)]:=by rw [aeL hkl,<- ha];simp [hkl]
   rw [ha] at e3;simp only [gf] at e3;have hva:=hrl2.out _ ham;simp only at hva;have hva':va.length<=100000:=by omega
   have hwl:=LM va.length va 0;obtain ⟨wv,hwv⟩:=aea (iL va);have hwl2:wv.length<=30000:=by rw [<- hwv];unfold iL;omega
   have hty:=hva.1;obtain ⟨B2,hB2⟩:=aea ((if 0<k then acc2++[43] else acc2));have hB2l:B2.length<=i * 50000000+1+k * 40002+1:=by
    rw [<- hB2];split
    ·exact aeM (Nat.le_of_eq (by simp)) (Nat.add_le_add_right hal2 1)
    ·exact aeM hal2 (Nat.le_add_right _ _)
   have hnew:B2++ty++[61]++wv=B++Lib.join ((r.take (k+1)).map (avT false)) [43]:=by
    rw [htk2,ae8,List.map_singleton,Ok,<- hB2];have e0:avT false (ty,va)=ty++[61]++wv:=by simp [avT,hwv]
    by_cases h0:0<k
    ·rw [if_pos h0,if_neg,hacc2.out,e0]
     ·simp
     ·intro e;rcases List.take_eq_nil_iff.1 (ag9.1 e) with e|e
      ·omega
      ·rw [e] at hkl;simp at hkl
    ·have:k=0:=by omega
     subst this;have:=hacc2.out;simp only [afI,afN] at this;rw [if_neg (by omega),this,e0];simp [Lib.join]
   replace hnew:=hid hnew;have hBn:(B2++ty++[61]++wv).length=B2.length+ty.length+1+wv.length:=by simp only [aeF,aet,afk]
   have hBn2:(B2++ty++[61]++wv).length<=i * 50000000+1+(k+1) * 40002:=by rw [hBn];omega
   replace hB2:=hid hB2;clear hwl ha ham hva htk2;have hkb:k<1000:=by omega
   have b0:((acc2.length+1:Nat):Int)<=9223372036854775807:=by omega
   have b1:((B2.length+ty.length:Nat):Int)<=9223372036854775807:=by omega
   have b2:((B2.length+ty.length+1:Nat):Int)<=9223372036854775807:=by omega
   have b3:((B2.length+ty.length+1+wv.length:Nat):Int)<=9223372036854775807:=by omega
   simp only [Int.natCast_add,Int.cast_ofNat_Int] at b0 b1 b2 b3
   iterate 12 first
    | refine aY ?_
    | (first|refine aO (by kernel_rfl) ?_|refine aA (by kernel_rfl) ?_|refine aB ?_|refine bw ?_|refine a6 (fun _=>?_)|refine ax ?_|refine aR ?_)
      simp (config:={ maxSteps:=2000000 }) only [Kon,push_cast,reduceIte,Nat.reduceEqDiff,Nat.reduceAdd,Nat.reduceMul,Nat.reduceSub,Nat.reduceLT,Nat.reduceLeDiff,Int.reduceLT,Int.reduceLE,Int.reduceAdd,Int.reduceSub,Int.reduceNeg,Int.reduceToNat,Int.reduceEq,reduceCtorEq, *]
    | (first|refine aK (by kernel_rfl) ?_|refine aP ?_|refine aQ ?_|refine bd (aw ?_))
      simp only [push_cast,reduceIte,Nat.reduceEqDiff,Nat.reduceAdd,Nat.reduceMul,Nat.reduceSub,Nat.reduceLT,Nat.reduceLeDiff,Int.reduceLT,Int.reduceLE,Int.reduceAdd,Int.reduceSub,Int.reduceNeg,Int.reduceToNat,Int.reduceEq,reduceCtorEq, *]
    | exact a7
    | first|apply a8|apply aL|apply ba|apply aM|apply bc|apply aN
    | refine aE ?_
    | first|refine aC rfl ?_|refine aD rfl ?_|refine ap rfl ?_ ?_|refine aG rfl (fun _=>?_) (fun _=>?_)|refine aF rfl (fun _=>?_) (fun _=>?_)
    | ((first|refine ao (fun _=>?_) (fun _=>?_)|refine au (fun _=>?_) (fun _=>?_))<;>try simp (config:={ maxSteps:=2000000 }) only [Kon,push_cast,reduceIte,Nat.reduceEqDiff,Nat.reduceAdd,Nat.reduceMul,Nat.reduceSub,Nat.reduceLT,Nat.reduceLeDiff,Int.reduceLT,Int.reduceLE,Int.reduceAdd,Int.reduceSub,Int.reduceNeg,Int.reduceToNat,Int.reduceEq,reduceCtorEq, *])
    | refine And.intro trivial ?_
    | refine And.intro (by omega) ?_
    | refine aI rfl (fun _=>?_) (fun _=>?_)
    | refine And.intro ?_ ?_
   refine uW (fun T2 L2=>T2=[(3,.str B2),(7,.ptr (L.length+Z.length) 0),(21,.int .i64 (k:Int)),(20,.int .i64 r.length),(19,cm r),(10,.int .i64 (i:Int)),(9,.int .i64 d.length),(8,.sl (d.map cm) d.length cap)]/\L2=L++(Z++[.cells [.str ty,.str va]])) ?_ ?_
   ·by_cases h0:0<k
    ·have k0:(0:Int)<(k:Int):=by omega
     have hB':=hB2.out;rw [if_pos h0] at hB';subst hB';clear h0;refine wk ?_;exact gT _ _ (CutL (b:=by simp)) ⟨rfl,rfl⟩
    ·have k0:¬ (0:Int)<(k:Int):=by omega
     have hB':=hB2.out;rw [if_neg h0] at hB';subst hB';clear h0;refine wk ?_;exact gT _ _ (CutL (b:=by simp)) ⟨rfl,rfl⟩
   rintro _ _ ⟨rfl,rfl⟩ -;have kk1:=@hid _ (fun L K=>jo hva' (L:=L) (K:=K));refine wk ?_;exact ag _ _ _ (by omega) (CutL (b:=by have:=hXZ.out;simp;omega)) ⟨k+1,B2++ty++[61]++wv,_,rfl,hkl,hBn2,by have:=hXZ.out;simp;omega,hnew,rfl,rfl⟩
  ·have hke:k=r.length:=by omega
   subst hke;have g3:¬ (r.length:Int)<(r.length:Int):=by omega
   have hfl:acc2.length<=(i+1) * 50000000:=by
    rw [agh];clear hal hBl hab;generalize i * 50000000=M at hal2 ⊢;omega
   have e:=hacc2.out;rw [aeE,show Lib.join (r.map (avT false)) [43]=gI false r by simp [gI],hfin.out] at e;replace e:=hid e;refine wk ?_;exact ag _ _ _ (by omega) (CutL (b:=by simp)) ⟨i+1,acc2,_,rfl,hlt,hfl,e,rfl,rfl⟩
 ·have hke:i=d.length:=by omega
  subst hke;have g1:¬ (d.length:Int)<(d.length:Int):=by omega
  have e:=hacc.out;rw [aeE] at e;have h':=h.out;simp only [jH] at h';rw [<- e] at h';replace h':=hid h';clear hacc e;refine wk ?_;exact ab rfl h'.out
def LX (r:Rdn):Nat:=(r.map fun a=>min a.2.length 5000).sum
def Py (d:List Rdn):Nat:=(d.map LX).sum
theorem YK (n:Nat):∀ (s:List UInt8) (i:Nat),s.length<=(wrL n i s).length
 | [],_=>by simp
 | c::s,i=>by
   have h1:=YK n s (i+1);have h2:1<=(wrB i n c).length:=by
    unfold wrB;split
    ·simp
    ·split<;>simp
   simp only [wrL,aeF,aet];omega
theorem Tv (sep:List UInt8):∀ xs:List (List UInt8),(xs.map List.length).sum<=(Lib.join xs sep).length
 | []=>by simp [Lib.join]
 | [x]=>by simp [Lib.join,List.intercalate]
 | x::y::l=>by
   have h1:=Tv sep (y::l);have e:Lib.join (x::y::l) sep=x++(sep++Lib.join (y::l) sep):=by simp [Lib.join,List.intercalate]
   rw [e];simp only [aeG,List.sum_cons,aeF] at h1 ⊢;omega
theorem abh (r:Rdn):LX r<=(gI false r).length:=by
 have h1:LX r<=((r.map (avT false)).map List.length).sum:=by
  induction r with
  | nil=>simp [LX]
  | cons a r ih =>
    have h2:=YK a.2.length a.2 0;have h3:min a.2.length 5000<=(avT false a).length:=by
     simp only [avT,aez,if_false,aeF,iL];omega
    simp only [LX,aeG,List.sum_cons] at ih ⊢;omega
 have h2:=Tv [43] (r.map (avT false));simp only [gI,aez,if_false];omega
theorem aa2 (d:List Rdn):Py d<=(jH false d).length:=by
 have h1:Py d<=((d.map (gI false)).map List.length).sum:=by
  induction d with
  | nil=>simp [Py]
  | cons a r ih =>
    have h2:=abh a;simp only [Py,aeG,List.sum_cons] at ih ⊢;omega
 have h2:=Tv [44] (d.map (gI false));simp only [jH];omega
theorem Ts:∀ {l:List Nat} {x:Nat},x∈l->x<=l.sum
 | [],_,h=>by cases h
 | y::l,x,h=>by
   rw [List.sum_cons];rcases aex.1 h with rfl|h
   ·omega
   ·have:=Ts h;omega
theorem YZ {d:List Rdn} (h:Py d<=4096):∀ r∈d,∀ a∈r,a.2.length<=4096:=fun r hr a ha=>by
 have h1:LX r<=Py d:=by
  unfold Py;exact Ts (List.mem_map_of_mem hr)
 have h2:min a.2.length 5000<=LX r:=by
  unfold LX;exact Ts (List.mem_map_of_mem (f:=fun a:Ava=>min a.2.length 5000) ha)
 omega
theorem ZH {d:List Rdn} (h:∀ r∈d,∀ a∈r,a.2.length<=4096):NE d=false:=by
 unfold NE Hz;rw [afe];intro r hr;simp only [afP,afe,decide_eq_true_eq];intro a ha;have:=h r hr a ha;omega
theorem abk {r:Rdn} {typ:List UInt8} {n:Nat} {cap:Option Nat} (hr:r.length=n) (hn:n<=8) (h1:∀ a∈r,a.1.length<=32) (h2:typ.length<=32) (h:K (.bool (lN r typ)) L) :
  aee 109 [.sl (aH r) n cap,.str typ] L K:=by
 subst hr;exact Za (by omega) (fun a ha=>by have:=h1 a ha;omega) (by omega) h
theorem XB {d:List Rdn} {cap:Option Nat} (hn:d.length<=1100000) (hr:∀ r∈d,r.length<=1100000/\∀ a∈r,(a.1.length:Int)<=140737488351232) (h:K (pi (prS d)) L):aee 111 [.sl (d.map cm) d.length cap] L K:=by
 obtain ⟨R,hR⟩:=aea (prS d);rw [hR] at h;replace h:=hid h;have hat:=hid (fun k=>@K9 d k);replace hr:=hid hr;have hbad:DD 0 d≠0->R=([],DD 0 d):=fun e=>by rw [<- hR,prS,if_pos e]
 replace hbad:=hid hbad;replace hR:=hid hR;refine aed OC ?_;refine ai (fun n T' L'=>∃ (i:Nat) (c:Int) (X:List Blk),n=d.length - i/\i<=d.length/\i<=32/\Hid (c=(Py (d.take i):Nat)/\c<=40000 * i)/\Hid (DD i (d.drop i)=DD 0 d)/\T'=[(11,.int .i64 (i:Int)),(10,.int .i64 d.length),(9,.sl (d.map cm) d.length cap),(4,.int .i64 c),(0,.sl (d.map cm) d.length cap)]/\L'=L++X) (CutS (b:=by simp)) ⟨0,0,[],rfl,aej _,by omega,hid ⟨rfl,by omega⟩,hid rfl,rfl,by simp⟩ ?_;rintro _ _ _ ⟨i,c,X,rfl,hi,hi32,hc,he,rfl,rfl⟩;by_cases hlt:i<d.length
 ·have g1:(i:Int)<(d.length:Int):=by omega
  have g2:=aec i (by omega);have e2:=hat.out i hlt;have hrm:d.getD i []∈d:=by rw [aew,aev hlt];exact afi _
  obtain ⟨hrl,hrt⟩:=hr.out (d.getD i []) hrm;obtain ⟨r,hri⟩:=aea (d.getD i []);have hdr:d.drop i=r::d.drop (i+1):=by rw [aeH hlt,<- hri];simp [hlt]
  have hdt:d.take (i+1)=d.take i++[r]:=by rw [aeL hlt,<- hri];simp [hlt]
  rw [hri] at e2 hrl hrt;have he2:=he.out;rw [hdr,DD] at he2;clear hdr hri hrm;replace hrt:=hid hrt;replace hdt:=hid hdt;by_cases h32:i=32
  ·rw [if_pos h32] at he2;have h':=h.out;rw [hbad.out (by rw [<- he2];decide),<- he2] at h';replace h':=hid h';have k1:(i:Int)=32:=by omega
   have g1':(32:Int)<(d.length:Int):=by omega
   clear h32 he2;refine wk ?_;exact ab rfl h'.out
  rw [if_neg h32] at he2;have k1:¬ (i:Int)=32:=by omega
  by_cases hr0:r=[]
  ·rw [if_pos hr0] at he2;subst hr0;have h':=h.out;rw [hbad.out (by rw [<- he2];decide),<- he2] at h';replace h':=hid h';clear h32 he2;refine wk ?_;exact ab rfl h'.out
  rw [if_neg hr0] at he2;have k2:¬ (r.length:Int)=0:=by have:=afF.2 hr0;omega
  have herr:∀ e:Int,gA [] r=e->e≠0->K (.tup [.str [],.int .i64 e]) L:=fun e a1 a2=>by
   rw [if_pos (by rw [a1];exact a2),a1] at he2;have h':=h.out
   rwa [hbad.out (by rw [<- he2];exact a2),<- he2] at h'
  replace herr:=hid herr;replace he2:=hid he2;clear h32;refine wk ?_;refine ai (fun n T' L'=>∃ (k:Nat) (c':Int) (Y:List Blk),n=r.length - k/\k<=r.length/\k<=8/\Hid (c'=c+(LX (r.take k):Nat)/\0<=c'/\c'<=40000 * i+5000 * k)/\Hid (gA (r.take k) (r.drop k)=gA [] r/\∀ a∈r.take k,a.1.length<=32)/\T'=[(23,.int .i64 (k:Int)),(22,.int .i64 r.length),(21,cm r),(6,cm r),(11,.int .i64 (i:Int)),(10,.int .i64 d.length),(9,.sl (d.map cm) d.length cap),(4,.int .i64 c'),(0,.sl (d.map cm) d.length cap)]/\L'=L++(X++Y)) (CutS (b:=by simp)) ⟨0,c,[],rfl,aej _,by omega,hid ⟨by simp [LX],by have:=hc.out;omega,by have:=hc.out;omega⟩,hid ⟨rfl,by simp⟩,rfl,by simp⟩ ?_;rintro _ _ _ ⟨k,c',Y,rfl,hk,hk8,hc',hrow,rfl,rfl⟩;by_cases hkl:k<r.length
  ·have g3:(k:Int)<(r.length:Int):=by omega
   have g4:=aec k (by omega);have e3:=dc hkl;have e4:k * 2+2<=(aH r).length:=by rw [bW];omega
   obtain ⟨⟨ty,va⟩,ha⟩:∃ a,r.getD k ([],[])=a:=⟨_,rfl⟩;have ham:(ty,va)∈r:=by rw [<- ha];simp [hkl]
   have hdk:r.drop k=(ty,va)::r.drop (k+1):=by rw [aeH hkl,<- ha];simp [hkl]
   have htk:r.take (k+1)=r.take k++[(ty,va)]:=by rw [aeL hkl,<- ha];simp [hkl]
   rw [ha] at e3;simp only [gf] at e3;have hty1:=hrt.out _ ham;simp only at hty1;obtain ⟨hr1,hr2⟩:=hrow.out;rw [hdk,gA] at hr1;have hlk:(r.take k).length=k:=by simp;omega
   rw [hlk] at hr1;clear hdk ha hrow ham;have e5:(aH r).take (k * 2)=aH (r.take k):=OO;have g5:(k:Int)<=(r.length:Int):=by omega
   replace hr1:=hid hr1;replace hr2:=hid hr2;replace htk:=hid htk;have e6:=hid hlk;clear hlk
   repeat' first
    | refine aY ?_
    | (first|refine aO (by kernel_rfl) ?_|refine aA (by kernel_rfl) ?_|refine aB ?_|refine bw ?_|refine a6 (fun _=>?_)|refine ax ?_|refine aR ?_)
      refine sm ?_
    | (first|refine aK (by kernel_rfl) ?_|refine aP ?_|refine aQ ?_|refine bd (aw ?_))
      refine sl ?_
    | exact a7
    | first|apply a8|apply aL|apply ba|apply aM|apply bc|apply aN
    | refine aE ?_
    | first|refine aC rfl ?_|refine aD rfl ?_|refine ap rfl ?_ ?_|refine aG rfl (fun _=>?_) (fun _=>?_)|refine aF rfl (fun _=>?_) (fun _=>?_)
    | ((first|refine ao (fun _=>?_) (fun _=>?_)|refine au (fun _=>?_) (fun _=>?_))<;>try refine sm ?_)
    | refine And.intro trivial ?_
    | refine And.intro (by omega) ?_
    | refine aI rfl (fun _=>?_) (fun _=>?_)
    | refine And.intro ?_ ?_
   ·rename_i h8
    have h':=hid (herr.out 9 (by rw [<- hr1.out,if_pos (by omega)]) (by decide));exact ab rfl h'.out
   ·rename_i h8
    have hr3:=hr1.out;rw [if_neg (by omega)] at hr3;replace hr3:=hid hr3;refine L5 hty1 ?_;cases hty:il ty with
    | false =>
      have h':=hid (herr.out 20 (by rw [<- hr3.out,if_pos hty]) (by decide));clear hr3;refine sk ?_;refine wk ?_;exact ab rfl h'.out
    | true =>
      have hr4:=hr3.out;rw [if_neg (by rw [hty];simp)] at hr4;replace hr4:=hid hr4;have htl:=pg hty;clear hr3;refine sk ?_
      repeat' first
       | refine aY ?_
       | (first|refine aO (by kernel_rfl) ?_|refine aA (by kernel_rfl) ?_|refine aB ?_|refine bw ?_|refine a6 (fun _=>?_)|refine ax ?_|refine aR ?_)
         refine sm ?_
       | (first|refine aK (by kernel_rfl) ?_|refine aP ?_|refine aQ ?_|refine bd (aw ?_))
         refine sl ?_
       | exact a7
       | first|apply a8|apply aL|apply ba|apply aM|apply bc|apply aN
       | refine aE ?_
       | first|refine aC rfl ?_|refine aD rfl ?_|refine ap rfl ?_ ?_|refine aG rfl (fun _=>?_) (fun _=>?_)|refine aF rfl (fun _=>?_) (fun _=>?_)
       | ((first|refine ao (fun _=>?_) (fun _=>?_)|refine au (fun _=>?_) (fun _=>?_))<;>try refine sm ?_)
       | refine And.intro trivial ?_
       | refine And.intro (by omega) ?_
       | refine aI rfl (fun _=>?_) (fun _=>?_)
       | refine And.intro ?_ ?_
      refine aS (abk e6.out (by omega) hr2.out htl ⟨rfl,rfl⟩) ?_;cases hha:lN (r.take k) ty with
      | true =>
        have h':=hid (herr.out 21 (by rw [<- hr4.out,if_pos hha]) (by decide));refine sk ?_;refine wk ?_;exact ab rfl h'.out
      | false =>
        have hr5:=hr4.out;rw [if_neg (by rw [hha];simp),<- htk.out] at hr5;replace hr5:=hid hr5;clear hr4;obtain ⟨z,hz⟩:∃ z:Int,(if (5000:Int)<(va.length:Int) then 5000 else (va.length:Int))=z:=⟨_,rfl⟩;have hz2:z=((min va.length 5000:Nat):Int):=by rw [<- hz];split<;>omega
        have hzw:IntKind.i64.wrap (c'+z)=c'+z:=by
         have:=hc'.out;exact ad (by omega) (by omega)
        replace hz2:=hid hz2;refine sk ?_;refine wk ?_;refine ag _ _ _ (by omega) (CutL (b:=by simp)) ⟨k+1,c'+z,Y++[.cells [.str ty,.str va]],rfl,hkl,by omega,hid ?_,hid ⟨hr5.out,fun a ha=>?_⟩,rfl,by simp⟩
        ·have:=hc'.out;have e:LX (r.take (k+1))=LX (r.take k)+min va.length 5000:=by rw [htk.out];simp [LX]
         have:=hz2.out;omega
        rw [htk.out] at ha;rcases aeo.1 ha with h|h
        ·exact hr2.out a h
        ·rw [aeO.1 h];exact htl
  ·have hke:k=r.length:=by omega
   subst hke;have g3:¬ (r.length:Int)<(r.length:Int):=by omega
   have hz:=hrow.out.1;rw [aeC,gA] at hz;have he3:=he2.out;rw [<- hz] at he3;simp only [ne_eq,not_true_eq_false,if_false] at he3;replace he3:=hid he3;have hcn:=hc'.out;rw [aeE] at hcn;replace hcn:=hid hcn;clear hz;refine wk ?_;refine ag _ _ _ (by omega) (CutS (b:=by simp)) ⟨i+1,c',X++Y,rfl,hlt,by omega,hid ?_,hid he3.out,rfl,rfl⟩;have e:Py (d.take (i+1))=Py (d.take i)+LX r:=by rw [hdt.out];simp [Py]
   have:=hcn.out;have:=hc.out;omega
 ·have hke:i=d.length:=by omega
  subst hke;have g1:¬ (d.length:Int)<(d.length:Int):=by omega
  have hch:=he.out;rw [aeC,DD] at hch;have hcc:=hc.out.1;rw [aeE] at hcc;have hR':=hR.out;rw [prS,if_neg (by rw [<- hch];simp)] at hR';have hge:=aa2 d;by_cases hbig:4096<Py d
  ·have k1:(4096:Int)<c:=by omega
   have h':=h.out;rw [<- hR'] at h';have e:(if NE d=true then (([]:List UInt8),(5:Int)) else if 4096<(jH false d).length then ([],5) else (jH false d,0))=([],5):=by
    split
    ·rfl
    ·rw [if_pos (by omega)]
   rw [e] at h';replace h':=hid h';clear hbig hge hcc e hR' hch;refine wk ?_;exact ab rfl h'.out
  ·have k1:¬ (4096:Int)<c:=by omega
   have hlo:=YZ (d:=d) (by omega);obtain ⟨hd32,hd8⟩:=Qh d 0 hch.symm (by omega);rw [ZH hlo,if_neg (by simp)] at hR';replace hlo:=hid hlo;replace hd8:=hid hd8;have hbn:=hid (show ∀ r∈d,r.length<=1000/\∀ a∈r,a.1.length<=10000/\a.2.length<=10000 from fun r hr=>⟨by have:=(hd8.out r hr).1;omega,fun a ha=>⟨by have:=(hd8.out r hr).2 a ha;omega,by have:=hlo.out r hr a ha;omega⟩⟩);by_cases hlg:4096<(jH false d).length
   ·have k2:(4096:Int)<((jH false d).length:Int):=by omega
    have h':=h.out;rw [<- hR',if_pos hlg] at h';replace h':=hid h';clear hbig hge hcc hR' hch hlg;have kk1:=@hid _ (fun L K=>Te (cap:=cap) (by omega) hbn.out (L:=L) (K:=K));refine wk ?_;exact ab rfl h'.out
   ·have k2:¬ (4096:Int)<((jH false d).length:Int):=by omega
    have h':=h.out;rw [<- hR',if_neg hlg] at h';replace h':=hid h';clear hbig hge hcc hR' hch hlg;have kk1:=@hid _ (fun L K=>Te (cap:=cap) (by omega) hbn.out (L:=L) (K:=K));refine wk ?_;exact ab rfl h'.out
def Nw (a:Ava):Ava:=(aa a.1,fG a.2)
abbrev tV (a:Ava):List UInt8:=avT false a
def uo (l:Rdn) (x:Ava):Nat->Nat
 | 0=>0
 | n+1=>if tV x<tV (l.getD n ([],[])) then uo l x n else n+1
def HB (l:Rdn) (x:Ava):Rdn:=l.take (uo l x l.length)++[x]++l.drop (uo l x l.length)
def jp (r:Rdn):Rdn:=r.foldl (fun l a=>HB l (Nw a)) []
def Lb (d:List Rdn):List Rdn:=d.map jp
theorem Tn (l:Rdn) (x:Ava):∀ n,uo l x n<=n
 | 0=>aeg _
 | n+1=>by
   have:=Tn l x n;unfold uo;split<;>omega
theorem UR (l:Rdn) (x:Ava):(HB l x).length=l.length+1:=by
 have:=Tn l x l.length;simp [HB];omega
theorem Uy {r:Rdn} {k:Nat} (h:k<r.length):jp (r.take (k+1))=HB (jp (r.take k)) (Nw (r.getD k ([],[]))):=by
 unfold jp;rw [aeL h,agq];simp [h]
theorem Q4 (r:Rdn):∀ l:Rdn,(r.foldl (fun l a=>HB l (Nw a)) l).length=l.length+r.length:=by
 induction r with
 | nil=>simp
 | cons a r ih=>intro l;rw [afq,ih,UR];simp;omega
theorem QI (r:Rdn):(jp r).length=r.length:=by simp [jp,Q4]
theorem Yv {r:Rdn} {k:Nat}:(aH r).drop (k * 2)=aH (r.drop k):=by
 induction r generalizing k with
 | nil=>simp [aH]
 | cons a r ih =>
   cases k with
   | zero=>simp [aH]
   | succ k =>
     have:=@ih k;simp only [aH] at this;rw [show (k+1) * 2=k * 2+1+1 by omega];simp [aH,gf,this]
theorem SY (r q:Rdn):aH (r++q)=aH r++aH q:=by simp [aH]
theorem WU (l:Rdn) (x:Ava):∀ (n j:Nat),uo l x n<=j->j<n->tV x<tV (l.getD j ([],[]))
 | 0,_,_,h=>by omega
 | n+1,j,h1,h2=>by
   unfold uo at h1;split at h1
   ·rename_i hk
    rcases aer j n with e|e
    ·exact WU l x n j h1 e
    ·have:j=n:=by omega
     subst this;exact hk
   ·omega
theorem WV (l:Rdn) (x:Ava):∀ n,uo l x n=0\/¬ tV x<tV (l.getD (uo l x n - 1) ([],[]))
 | 0=>.inl rfl
 | n+1=>by
   unfold uo;split
   ·exact WV l x n
   ·rename_i hk;exact .inr (by simpa using hk)
def S7 (l:Rdn):Prop:=l.Pairwise fun a b=>tV a<=tV b
theorem V4 {l:Rdn} {x:Ava} (hs:S7 l):S7 (HB l x):=by
 have hge:=WU l x l.length;have hat:=WV l x l.length;have hle:=Tn l x l.length;unfold HB;obtain ⟨p,hp⟩:=aea (uo l x l.length);rw [hp] at hge hat hle ⊢;have hs2:S7 (l.take p++l.drop p):=by rw [agc];exact hs
 obtain ⟨h1,h2,h3⟩:=List.pairwise_append.1 hs2;have ha:∀ a∈l.take p,tV a<=tV x:=fun a ha=>by
  rcases hat with e|e
  ·subst e;simp at ha
  ·have hp1:p - 1<l.length:=by
    rcases afC p with z|z
    ·subst z;simp at ha
    ·omega
   refine List.le_trans ?_ (afz.1 e);obtain ⟨i,hi,rfl⟩:=aeU.1 ha;simp only [afM] at hi;rw [List.getElem_take];have hg:l.getD (p - 1) ([],[])=l[p - 1]:=by simp [hp1]
   rw [hg];rcases aer i (p - 1) with q|q
   ·exact (ag8.1 hs) i (p - 1) (by omega) hp1 q
   ·have:i=p - 1:=by omega
    subst this;exact afz.1 (ae9 _)
 have hb:∀ b∈l.drop p,tV x<=tV b:=fun b hb=>by
  obtain ⟨i,hi,rfl⟩:=aeU.1 hb;simp only [afu] at hi;rw [List.getElem_drop];have:=hge (p+i) (by omega) (by omega);have hg:l.getD (p+i) ([],[])=l[p+i]:=by simp [show p+i<l.length by omega]
  rw [hg] at this;exact List.le_of_lt this
 unfold S7;rw [aeu,List.pairwise_append];refine ⟨h1,?_,?_⟩
 ·simp only [ag6,afo];exact ⟨hb,h2⟩
 ·intro a haa b hbb;simp only [ag6,aex] at hbb;rcases hbb with rfl|hbb
  ·exact ha a haa
  ·exact h3 a haa b hbb
theorem UQ (l:Rdn) (x:Ava):(HB l x).Perm (x::l):=by
 unfold HB;rw [aeu];refine (List.perm_middle (l₁:=l.take _) (l₂:=l.drop _)).trans ?_;rw [agc]
theorem Q5:∀ (r l:Rdn),S7 l->S7 (r.foldl (fun l a=>HB l (Nw a)) l)/\(r.foldl (fun l a=>HB l (Nw a)) l).Perm (l++r.map Nw)
 | [],l,h=>by simpa using h
 | a::r,l,h=>by
   obtain ⟨h1,h2⟩:=Q5 r (HB l (Nw a)) (V4 h);refine ⟨h1,h2.trans ?_⟩;refine ((UQ l (Nw a)).append_right _).trans ?_;simp only [aeG];exact (List.perm_middle (l₁:=l)).symm
theorem abZ (a:Ava):avT true a=tV (Nw a):=by simp [avT,Nw]
theorem VL (r:Rdn):(jp r).map tV=dd (r.map (avT true)):=by
 obtain ⟨h1,h2⟩:=Q5 r [] List.Pairwise.nil;refine List.Perm.eq_of_pairwise (le:=fun x y=>x<=y) (fun a b _ _=>List.le_antisymm) ?_ ?_ ?_
 ·rw [agY];exact h1
 ·have:=List.pairwise_mergeSort (le:=fun x y:List UInt8=>decide (x<=y)) (fun a b c h1 h2=>by
   simp only [decide_eq_true_eq] at *;exact List.le_trans h1 h2) (fun a b=>by
   simp only [ae6,decide_eq_true_eq];exact List.le_total a b) (r.map (avT true))
  exact this.imp fun h=>by simpa using h
 ·refine (h2.map tV).trans ?_;unfold dd;refine List.Perm.trans ?_ (agH _ _).symm;rw [aeR,afK];rw [show (tV ∘ Nw)=avT true from funext fun a=>(abZ a).symm]
theorem XL (r:Rdn):gI false (jp r)=gI true r:=by
 have:=VL r;simp only [gI,aez,if_false,if_true];rw [<- this]
theorem VK (d:List Rdn):jH false (Lb d)=jH true d:=by
 unfold jH Lb;rw [afK];rw [show (gI false ∘ jp)=gI true from funext XL]
theorem abC {p:Ava->Prop} {l:Rdn} {x:Ava} (h:∀ a∈l,p a) (hx:p x):∀ a∈HB l x,p a:=fun a ha=>by
 rcases aex.1 ((UQ l x).mem_iff.1 ha) with rfl|h1
 ·exact hx
 ·exact h a h1
theorem RG:∀ r:Rdn,(aH r).all AV.one=true
 | []=>rfl
 | a::r=>by
   have:=RG r;simp only [aH] at this;simp [aH,gf,AV.one,this]
theorem Xq {xs:List AV} {i:Nat} {a b:AV} (h:(xs.drop i).take 2=[a,b]):xs.getD i .undef=a/\xs.getD (i+1) .undef=b:=by
 have h0:=congrArg (·[0]?) h;have h1:=congrArg (·[1]?) h;simp [List.getElem?_take,aeZ] at h0 h1;simp [aew,h0,h1]
theorem Y5 {d:List Rdn} {cap:Option Nat} (hn:d.length<=1000) (hr:∀ r∈d,r.length<=1000/\∀ a∈r,a.1.length<=10000/\a.2.length<=10000) (h:K (.sl ((Lb d).map cm) d.length none) L) :
  aee 113 [.sl (d.map cm) d.length cap] L K:=by
 replace h:=hid h;have hat:=hid (fun k=>@K9 d k);replace hr:=hid hr;refine aed OB ?_;refine cz (l:=[]) (n:=0) 3 1 rfl (aeX 1).symm ?_;refine ai (fun n T' L'=>∃ (i:Nat) (out:List Rdn) (Z:List Blk),n=d.length - i/\i<=d.length/\Hid (out=(d.take i).map jp)/\L'[L.length]?=some (.spare i 1)/\T'=[(14,.int .i64 (i:Int)),(13,.int .i64 d.length),(12,.sl (d.map cm) d.length cap),(3,.gsl (out.map cm) i L.length 1)]/\L'=L++Z) (CutS (b:=by simp)) ⟨0,[],[.spare 0 1],rfl,aej _,hid rfl,by simp,rfl,rfl⟩ ?_;rintro _ _ _ ⟨i,out,X,rfl,hi,hout,ho,rfl,rfl⟩;by_cases hlt:i<d.length
 ·have g1:(i:Int)<(d.length:Int):=by omega
  have g2:=aec i (by omega);have e2:=hat.out i hlt;have hrm:d.getD i []∈d:=by rw [aew,aev hlt];exact afi _
  have hrl:=hr.out _ hrm;obtain ⟨r,hri⟩:=aea (d.getD i []);have htk:d.take (i+1)=d.take i++[r]:=by rw [aeL hlt,<- hri];simp [hlt]
  rw [hri] at e2 hrl;clear hri hrm;obtain ⟨hrl1,hrl2⟩:=hrl;replace hrl2:=hid hrl2;replace htk:=hid htk;refine wk ?_;refine ai (fun n T' L'=>∃ (k:Nat) (l:Rdn) (v:AV) (Z:List Blk),n=r.length - k/\k<=r.length/\Hid (l=jp (r.take k)/\adt L.length l v L'/\∀ a∈l,a.1.length<=10000/\a.2.length<=10000)/\L'[L.length]?=some (.spare i 1)/\X.length<=Z.length/\T'=[(20,.int .i64 (k:Int)),(19,.int .i64 r.length),(18,cm r),(6,v),(14,.int .i64 (i:Int)),(13,.int .i64 d.length),(12,.sl (d.map cm) d.length cap),(3,.gsl (out.map cm) i L.length 1)]/\L'=L++Z) (CutS (b:=by have:=(aeh.1 ho).1;simp at this ⊢)) ⟨0,[],_,X,rfl,aej _,hid ⟨rfl,.inl ⟨rfl,rfl,rfl⟩,by simp⟩,ho,aeg _,rfl,rfl⟩ ?_;clear ho;rintro _ _ _ ⟨k,l,v,X1,rfl,hk,hI,ho,hXZ,rfl,rfl⟩;obtain ⟨hl,hv,hlen⟩:=hI.out;clear hI;have hB:L.length<(L++X1).length:=(aeh.1 ho).1;refine T8 6 2 L.length rfl hB hv fun p Y hBi hpi=>?_
  rw [aeu] at hpi ⊢;have ho2:(L++(X1++Y))[L.length]?=some (.spare i 1):=by rw [<- aeu,aem hB];exact ho
  have hXZ2:X.length<=(X1++Y).length:=by simp;omega
  generalize X1++Y=Z at hpi ho2 hXZ2 ⊢;clear ho hB hv hXZ X1 Y;replace hXZ2:=hid hXZ2;have hll:l.length=k:=by rw [hl,QI];simp;omega
  rw [hll] at hpi ⊢;have hpl:=(aeh.1 hpi).1;have hol:=(aeh.1 ho2).1;rw [aeF] at hpl hol;replace hlen:=hid hlen;replace hl:=hid hl;replace hpl:=hid hpl;replace hol:=hid hol;by_cases hkl:k<r.length
  ·have g3:(k:Int)<(r.length:Int):=by omega
   have g4:=aec k (by omega);have e3:=dc hkl;have e4:k * 2+2<=(aH r).length:=by rw [bW];omega
   obtain ⟨⟨ty,va⟩,ha⟩:∃ a,r.getD k ([],[])=a:=⟨_,rfl⟩;have ham:(ty,va)∈r:=by rw [<- ha];simp [hkl]
   have hnew:=Uy hkl;rw [ha] at e3 hnew;simp only [gf] at e3;have hva:=hrl2.out _ ham;simp only at hva;have hva2:(va.length:Int)<=100000:=by omega
   have hty2:(ty.length:Int)<=100000:=by omega
   obtain ⟨fx,hfx⟩:=aea (aa ty);obtain ⟨px,hpx⟩:=aea (fG va);have hfl:fx.length<=10000:=by rw [<- hfx];simp [aa];omega
   have hpxl:px.length<=10000:=by rw [<- hpx];have:=Ie va;omega
   have hpav:Nw (ty,va)=(fx,px):=by simp [Nw,hfx,hpx]
   rw [hpav,<- hl.out] at hnew;replace hnew:=hid hnew;clear ha ham hpav
   iterate 24 first
    | refine aY ?_
    | (first|refine aO (by kernel_rfl) ?_|refine aA (by kernel_rfl) ?_|refine aB ?_|refine bw ?_|refine a6 (fun _=>?_)|refine ax ?_|refine aR ?_|refine jE hty2 ?_|refine ui hva2 ?_|refine bj (jE hty2 ⟨rfl,rfl⟩) (jE hty2 ⟨rfl,rfl⟩) ?_|refine bj (ui hva2 ⟨rfl,rfl⟩) (ui hva2 ⟨rfl,rfl⟩) ?_|refine aS (jE hty2 ⟨rfl,rfl⟩) ?_|refine aS (ui hva2 ⟨rfl,rfl⟩) ?_)
      simp (config:={ maxSteps:=2000000 }) only [Kon,push_cast,reduceIte,Nat.reduceEqDiff,Nat.reduceAdd,Nat.reduceMul,Nat.reduceSub,Nat.reduceLT,Nat.reduceLeDiff,Int.reduceLT,Int.reduceLE,Int.reduceAdd,Int.reduceSub,Int.reduceNeg,Int.reduceToNat,Int.reduceEq,reduceCtorEq, *]
    | (first|refine aK (by kernel_rfl) ?_|refine aP ?_|refine aQ ?_|refine bd (aw ?_))
      simp only [push_cast,reduceIte,Nat.reduceEqDiff,Nat.reduceAdd,Nat.reduceMul,Nat.reduceSub,Nat.reduceLT,Nat.reduceLeDiff,Int.reduceLT,Int.reduceLE,Int.reduceAdd,Int.reduceSub,Int.reduceNeg,Int.reduceToNat,Int.reduceEq,reduceCtorEq, *]
    | exact a7
    | first|apply a8|apply aL|apply ba|apply aM|apply bc|apply aN
    | refine aE ?_
    | first|refine aC rfl ?_|refine aD rfl ?_|refine ap rfl ?_ ?_|refine aG rfl (fun _=>?_) (fun _=>?_)|refine aF rfl (fun _=>?_) (fun _=>?_)
    | ((first|refine ao (fun _=>?_) (fun _=>?_)|refine au (fun _=>?_) (fun _=>?_))<;>try simp (config:={ maxSteps:=2000000 }) only [Kon,push_cast,reduceIte,Nat.reduceEqDiff,Nat.reduceAdd,Nat.reduceMul,Nat.reduceSub,Nat.reduceLT,Nat.reduceLeDiff,Int.reduceLT,Int.reduceLE,Int.reduceAdd,Int.reduceSub,Int.reduceNeg,Int.reduceToNat,Int.reduceEq,reduceCtorEq, *])
    | refine And.intro trivial ?_
    | refine And.intro (by omega) ?_
    | refine aI rfl (fun _=>?_) (fun _=>?_)
    | refine And.intro ?_ ?_
   have hnp:l.getD k ([],[])=([],[]):=by simp [hll]
   obtain ⟨wx,hwx⟩:=aea (iL px);have hkx:tV (fx,px)=fx++61::wx:=by simp [avT,hwx]
   have hwxl:wx.length<=30000:=by rw [<- hwx];have:=H6 px;omega
   have hpx2:px.length<=100000:=by omega
   replace hkx:=hid hkx;clear hnp;refine uW (fun T2 L2=>∃ z:Nat,z<=k/\Hid (z=uo l (fx,px) k)/\T2=[(10,.int .i64 (z:Int)),(9,.ptr (L.length+(Z.length+1)) 0),(6,.gsl (aH l) k p 2),(20,.int .i64 (k:Int)),(19,.int .i64 r.length),(18,cm r),(14,.int .i64 (i:Int)),(13,.int .i64 d.length),(12,.sl (d.map cm) d.length cap),(3,.gsl (out.map cm) i L.length 1)]/\L2=L++(Z++[.cells [.str ty,.str va],.cells [.str fx,.str px]])) ?_ ?_
   ·refine wk ?_;refine ai (fun n T' L'=>∃ q:Nat,q=n/\q<=k/\Hid (uo l (fx,px) q=uo l (fx,px) k)/\T'=[(10,.int .i64 (q:Int)),(9,.ptr (L.length+(Z.length+1)) 0),(6,.gsl (aH l) k p 2),(20,.int .i64 (k:Int)),(19,.int .i64 r.length),(18,cm r),(14,.int .i64 (i:Int)),(13,.int .i64 d.length),(12,.sl (d.map cm) d.length cap),(3,.gsl (out.map cm) i L.length 1)]/\L'=L++(Z++[.cells [.str ty,.str va],.cells [.str fx,.str px]])) (CutS (b:=by simp)) ⟨k,rfl,aeg _,hid rfl,rfl,rfl⟩ ?_;rintro _ _ _ ⟨q,rfl,hqk,hq,rfl,rfl⟩;rcases q with _|q
    ·have h0:=hid hq.out.symm;have k0:¬ (0:Int)<((0:Nat):Int):=by omega
     have kk1:=@hid _ (fun L K=>jo hpx2 (L:=L) (K:=K));refine wk ?_;exact gT _ _ (CutL (b:=by simp)) ⟨0,by omega,hid h0.out.symm,rfl,rfl⟩
    ·have k0:(0:Int)<((q+1:Nat):Int):=by omega
     have k1:IntKind.i64.wrap (((q+1:Nat):Int) - 1)=(q:Int):=by rw [ad (by omega) (by omega)];omega
     have k4:(q:Int)<(k:Int):=by omega
     have e5:=dc (r:=l) (k:=q) (by omega);have e6:q * 2+2<=(aH l).length:=by rw [bW];omega
     obtain ⟨⟨t1,v1⟩,hav⟩:∃ a,l.getD q ([],[])=a:=⟨_,rfl⟩;rw [hav] at e5;simp only [gf] at e5;obtain ⟨e7,e8⟩:=Xq e5;obtain ⟨w1,hw1⟩:=aea (iL v1);have hv1:=hlen.out (t1,v1) (by rw [<- hav];simp [show q<l.length by omega]);simp only at hv1;have hv1':v1.length<=100000:=by omega
     have hw1l:w1.length<=30000:=by rw [<- hw1];have:=H6 v1;omega
     have hk1:tV (l.getD q ([],[]))=t1++61::w1:=by rw [hav];simp [avT,hw1]
     have c1:((t1.length+1:Nat):Int)<=9223372036854775807:=by omega
     have c2:((t1.length+1+w1.length:Nat):Int)<=9223372036854775807:=by omega
     have c3:((fx.length+1:Nat):Int)<=9223372036854775807:=by omega
     have c4:((fx.length+1+wx.length:Nat):Int)<=9223372036854775807:=by omega
     simp only [Int.natCast_add,Int.cast_ofNat_Int] at c1 c2 c3 c4;replace hk1:=hid hk1;simp only [Int.natCast_add,Int.cast_ofNat_Int] at k0 k1;have hq':=hid hq.out;clear hq hav;by_cases hc:tV (fx,px)<tV (l.getD q ([],[]))
     ·have hb:(Op.bytesLess (t1++61::w1) (fx++61::wx) || decide (t1++61::w1=fx++61::wx))=false:=by
       rw [hkx.out,hk1.out] at hc;rw [bytesLess_eq];simp only [agE,decide_eq_false_iff_not];exact ⟨fun e=>ae9 _ (afT e hc),fun e=>by rw [e] at hc;exact ae9 _ hc⟩
      have hq2:uo l (fx,px) q=uo l (fx,px) k:=by rw [<- hq'.out,uo,if_pos hc]
      replace hq2:=hid hq2;clear hc;have kk1:=@hid _ (fun L K=>jo hpx2 (L:=L) (K:=K));have kk2:=@hid _ (fun L K=>jo hv1' (L:=L) (K:=K));refine wk ?_;exact ag _ _ _ (by omega) (CutL (b:=by simp)) ⟨q,rfl,by omega,hq2,rfl,rfl⟩
     ·have hb:(Op.bytesLess (t1++61::w1) (fx++61::wx) || decide (t1++61::w1=fx++61::wx))=true:=by
       rw [hkx.out,hk1.out] at hc;rw [bytesLess_eq];simp only [ae6,decide_eq_true_eq];have:=afz.1 hc;rcases af6.1 this with e|e
       ·exact .inl e
       ·exact .inr e
      have hq2:q+1=uo l (fx,px) k:=by rw [<- hq'.out,uo,if_neg hc]
      replace hq2:=hid hq2;clear hc;have kk1:=@hid _ (fun L K=>jo hpx2 (L:=L) (K:=K));have kk2:=@hid _ (fun L K=>jo hv1' (L:=L) (K:=K));refine wk ?_;exact gT _ _ (CutL (b:=by simp)) ⟨q+1,by omega,hq2,rfl,rfl⟩
   rintro _ _ ⟨z,hzk,hz,rfl,rfl⟩ -;have z0:(0:Int)<=(z:Int):=by omega
   have z1:(z:Int)<=(k:Int):=by omega
   have s1:(aH l).take (z * 2)=aH (l.take z):=OO;have s2:((aH l).drop (z * 2)).take ((k - z) * 2)=aH (l.drop z):=by
    rw [Yv,aeV];rw [bW,afu,hll];omega
   have s3:AV.frzL (aH (l.take z))=aH (l.take z):=ia _;have s4:AV.frzL (aH (l.drop z))=aH (l.drop z):=ia _;have s5:(aH (l.take z)).length=z * 2:=by rw [bW,afM];omega
   have s6:(aH (l.drop z)).length=(k - z) * 2:=by rw [bW,afu,hll]
   have s7:z+1+(k - z)=k+1:=by omega
   have s8:=RG (l.take z);have s9:=RG (l.drop z);have q1:z * 32<=140737488355328:=by omega
   have q2:z<=140737488355328:=by omega
   have q3:(z+1) * 32<=140737488355328:=by omega
   have q4:z+1<=140737488355328:=by omega
   have q5:(k+1) * 32<=140737488355328:=by omega
   have q6:k+1<=140737488355328:=by omega
   iterate 3 first
    | refine aY ?_
    | (first|refine aO (by kernel_rfl) ?_|refine aA (by kernel_rfl) ?_|refine aB ?_|refine bw ?_|refine a6 (fun _=>?_)|refine ax ?_|refine aR ?_)
      simp (config:={ maxSteps:=2000000 }) only [Kon,push_cast,reduceIte,Nat.reduceEqDiff,Nat.reduceAdd,Nat.reduceMul,Nat.reduceSub,Nat.reduceLT,Nat.reduceLeDiff,Int.reduceLT,Int.reduceLE,Int.reduceAdd,Int.reduceSub,Int.reduceNeg,Int.reduceToNat,Int.reduceEq,reduceCtorEq, *]
    | (first|refine aK (by kernel_rfl) ?_|refine aP ?_|refine aQ ?_|refine bd (aw ?_))
      simp only [push_cast,reduceIte,Nat.reduceEqDiff,Nat.reduceAdd,Nat.reduceMul,Nat.reduceSub,Nat.reduceLT,Nat.reduceLeDiff,Int.reduceLT,Int.reduceLE,Int.reduceAdd,Int.reduceSub,Int.reduceNeg,Int.reduceToNat,Int.reduceEq,reduceCtorEq, *]
    | exact a7
    | first|apply a8|apply aL|apply ba|apply aM|apply bc|apply aN
    | refine aE ?_
    | first|refine aC rfl ?_|refine aD rfl ?_|refine ap rfl ?_ ?_|refine aG rfl (fun _=>?_) (fun _=>?_)|refine aF rfl (fun _=>?_) (fun _=>?_)
    | ((first|refine ao (fun _=>?_) (fun _=>?_)|refine au (fun _=>?_) (fun _=>?_))<;>try simp (config:={ maxSteps:=2000000 }) only [Kon,push_cast,reduceIte,Nat.reduceEqDiff,Nat.reduceAdd,Nat.reduceMul,Nat.reduceSub,Nat.reduceLT,Nat.reduceLeDiff,Int.reduceLT,Int.reduceLE,Int.reduceAdd,Int.reduceSub,Int.reduceNeg,Int.reduceToNat,Int.reduceEq,reduceCtorEq, *])
    | refine And.intro trivial ?_
    | refine And.intro (by omega) ?_
    | refine aI rfl (fun _=>?_) (fun _=>?_)
    | refine And.intro ?_ ?_
   refine cz (l:=[]) (n:=0) 11 2 rfl (aeX 2).symm ?_;refine wk ?_;have hcell:aH (l.take z)++AV.str fx::AV.str px::aH (l.drop z)=aH (HB l (fx,px)):=by
    rw [HB,hll,<- hz.out,SY,SY];simp [aH,gf]
   have hlen2:(HB l (fx,px)).length=k+1:=by rw [UR,hll]
   rw [hcell];refine ag _ _ _ (by omega) (CutL (b:=?_)) ⟨k+1,HB l (fx,px),_,_,rfl,hkl,hid ⟨hnew.out.symm,.inr ⟨L.length+(Z.length+2),by omega,by rw [hlen2],?_⟩,abC hlen.out ⟨hfl,hpxl⟩⟩,?_,?_,rfl,rfl⟩
   ·have:=hXZ2.out;simp;omega
   ·rw [lO,lO,hlen2];rfl
   ·rw [<- aeu,aem (aeh.1 ho2).1];exact ho2
   ·have:=hXZ2.out;simp;omega
  ·have hke:k=r.length:=by omega
   subst hke;have g3:¬ (r.length:Int)<(r.length:Int):=by omega
   have q3:(i+1) * 24<=140737488355328:=by omega
   have q4:i+1<=140737488355328:=by omega
   have e5:AV.frzL (aH l)=aH l:=ia _;have e6:out.map cm++[AV.sl (aH l) r.length none]=(out++[l]).map cm:=by
    rw [ae8];simp [hll]
   have e7:out++[l]=(d.take (i+1)).map jp:=by
    rw [htk.out,ae8,<- hout.out,hl.out,aeE];rfl
   have s4:∀ (W:List Blk) A,(L++W).set L.length A=L++W.set 0 A:=fun W A=>by rw [ae5 _ _ (aeg _),afn]
   have f1:(L++Z.set 0 (.spare (i+1) 1))[L.length]?=some (.spare (i+1) 1):=by
    rw [<- s4,aeD,if_pos rfl,if_pos (aeh.1 ho2).1]
   replace e7:=hid e7;replace f1:=hid f1;replace e6:=hid e6;refine wk ?_;rw [e6.out];refine ag _ _ _ (by omega) (CutL (b:=?_)) ⟨i+1,out++[l],_,rfl,hlt,e7,f1.out,rfl,rfl⟩;have:=hol.out;simp;omega
 ·have hke:i=d.length:=by omega
  subst hke;have g1:¬ (d.length:Int)<(d.length:Int):=by omega
  have e:=hout.out;rw [aeE] at e;have h':=h.out;rw [show (Lb d)=out from e.symm] at h';replace h':=hid h';clear hout e;refine wk ?_;refine aZ (ab ?_ ?_)
  ·simp only [AV.frz,AV.frzL,pk,AV.refs,AV.refsL,Ic,afD]
  ·simp only [AV.frz,AV.frzL,pk];exact h'.out
theorem VN (d:List Rdn):(Lb d).length=d.length:=by simp [Lb]
theorem VM {r:Rdn} (h:∀ a∈r,a.1.length<=10000/\a.2.length<=10000):∀ a∈jp r,a.1.length<=10000/\a.2.length<=10000:=fun a ha=>by
 have hp:=(Q5 r [] List.Pairwise.nil).2;have hm:=hp.mem_iff.1 ha;rw [aeR] at hm;obtain ⟨b,hb,rfl⟩:=aey.1 hm;obtain ⟨h1,h2⟩:=h b hb;have h3:=Ie b.2;simp only [Nw,aa,aeS];omega
theorem Y7 {d:List Rdn} {cap:Option Nat} (hn:d.length<=1100000) (hr:∀ r∈d,r.length<=1100000/\∀ a∈r,(a.1.length:Int)<=140737488351232) (h:K (pi (XP d)) L) :
  aee 91 [.sl (d.map cm) d.length cap] L K:=by
 unfold XP pi at h;refine aed PQ ?_;refine XB hn hr ?_;unfold pi;obtain ⟨⟨ps,pe⟩,hp⟩:∃ p,prS d=p:=⟨_,rfl⟩;rw [hp] at h ⊢;simp only at h ⊢;by_cases h0:pe=0
 ·subst h0;obtain ⟨q1,q2⟩:=Zn (by rw [hp]);rw [if_neg (by simp)] at h;have hb:∀ r∈d,r.length<=1000/\∀ a∈r,a.1.length<=10000/\a.2.length<=10000:=fun r hr=>⟨by have:=(q2 r hr).1;omega,fun a ha=>⟨by have:=((q2 r hr).2 a ha).1;omega,by have:=((q2 r hr).2 a ha).2;omega⟩⟩
  have hb2:∀ r∈Lb d,r.length<=1000/\∀ a∈r,a.1.length<=10000/\a.2.length<=10000:=fun r hr=>by
   obtain ⟨r0,hr0,rfl⟩:=aey.1 hr;exact ⟨by rw [QI];exact (hb r0 hr0).1,VM (hb r0 hr0).2⟩
  have hpl:=hid (VN d);rw [<- VK] at h;replace h:=hid h;replace hb:=hid hb;replace hb2:=hid hb2;clear hp hr q2;refine sk ?_;have kk1:=@hid _ (fun L K=>Y5 (cap:=cap) (by omega) hb.out (L:=L) (K:=K));refine wk ?_;rw [<- hpl.out];refine Te (by rw [hpl.out];omega) hb2.out ?_;refine sk ?_;refine wk ?_;exact ac h.out
 ·rw [if_pos h0] at h;replace h:=hid h;clear hp hr;refine sk ?_;refine wk ?_;exact ac h.out
theorem abi {d:List Rdn} {cap:Option Nat} (hn:d.length<=1000000) (hr:∀ r∈d,r.length<=1000000/\∀ a∈r,(a.1.length:Int)<=100000) (h:K (pi (XP d)) L) :
 aee 91 [.sl (d.map cm) d.length cap] L K:=Y7 (by omega) (fun r hm=>⟨by have:=(hr r hm).1;omega,fun a ha=>by have:=(hr r hm).2 a ha;omega⟩) h
theorem QL:∀ (f:Nat) (out:List Rdn) (now:Rdn) (s:List UInt8),(∀ a∈now,a.1.length<=32)->(∀ r∈out,∀ a∈r,a.1.length<=32)->∀ r∈(tP f out now s).1,∀ a∈r,a.1.length<=32
 | 0,_,_,_,_,_=>by simp [tP]
 | f+1,out,now,s,h1,h2=>by
   rw [tP];split
   ·simp
   split
   ·simp
   split
   ·simp
   rename_i hty
   have hty':=pg (by simpa using hty);have hrow:∀ v,∀ a∈now++[(_,v)],a.1.length<=32:=fun v a ha=>by
    rcases aeo.1 ha with h|h
    ·exact h1 a h
    ·rw [aeO.1 h];exact hty'
   have hout:∀ v,∀ r∈out++[now++[(_,v)]],∀ a∈r,a.1.length<=32:=fun v r hr=>by
    rcases aeo.1 hr with h|h
    ·exact h2 r h
    ·rw [aeO.1 h];exact hrow v
   split
   ·simp
   split
   ·simp
   split
   ·simp
   split
   ·exact hout _
   split
   ·exact QL f _ _ _ (by simp) (hout _)
   ·exact QL f _ _ _ (hrow _) h2
theorem Zs (s:List UInt8):∀ r∈(Iw s).1,∀ a∈r,a.1.length<=32:=by
 unfold Iw;split
 ·simp
 split
 ·simp
 ·exact QL _ _ _ _ (by simp) (by simp)
theorem Y9 {s:List UInt8} (h:K (pi (UN s)) L):aee 64 [.str s] L K:=by
 unfold UN at h;refine aed Rw ?_;refine Y6 ?_;obtain ⟨q1,q2⟩:=WW s;have q3:=Zs s;obtain ⟨⟨pd,pe⟩,hp⟩:∃ p,Iw s=p:=⟨_,rfl⟩;rw [hp] at h q1 q2 q3 ⊢;simp only [VQ] at h q1 q2 q3 ⊢;clear hp;by_cases h0:pe=0
 ·subst h0;rw [if_neg (by simp)] at h;replace h:=hid h;replace q2:=hid q2;replace q3:=hid q3;refine sk ?_;refine wk ?_;refine abi (by omega) (fun r hr=>⟨by have:=q2.out r hr;omega,fun a ha=>by have:=q3.out r hr a ha;omega⟩) ?_;have h':=h.out;unfold pi at h' ⊢;replace h':=hid h';refine sk ?_;refine wk ?_;exact ac h'.out
 ·rw [if_pos h0] at h;unfold pi at h;replace h:=hid h;clear q1 q2 q3;refine sk ?_;refine wk ?_;exact ac h.out
end Go.Proofs.YtigifoeopopnbaaGreatDoor.Av
