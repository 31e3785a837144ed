/- Joined texts of the walk, made small by a program. -/
import Derived.Test.YtobihfefmlgaoaaGreatRk10
import Derived.Test.YtobihfefmlgaoaaGreatRk11
import Derived.Test.YtobihfefmlgaoaaGreatRk5
import Derived.Sort.Walk0
set_option linter.unusedSimpArgs false
set_option linter.unusedVariables false
namespace Go.Proofs.YtobihfefmlgaoaaGreat.Av
open Go
set_option maxHeartbeats 8000000
set_option maxRecDepth 100000
theorem QZ (sep x:List UInt8):∀ xs:List (List UInt8),Lib.join (xs++[x]) sep=if xs=[] then x else Lib.join xs sep++sep++x
 | []=>by simp [Lib.join,List.intercalate]
 | [y]=>by simp [Lib.join,List.intercalate]
 | y::z::l=>by
   have ih:=QZ sep x (z::l);rw [if_neg (by simp)] at ih ⊢;have e1:Lib.join (y::z::l++[x]) sep=y++(sep++Lib.join (z::l++[x]) sep):=by simp [Lib.join,List.intercalate]
   have e2:Lib.join (y::z::l) sep=y++(sep++Lib.join (z::l) sep):=by simp [Lib.join,List.intercalate]
   rw [e1,ih,e2];simp
theorem SV {d:List Rdn} {cap:Option Nat} (hn:d.length<=1000) (hr:∀ r∈d,r.length<=1000/\∀ a∈r,a.1.length<=10000/\a.2.length<=10000) {L:List Blk} {K:afC} (h:K (.str (aQ false d)) L) :
  afB 69 [.sl (d.map aw) d.length cap] L K:=by
 replace h:=hid h;have hat:=hid (fun k=>@mw d k);replace hr:=hid hr;refine acg SC ?_;refine ah (fun n T' L'=>∃ (i:Nat) (acc:List UInt8) (Z:List Blk),n=d.length - i/\i<=d.length/\acc.length<=i * 50000000/\Hid (acc=Lib.join ((d.take i).map (cn false)) [44])/\T'=[(10,.int .i64 (i:Int)),(9,.int .i64 d.length),(8,.sl (d.map aw) d.length cap),(3,.str acc)]/\L'=L++Z) (CutS (b:=by simp)) ⟨0,[],[],rfl,ahp _,by simp,hid (by simp [Lib.join]),rfl,by simp⟩ ?_;rintro _ _ _ ⟨i,acc,X,rfl,hi,hal,hacc,rfl,rfl⟩;by_cases hlt:i<d.length
 ·have g1:(i:Int)<(d.length:Int):=by omega
  have g2:=ace i (by omega);have e2:=hat.out i hlt;have hrm:d.getD i []∈d:=by rw [ahE,ahB hlt];exact ain _
  have hrl:=hr.out _ hrm;obtain ⟨r,hri⟩:=aaR (d.getD i []);have htk:d.take (i+1)=d.take i++[r]:=by rw [ahK hlt,<- hri];simp [hlt]
  rw [hri] at e2 hrl;clear hri hrm;obtain ⟨hrl1,hrl2⟩:=hrl;replace hrl2:=hid hrl2;obtain ⟨B,hB⟩:=aaR ((if 0<i then acc++[44] else acc));have hBl:B.length<=i * 50000000+1:=by
   rw [<- hB];split
   ·exact ahV (Nat.le_of_eq (by simp)) (Nat.add_le_add_right hal 1)
   ·exact ahV hal (Nat.le_add_right _ _)
  have hfin:B++cn false r=Lib.join ((d.take (i+1)).map (cn false)) [44]:=by
   rw [htk,ahN,List.map_singleton,QZ,<- hacc.out,<- hB];by_cases h0:0<i
   ·rw [if_pos h0,if_neg];intro e;rcases List.take_eq_nil_iff.1 (akn.1 e) with e|e
    ·omega
    ·rw [e] at hlt;simp at hlt
   ·have:i=0:=by omega
    subst this;simp at hal;simp [hal]
  replace hfin:=hid hfin;replace hB:=hid hB;replace htk:=hid htk;have hb0:(i:Int)<=1000:=by omega
  have hab:((acc.length+1:Nat):Int)<=9223372036854775807:=by omega
  iterate 12 first
   | refine cP ?_
   | (first|refine bY (by kernel_rfl) ?_|refine bj (by kernel_rfl) ?_|refine bm ?_|refine fy ?_|refine cT (fun _=>?_)|refine a8 ?_|refine b9 ?_)
     simp (config:={ maxSteps:=2000000 }) only [Kon,push_cast,reduceIte,Nat.reduceEqDiff,Nat.reduceAdd,Nat.reduceMul,Nat.reduceSub,Nat.reduceLT,Nat.reduceLeDiff,Int.reduceLT,Int.reduceLE,Int.reduceAdd,Int.reduceSub,Int.reduceNeg,Int.reduceToNat,Int.reduceEq,reduceCtorEq, *]
   | (first|refine bU (by kernel_rfl) ?_|refine bT ?_|refine bZ ?_|refine cY (a7 ?_))
     simp only [push_cast,reduceIte,Nat.reduceEqDiff,Nat.reduceAdd,Nat.reduceMul,Nat.reduceSub,Nat.reduceLT,Nat.reduceLeDiff,Int.reduceLT,Int.reduceLE,Int.reduceAdd,Int.reduceSub,Int.reduceNeg,Int.reduceToNat,Int.reduceEq,reduceCtorEq, *]
   | exact cU
   | first|apply cV|apply bV|apply cW|apply bW|apply cX|apply bX
   | refine br ?_
   | first|refine bp rfl ?_|refine bq rfl ?_|refine aW rfl ?_ ?_|refine bz rfl (fun _=>?_) (fun _=>?_)|refine bw rfl (fun _=>?_) (fun _=>?_)
   | ((first|refine aV (fun _=>?_) (fun _=>?_)|refine a6 (fun _=>?_) (fun _=>?_))<;>try simp (config:={ maxSteps:=2000000 }) only [Kon,push_cast,reduceIte,Nat.reduceEqDiff,Nat.reduceAdd,Nat.reduceMul,Nat.reduceSub,Nat.reduceLT,Nat.reduceLeDiff,Int.reduceLT,Int.reduceLE,Int.reduceAdd,Int.reduceSub,Int.reduceNeg,Int.reduceToNat,Int.reduceEq,reduceCtorEq, *])
   | refine And.intro trivial ?_
   | refine And.intro (by omega) ?_
   | refine bA rfl (fun _=>?_) (fun _=>?_)
   | refine And.intro ?_ ?_
  refine uq (fun T2 L2=>T2=[(3,.str B),(5,aw r),(10,.int .i64 (i:Int)),(9,.int .i64 d.length),(8,.sl (d.map aw) d.length cap)]/\L2=L++X) ?_ ?_
  ·by_cases h0:0<i
   ·have k0:(0:Int)<(i:Int):=by omega
    have hB':=hB.out;rw [if_pos h0] at hB';subst hB';clear h0;refine wk ?_;exact gV _ _ (CutL (b:=by simp)) ⟨rfl,rfl⟩
   ·have k0:¬ (0:Int)<(i:Int):=by omega
    have hB':=hB.out;rw [if_neg h0] at hB';subst hB';clear h0;refine wk ?_;exact gV _ _ (CutL (b:=by simp)) ⟨rfl,rfl⟩
  rintro _ _ ⟨rfl,rfl⟩ -;refine wk ?_;refine ah (fun n T' L'=>∃ (k:Nat) (acc2:List UInt8) (Z:List Blk),n=r.length - k/\k<=r.length/\acc2.length<=i * 50000000+1+k * 40002/\X.length<=Z.length/\Hid (acc2=B++Lib.join ((r.take k).map (avT false)) [43])/\T'=[(21,.int .i64 (k:Int)),(20,.int .i64 r.length),(19,aw r),(10,.int .i64 (i:Int)),(9,.int .i64 d.length),(8,.sl (d.map aw) d.length cap),(3,.str acc2)]/\L'=L++Z) (CutS (b:=by simp)) ⟨0,B,X,rfl,ahp _,by omega,ahn _,hid (by simp [Lib.join]),rfl,rfl⟩ ?_;rintro _ _ _ ⟨k,acc2,Z,rfl,hk,hal2,hXZ,hacc2,rfl,rfl⟩;replace hXZ:=hid hXZ;by_cases hkl:k<r.length
  ·have g3:(k:Int)<(r.length:Int):=by omega
   have g4:=ace k (by omega);have e3:=fW hkl;have e4:k * 2+2<=(aN r).length:=by rw [cr];omega
   obtain ⟨⟨ty,va⟩,ha⟩:∃ a,r.getD k ([],[])=a:=⟨_,rfl⟩;have ham:(ty,va)∈r:=by rw [<- ha];simp [hkl]
   have htk2:r.take (k+1)=r.take k++[(ty,va)]:=by rw [ahK hkl,<- ha];simp [hkl]
   rw [ha] at e3;simp only [oC] at e3;have hva:=hrl2.out _ ham;simp only at hva;have hva':va.length<=100000:=by omega
   have hwl:=OG va.length va 0;obtain ⟨wv,hwv⟩:=aaR (fY va);have hwl2:wv.length<=30000:=by rw [<- hwv];unfold fY;omega
   have hty:=hva.1;obtain ⟨B2,hB2⟩:=aaR ((if 0<k then acc2++[43] else acc2));have hB2l:B2.length<=i * 50000000+1+k * 40002+1:=by
    rw [<- hB2];split
    ·exact ahV (Nat.le_of_eq (by simp)) (Nat.add_le_add_right hal2 1)
    ·exact ahV hal2 (Nat.le_add_right _ _)
   have hnew:B2++ty++[61]++wv=B++Lib.join ((r.take (k+1)).map (avT false)) [43]:=by
    rw [htk2,ahN,List.map_singleton,QZ,<- hB2];have e0:avT false (ty,va)=ty++[61]++wv:=by simp [avT,hwv]
    by_cases h0:0<k
    ·rw [if_pos h0,if_neg,hacc2.out,e0]
     ·simp
     ·intro e;rcases List.take_eq_nil_iff.1 (akn.1 e) with e|e
      ·omega
      ·rw [e] at hkl;simp at hkl
    ·have:k=0:=by omega
     subst this;have:=hacc2.out;simp only [aiS,aif] at this;rw [if_neg (by omega),this,e0];simp [Lib.join]
   replace hnew:=hid hnew;have hBn:(B2++ty++[61]++wv).length=B2.length+ty.length+1+wv.length:=by simp only [ahy,ahD,ahZ]
   have hBn2:(B2++ty++[61]++wv).length<=i * 50000000+1+(k+1) * 40002:=by rw [hBn];omega
   replace hB2:=hid hB2;clear hwl ha ham hva htk2;have hkb:k<1000:=by omega
   have b0:((acc2.length+1:Nat):Int)<=9223372036854775807:=by omega
   have b1:((B2.length+ty.length:Nat):Int)<=9223372036854775807:=by omega
   have b2:((B2.length+ty.length+1:Nat):Int)<=9223372036854775807:=by omega
   have b3:((B2.length+ty.length+1+wv.length:Nat):Int)<=9223372036854775807:=by omega
   simp only [Int.natCast_add,Int.cast_ofNat_Int] at b0 b1 b2 b3
   iterate 12 first
    | refine cP ?_
    | (first|refine bY (by kernel_rfl) ?_|refine bj (by kernel_rfl) ?_|refine bm ?_|refine fy ?_|refine cT (fun _=>?_)|refine a8 ?_|refine b9 ?_)
      simp (config:={ maxSteps:=2000000 }) only [Kon,push_cast,reduceIte,Nat.reduceEqDiff,Nat.reduceAdd,Nat.reduceMul,Nat.reduceSub,Nat.reduceLT,Nat.reduceLeDiff,Int.reduceLT,Int.reduceLE,Int.reduceAdd,Int.reduceSub,Int.reduceNeg,Int.reduceToNat,Int.reduceEq,reduceCtorEq, *]
    | (first|refine bU (by kernel_rfl) ?_|refine bT ?_|refine bZ ?_|refine cY (a7 ?_))
      simp only [push_cast,reduceIte,Nat.reduceEqDiff,Nat.reduceAdd,Nat.reduceMul,Nat.reduceSub,Nat.reduceLT,Nat.reduceLeDiff,Int.reduceLT,Int.reduceLE,Int.reduceAdd,Int.reduceSub,Int.reduceNeg,Int.reduceToNat,Int.reduceEq,reduceCtorEq, *]
    | exact cU
    | first|apply cV|apply bV|apply cW|apply bW|apply cX|apply bX
    | refine br ?_
    | first|refine bp rfl ?_|refine bq rfl ?_|refine aW rfl ?_ ?_|refine bz rfl (fun _=>?_) (fun _=>?_)|refine bw rfl (fun _=>?_) (fun _=>?_)
    | ((first|refine aV (fun _=>?_) (fun _=>?_)|refine a6 (fun _=>?_) (fun _=>?_))<;>try simp (config:={ maxSteps:=2000000 }) only [Kon,push_cast,reduceIte,Nat.reduceEqDiff,Nat.reduceAdd,Nat.reduceMul,Nat.reduceSub,Nat.reduceLT,Nat.reduceLeDiff,Int.reduceLT,Int.reduceLE,Int.reduceAdd,Int.reduceSub,Int.reduceNeg,Int.reduceToNat,Int.reduceEq,reduceCtorEq, *])
    | refine And.intro trivial ?_
    | refine And.intro (by omega) ?_
    | refine bA rfl (fun _=>?_) (fun _=>?_)
    | refine And.intro ?_ ?_
   refine uq (fun T2 L2=>T2=[(3,.str B2),(7,.ptr (L.length+Z.length) 0),(21,.int .i64 (k:Int)),(20,.int .i64 r.length),(19,aw r),(10,.int .i64 (i:Int)),(9,.int .i64 d.length),(8,.sl (d.map aw) d.length cap)]/\L2=L++(Z++[.cells [.str ty,.str va]])) ?_ ?_
   ·by_cases h0:0<k
    ·have k0:(0:Int)<(k:Int):=by omega
     have hB':=hB2.out;rw [if_pos h0] at hB';subst hB';clear h0;refine wk ?_;exact gV _ _ (CutL (b:=by simp)) ⟨rfl,rfl⟩
    ·have k0:¬ (0:Int)<(k:Int):=by omega
     have hB':=hB2.out;rw [if_neg h0] at hB';subst hB';clear h0;refine wk ?_;exact gV _ _ (CutL (b:=by simp)) ⟨rfl,rfl⟩
   rintro _ _ ⟨rfl,rfl⟩ -;have kk1:=@hid _ (fun L K=>mu hva' (L:=L) (K:=K));refine wk ?_;exact aq _ _ _ (by omega) (CutL (b:=by have:=hXZ.out;simp;omega)) ⟨k+1,B2++ty++[61]++wv,_,rfl,hkl,hBn2,by have:=hXZ.out;simp;omega,hnew,rfl,rfl⟩
  ·have hke:k=r.length:=by omega
   subst hke;have g3:¬ (r.length:Int)<(r.length:Int):=by omega
   have hfl:acc2.length<=(i+1) * 50000000:=by
    rw [ajD];clear hal hBl hab;generalize i * 50000000=M at hal2 ⊢;omega
   have e:=hacc2.out;rw [ahA,show Lib.join (r.map (avT false)) [43]=cn false r by simp [cn],hfin.out] at e;replace e:=hid e;refine wk ?_;exact aq _ _ _ (by omega) (CutL (b:=by simp)) ⟨i+1,acc2,_,rfl,hlt,hfl,e,rfl,rfl⟩
 ·have hke:i=d.length:=by omega
  subst hke;have g1:¬ (d.length:Int)<(d.length:Int):=by omega
  have e:=hacc.out;rw [ahA] at e;have h':=h.out;simp only [aQ] at h';rw [<- e] at h';replace h':=hid h';clear hacc e;refine wk ?_;exact ab rfl h'.out
variable {L:List Blk} {K:afC}
def OQ (r:Rdn):Nat:=(r.map fun a=>min a.2.length 5000).sum
def Sq (d:List Rdn):Nat:=(d.map OQ).sum
theorem abW (n:Nat):∀ (s:List UInt8) (i:Nat),s.length<=(wrL n i s).length
 | [],_=>by simp
 | c::s,i=>by
   have h1:=abW n s (i+1);have h2:1<=(wrB i n c).length:=by
    unfold wrB;split
    ·simp
    ·split<;>simp
   simp only [wrL,ahy,ahD];omega
theorem Wr (sep:List UInt8):∀ xs:List (List UInt8),(xs.map List.length).sum<=(Lib.join xs sep).length
 | []=>by simp [Lib.join]
 | [x]=>by simp [Lib.join,List.intercalate]
 | x::y::l=>by
   have h1:=Wr sep (y::l);have e:Lib.join (x::y::l) sep=x++(sep++Lib.join (y::l) sep):=by simp [Lib.join,List.intercalate]
   rw [e];simp only [ahH,aiD,ahy] at h1 ⊢;omega
theorem aei (r:Rdn):OQ r<=(cn false r).length:=by
 have h1:OQ r<=((r.map (avT false)).map List.length).sum:=by
  induction r with
  | nil=>simp [OQ]
  | cons a r ih =>
    have h2:=abW a.2.length a.2 0;have h3:min a.2.length 5000<=(avT false a).length:=by
     simp only [avT,ahJ,if_false,ahy,fY];omega
    simp only [OQ,ahH,aiD] at ih ⊢;omega
 have h2:=Wr [43] (r.map (avT false));simp only [cn,ahJ,if_false];omega
theorem ad0 (d:List Rdn):Sq d<=(aQ false d).length:=by
 have h1:Sq d<=((d.map (cn false)).map List.length).sum:=by
  induction d with
  | nil=>simp [Sq]
  | cons a r ih =>
    have h2:=aei a;simp only [Sq,ahH,aiD] at ih ⊢;omega
 have h2:=Wr [44] (d.map (cn false));simp only [aQ];omega
theorem Wl:∀ {l:List Nat} {x:Nat},x∈l->x<=l.sum
 | [],_,h=>by cases h
 | y::l,x,h=>by
   rw [aiD];rcases ahR.1 h with rfl|h
   ·omega
   ·have:=Wl h;omega
theorem aco {d:List Rdn} (h:Sq d<=4096):∀ r∈d,∀ a∈r,a.2.length<=4096:=fun r hr a ha=>by
 have h1:OQ r<=Sq d:=by
  unfold Sq;exact Wl (ajy hr)
 have h2:min a.2.length 5000<=OQ r:=by
  unfold OQ;exact Wl (ajy (f:=fun a:Ava=>min a.2.length 5000) ha)
 omega
theorem acY {d:List Rdn} (h:∀ r∈d,∀ a∈r,a.2.length<=4096):yA d=false:=by
 unfold yA KA;rw [ajj];intro r hr;simp only [ai9,ajj,decide_eq_true_eq];intro a ha;have:=h r hr a ha;omega
theorem ael {r:Rdn} {typ:List UInt8} {n:Nat} {cap:Option Nat} (hr:r.length=n) (hn:n<=8) (h1:∀ a∈r,a.1.length<=32) (h2:typ.length<=32) (h:K (.bool (lH r typ)) L) :
  afB 68 [.sl (aN r) n cap,.str typ] L K:=by
 subst hr;exact acw (by omega) (fun a ha=>by have:=h1 a ha;omega) (by omega) h
theorem jT {d:List Rdn} {cap:Option Nat} (hn:d.length<=1100000) (hr:∀ r∈d,r.length<=1100000/\∀ a∈r,(a.1.length:Int)<=140737488351232) (h:K (N4 (prS d)) L):afB 35 [.sl (d.map aw) d.length cap] L K:=by
 obtain ⟨R,hR⟩:=aaR (prS d);rw [hR] at h;replace h:=hid h;have hat:=hid (fun k=>@mw d k);replace hr:=hid hr;have hbad:jH 0 d≠0->R=([],jH 0 d):=fun e=>by rw [<- hR,prS,if_pos e]
 replace hbad:=hid hbad;replace hR:=hid hR;refine acg Q9 ?_;refine ah (fun n T' L'=>∃ (i:Nat) (c:Int) (X:List Blk),n=d.length - i/\i<=d.length/\i<=32/\Hid (c=(Sq (d.take i):Nat)/\c<=40000 * i)/\Hid (jH i (d.drop i)=jH 0 d)/\T'=[(11,.int .i64 (i:Int)),(10,.int .i64 d.length),(9,.sl (d.map aw) d.length cap),(4,.int .i64 c),(0,.sl (d.map aw) d.length cap)]/\L'=L++X) (CutS (b:=by simp)) ⟨0,0,[],rfl,ahp _,by omega,hid ⟨rfl,by omega⟩,hid rfl,rfl,by simp⟩ ?_;rintro _ _ _ ⟨i,c,X,rfl,hi,hi32,hc,he,rfl,rfl⟩;by_cases hlt:i<d.length
 ·have g1:(i:Int)<(d.length:Int):=by omega
  have g2:=ace i (by omega);have e2:=hat.out i hlt;have hrm:d.getD i []∈d:=by rw [ahE,ahB hlt];exact ain _
  obtain ⟨hrl,hrt⟩:=hr.out (d.getD i []) hrm;obtain ⟨r,hri⟩:=aaR (d.getD i []);have hdr:d.drop i=r::d.drop (i+1):=by rw [ah2 hlt,<- hri];simp [hlt]
  have hdt:d.take (i+1)=d.take i++[r]:=by rw [ahK hlt,<- hri];simp [hlt]
  rw [hri] at e2 hrl hrt;have he2:=he.out;rw [hdr,jH] at he2;clear hdr hri hrm;replace hrt:=hid hrt;replace hdt:=hid hdt;by_cases h32:i=32
  ·rw [if_pos h32] at he2;have h':=h.out;rw [hbad.out (by rw [<- he2];decide),<- he2] at h';replace h':=hid h';have k1:(i:Int)=32:=by omega
   have g1':(32:Int)<(d.length:Int):=by omega
   clear h32 he2;refine wk ?_;exact ab rfl h'.out
  rw [if_neg h32] at he2;have k1:¬ (i:Int)=32:=by omega
  by_cases hr0:r=[]
  ·rw [if_pos hr0] at he2;subst hr0;have h':=h.out;rw [hbad.out (by rw [<- he2];decide),<- he2] at h';replace h':=hid h';clear h32 he2;refine wk ?_;exact ab rfl h'.out
  rw [if_neg hr0] at he2;have k2:¬ (r.length:Int)=0:=by have:=ah8.2 hr0;omega
  have herr:∀ e:Int,dl [] r=e->e≠0->K (.tup [.str [],.int .i64 e]) L:=fun e a1 a2=>by
   rw [if_pos (by rw [a1];exact a2),a1] at he2;have h':=h.out
   rwa [hbad.out (by rw [<- he2];exact a2),<- he2] at h'
  replace herr:=hid herr;replace he2:=hid he2;clear h32;refine wk ?_;refine ah (fun n T' L'=>∃ (k:Nat) (c':Int) (Y:List Blk),n=r.length - k/\k<=r.length/\k<=8/\Hid (c'=c+(OQ (r.take k):Nat)/\0<=c'/\c'<=40000 * i+5000 * k)/\Hid (dl (r.take k) (r.drop k)=dl [] r/\∀ a∈r.take k,a.1.length<=32)/\T'=[(23,.int .i64 (k:Int)),(22,.int .i64 r.length),(21,aw r),(6,aw r),(11,.int .i64 (i:Int)),(10,.int .i64 d.length),(9,.sl (d.map aw) d.length cap),(4,.int .i64 c'),(0,.sl (d.map aw) d.length cap)]/\L'=L++(X++Y)) (CutS (b:=by simp)) ⟨0,c,[],rfl,ahp _,by omega,hid ⟨by simp [OQ],by have:=hc.out;omega,by have:=hc.out;omega⟩,hid ⟨rfl,by simp⟩,rfl,by simp⟩ ?_;rintro _ _ _ ⟨k,c',Y,rfl,hk,hk8,hc',hrow,rfl,rfl⟩;by_cases hkl:k<r.length
  ·have g3:(k:Int)<(r.length:Int):=by omega
   have g4:=ace k (by omega);have e3:=fW hkl;have e4:k * 2+2<=(aN r).length:=by rw [cr];omega
   obtain ⟨⟨ty,va⟩,ha⟩:∃ a,r.getD k ([],[])=a:=⟨_,rfl⟩;have ham:(ty,va)∈r:=by rw [<- ha];simp [hkl]
   have hdk:r.drop k=(ty,va)::r.drop (k+1):=by rw [ah2 hkl,<- ha];simp [hkl]
   have htk:r.take (k+1)=r.take k++[(ty,va)]:=by rw [ahK hkl,<- ha];simp [hkl]
   rw [ha] at e3;simp only [oC] at e3;have hty1:=hrt.out _ ham;simp only at hty1;obtain ⟨hr1,hr2⟩:=hrow.out;rw [hdk,dl] at hr1;have hlk:(r.take k).length=k:=by simp;omega
   rw [hlk] at hr1;clear hdk ha hrow ham;have e5:(aN r).take (k * 2)=aN (r.take k):=Rm;have g5:(k:Int)<=(r.length:Int):=by omega
   replace hr1:=hid hr1;replace hr2:=hid hr2;replace htk:=hid htk;have e6:=hid hlk;clear hlk
   repeat' first
    | refine cP ?_
    | (first|refine bY (by kernel_rfl) ?_|refine bj (by kernel_rfl) ?_|refine bm ?_|refine fy ?_|refine cT (fun _=>?_)|refine a8 ?_|refine b9 ?_)
      refine sm ?_
    | (first|refine bU (by kernel_rfl) ?_|refine bT ?_|refine bZ ?_|refine cY (a7 ?_))
      refine sl ?_
    | exact cU
    | first|apply cV|apply bV|apply cW|apply bW|apply cX|apply bX
    | refine br ?_
    | first|refine bp rfl ?_|refine bq rfl ?_|refine aW rfl ?_ ?_|refine bz rfl (fun _=>?_) (fun _=>?_)|refine bw rfl (fun _=>?_) (fun _=>?_)
    | ((first|refine aV (fun _=>?_) (fun _=>?_)|refine a6 (fun _=>?_) (fun _=>?_))<;>try refine sm ?_)
    | refine And.intro trivial ?_
    | refine And.intro (by omega) ?_
    | refine bA rfl (fun _=>?_) (fun _=>?_)
    | refine And.intro ?_ ?_
   ·rename_i h8
    have h':=hid (herr.out 9 (by rw [<- hr1.out,if_pos (by omega)]) (by decide));exact ab rfl h'.out
   ·rename_i h8
    have hr3:=hr1.out;rw [if_neg (by omega)] at hr3;replace hr3:=hid hr3;refine W4 hty1 ?_;cases hty:ku ty with
    | false =>
      have h':=hid (herr.out 20 (by rw [<- hr3.out,if_pos hty]) (by decide));clear hr3;refine sk ?_;refine wk ?_;exact ab rfl h'.out
    | true =>
      have hr4:=hr3.out;rw [if_neg (by rw [hty];simp)] at hr4;replace hr4:=hid hr4;have htl:=uQ hty;clear hr3;refine sk ?_
      repeat' first
       | refine cP ?_
       | (first|refine bY (by kernel_rfl) ?_|refine bj (by kernel_rfl) ?_|refine bm ?_|refine fy ?_|refine cT (fun _=>?_)|refine a8 ?_|refine b9 ?_)
         refine sm ?_
       | (first|refine bU (by kernel_rfl) ?_|refine bT ?_|refine bZ ?_|refine cY (a7 ?_))
         refine sl ?_
       | exact cU
       | first|apply cV|apply bV|apply cW|apply bW|apply cX|apply bX
       | refine br ?_
       | first|refine bp rfl ?_|refine bq rfl ?_|refine aW rfl ?_ ?_|refine bz rfl (fun _=>?_) (fun _=>?_)|refine bw rfl (fun _=>?_) (fun _=>?_)
       | ((first|refine aV (fun _=>?_) (fun _=>?_)|refine a6 (fun _=>?_) (fun _=>?_))<;>try refine sm ?_)
       | refine And.intro trivial ?_
       | refine And.intro (by omega) ?_
       | refine bA rfl (fun _=>?_) (fun _=>?_)
       | refine And.intro ?_ ?_
      refine bf (ael e6.out (by omega) hr2.out htl ⟨rfl,rfl⟩) ?_;cases hha:lH (r.take k) ty with
      | true =>
        have h':=hid (herr.out 21 (by rw [<- hr4.out,if_pos hha]) (by decide));refine sk ?_;refine wk ?_;exact ab rfl h'.out
      | false =>
        have hr5:=hr4.out;rw [if_neg (by rw [hha];simp),<- htk.out] at hr5;replace hr5:=hid hr5;clear hr4;obtain ⟨z,hz⟩:∃ z:Int,(if (5000:Int)<(va.length:Int) then 5000 else (va.length:Int))=z:=⟨_,rfl⟩;have hz2:z=((min va.length 5000:Nat):Int):=by rw [<- hz];split<;>omega
        have hzw:IntKind.i64.wrap (c'+z)=c'+z:=by
         have:=hc'.out;exact ac (by omega) (by omega)
        replace hz2:=hid hz2;refine sk ?_;refine wk ?_;refine aq _ _ _ (by omega) (CutL (b:=by simp)) ⟨k+1,c'+z,Y++[.cells [.str ty,.str va]],rfl,hkl,by omega,hid ?_,hid ⟨hr5.out,fun a ha=>?_⟩,rfl,by simp⟩
        ·have:=hc'.out;have e:OQ (r.take (k+1))=OQ (r.take k)+min va.length 5000:=by rw [htk.out];simp [OQ]
         have:=hz2.out;omega
        rw [htk.out] at ha;rcases ahr.1 ha with h|h
        ·exact hr2.out a h
        ·rw [ahI.1 h];exact htl
  ·have hke:k=r.length:=by omega
   subst hke;have g3:¬ (r.length:Int)<(r.length:Int):=by omega
   have hz:=hrow.out.1;rw [aij,dl] at hz;have he3:=he2.out;rw [<- hz] at he3;simp only [ne_eq,not_true_eq_false,if_false] at he3;replace he3:=hid he3;have hcn:=hc'.out;rw [ahA] at hcn;replace hcn:=hid hcn;clear hz;refine wk ?_;refine aq _ _ _ (by omega) (CutS (b:=by simp)) ⟨i+1,c',X++Y,rfl,hlt,by omega,hid ?_,hid he3.out,rfl,rfl⟩;have e:Sq (d.take (i+1))=Sq (d.take i)+OQ r:=by rw [hdt.out];simp [Sq]
   have:=hcn.out;have:=hc.out;omega
 ·have hke:i=d.length:=by omega
  subst hke;have g1:¬ (d.length:Int)<(d.length:Int):=by omega
  have hch:=he.out;rw [aij,jH] at hch;have hcc:=hc.out.1;rw [ahA] at hcc;have hR':=hR.out;rw [prS,if_neg (by rw [<- hch];simp)] at hR';have hge:=ad0 d;by_cases hbig:4096<Sq d
  ·have k1:(4096:Int)<c:=by omega
   have h':=h.out;rw [<- hR'] at h';have e:(if yA d=true then (([]:List UInt8),(5:Int)) else if 4096<(aQ false d).length then ([],5) else (aQ false d,0))=([],5):=by
    split
    ·rfl
    ·rw [if_pos (by omega)]
   rw [e] at h';replace h':=hid h';clear hbig hge hcc e hR' hch;refine wk ?_;exact ab rfl h'.out
  ·have k1:¬ (4096:Int)<c:=by omega
   have hlo:=aco (d:=d) (by omega);obtain ⟨hd32,hd8⟩:=S9 d 0 hch.symm (by omega);rw [acY hlo,if_neg (by simp)] at hR';replace hlo:=hid hlo;replace hd8:=hid hd8;have hbn:=hid (show ∀ r∈d,r.length<=1000/\∀ a∈r,a.1.length<=10000/\a.2.length<=10000 from fun r hr=>⟨by have:=(hd8.out r hr).1;omega,fun a ha=>⟨by have:=(hd8.out r hr).2 a ha;omega,by have:=hlo.out r hr a ha;omega⟩⟩);by_cases hlg:4096<(aQ false d).length
   ·have k2:(4096:Int)<((aQ false d).length:Int):=by omega
    have h':=h.out;rw [<- hR',if_pos hlg] at h';replace h':=hid h';clear hbig hge hcc hR' hch hlg;have kk1:=@hid _ (fun L K=>SV (cap:=cap) (by omega) hbn.out (L:=L) (K:=K));refine wk ?_;exact ab rfl h'.out
   ·have k2:¬ (4096:Int)<((aQ false d).length:Int):=by omega
    have h':=h.out;rw [<- hR',if_neg hlg] at h';replace h':=hid h';clear hbig hge hcc hR' hch hlg;have kk1:=@hid _ (fun L K=>SV (cap:=cap) (by omega) hbn.out (L:=L) (K:=K));refine wk ?_;exact ab rfl h'.out
def uv (a:Ava):Ava:=(aH a.1,bP a.2)
abbrev yD (a:Ava):List UInt8:=avT false a
def yQ (l:Rdn) (x:Ava):Nat->Nat
 | 0=>0
 | n+1=>if yD x<yD (l.getD n ([],[])) then yQ l x n else n+1
def KC (l:Rdn) (x:Ava):Rdn:=l.take (yQ l x l.length)++[x]++l.drop (yQ l x l.length)
def gG (r:Rdn):Rdn:=r.foldl (fun l a=>KC l (uv a)) []
def gf (d:List Rdn):List Rdn:=d.map gG
theorem Wd (l:Rdn) (x:Ava):∀ n,yQ l x n<=n
 | 0=>ahn _
 | n+1=>by
   have:=Wd l x n;unfold yQ;split<;>omega
theorem XJ (l:Rdn) (x:Ava):(KC l x).length=l.length+1:=by
 have:=Wd l x l.length;simp [KC];omega
theorem Xk {r:Rdn} {k:Nat} (h:k<r.length):gG (r.take (k+1))=KC (gG (r.take k)) (uv (r.getD k ([],[]))):=by
 unfold gG;rw [ahK h,List.foldl_append];simp [h]
theorem Ud (r:Rdn):∀ l:Rdn,(r.foldl (fun l a=>KC l (uv a)) l).length=l.length+r.length:=by
 induction r with
 | nil=>simp
 | cons a r ih=>intro l;rw [aiO,ih,XJ];simp;omega
theorem rF (r:Rdn):(gG r).length=r.length:=by simp [gG,Ud]
theorem abF {r:Rdn} {k:Nat}:(aN r).drop (k * 2)=aN (r.drop k):=by
 induction r generalizing k with
 | nil=>simp [aN]
 | cons a r ih =>
   cases k with
   | zero=>simp [aN]
   | succ k =>
     have:=@ih k;simp only [aN] at this;rw [show (k+1) * 2=k * 2+1+1 by omega];simp [aN,oC,this]
theorem VT (r q:Rdn):aN (r++q)=aN r++aN q:=by simp [aN]
theorem ZR (l:Rdn) (x:Ava):∀ (n j:Nat),yQ l x n<=j->j<n->yD x<yD (l.getD j ([],[]))
 | 0,_,_,h=>by omega
 | n+1,j,h1,h2=>by
   unfold yQ at h1;split at h1
   ·rename_i hk
    rcases ahT j n with e|e
    ·exact ZR l x n j h1 e
    ·have:j=n:=by omega
     subst this;exact hk
   ·omega
theorem ZS (l:Rdn) (x:Ava):∀ n,yQ l x n=0\/¬ yD x<yD (l.getD (yQ l x n - 1) ([],[]))
 | 0=>.inl rfl
 | n+1=>by
   unfold yQ;split
   ·exact ZS l x n
   ·rename_i hk;exact .inr (by simpa using hk)
def VV (l:Rdn):Prop:=l.Pairwise fun a b=>yD a<=yD b
theorem YX {l:Rdn} {x:Ava} (hs:VV l):VV (KC l x):=by
 have hge:=ZR l x l.length;have hat:=ZS l x l.length;have hle:=Wd l x l.length;unfold KC;obtain ⟨p,hp⟩:=aaR (yQ l x l.length);rw [hp] at hge hat hle ⊢;have hs2:VV (l.take p++l.drop p):=by rw [ai4];exact hs
 obtain ⟨h1,h2,h3⟩:=ako.1 hs2;have ha:∀ a∈l.take p,yD a<=yD x:=fun a ha=>by
  rcases hat with e|e
  ·subst e;simp at ha
  ·have hp1:p - 1<l.length:=by
    rcases aiA p with z|z
    ·subst z;simp at ha
    ·omega
   refine List.le_trans ?_ (ajO.1 e);obtain ⟨i,hi,rfl⟩:=aiv.1 ha;simp only [ail] at hi;rw [akb];have hg:l.getD (p - 1) ([],[])=l[p - 1]:=by simp [hp1]
   rw [hg];rcases ahT i (p - 1) with q|q
   ·exact (aiL.1 hs) i (p - 1) (by omega) hp1 q
   ·have:i=p - 1:=by omega
    subst this;exact ajO.1 (akc _)
 have hb:∀ b∈l.drop p,yD x<=yD b:=fun b hb=>by
  obtain ⟨i,hi,rfl⟩:=aiv.1 hb;simp only [aik] at hi;rw [List.getElem_drop];have:=hge (p+i) (by omega) (by omega);have hg:l.getD (p+i) ([],[])=l[p+i]:=by simp [show p+i<l.length by omega]
  rw [hg] at this;exact List.le_of_lt this
 unfold VV;rw [ahz,ako];refine ⟨h1,?_,?_⟩
 ·simp only [ajG,List.pairwise_cons];exact ⟨hb,h2⟩
 ·intro a haa b hbb;simp only [ajG,ahR] at hbb;rcases hbb with rfl|hbb
  ·exact ha a haa
  ·exact h3 a haa b hbb
theorem XI (l:Rdn) (x:Ava):(KC l x).Perm (x::l):=by
 unfold KC;rw [ahz];refine (List.perm_middle (l₁:=l.take _) (l₂:=l.drop _)).trans ?_;rw [ai4]
theorem QE:∀ (r l:Rdn),VV l->VV (r.foldl (fun l a=>KC l (uv a)) l)/\(r.foldl (fun l a=>KC l (uv a)) l).Perm (l++r.map uv)
 | [],l,h=>by simpa using h
 | a::r,l,h=>by
   obtain ⟨h1,h2⟩:=QE r (KC l (uv a)) (YX h);refine ⟨h1,h2.trans ?_⟩;refine ((XI l (uv a)).append_right _).trans ?_;simp only [ahH];exact (List.perm_middle (l₁:=l)).symm
theorem aah (a:Ava):avT true a=yD (uv a):=by simp [avT,uv]
theorem YH (r:Rdn):(gG r).map yD=dR (r.map (avT true)):=by
 obtain ⟨h1,h2⟩:=QE r [] List.Pairwise.nil;refine akp (le:=fun x y=>x<=y) (fun a b _ _=>List.le_antisymm) ?_ ?_ ?_
 ·rw [List.pairwise_map];exact h1
 ·have:=akd (le:=fun x y:List UInt8=>decide (x<=y)) (fun a b c h1 h2=>by
   simp only [decide_eq_true_eq] at *;exact List.le_trans h1 h2) (fun a b=>by
   simp only [aic,decide_eq_true_eq];exact List.le_total a b) (r.map (avT true))
  exact this.imp fun h=>by simpa using h
 ·refine (h2.map yD).trans ?_;unfold dR;refine List.Perm.trans ?_ (aiZ _ _).symm;rw [ah3,ahS];rw [show (yD ∘ uv)=avT true from funext fun a=>(aah a).symm]
theorem aa0 (r:Rdn):cn false (gG r)=cn true r:=by
 have:=YH r;simp only [cn,ahJ,if_false,if_true];rw [<- this]
theorem yR (d:List Rdn):aQ false (gf d)=aQ true d:=by
 unfold aQ gf;rw [ahS];rw [show (cn false ∘ gG)=cn true from funext aa0]
theorem aeH {p:Ava->Prop} {l:Rdn} {x:Ava} (h:∀ a∈l,p a) (hx:p x):∀ a∈KC l x,p a:=fun a ha=>by
 rcases ahR.1 ((XI l x).mem_iff.1 ha) with rfl|h1
 ·exact hx
 ·exact h a h1
theorem UL:∀ r:Rdn,(aN r).all AV.one=true
 | []=>rfl
 | a::r=>by
   have:=UL r;simp only [aN] at this;simp [aN,oC,AV.one,this]
theorem aaC {xs:List AV} {i:Nat} {a b:AV} (h:(xs.drop i).take 2=[a,b]):xs.getD i .undef=a/\xs.getD (i+1) .undef=b:=by
 have h0:=congrArg (·[0]?) h;have h1:=congrArg (·[1]?) h;simp [List.getElem?_take,aia] at h0 h1;simp [ahE,h0,h1]
theorem W7 {d:List Rdn} {cap:Option Nat} (hn:d.length<=1000) (hr:∀ r∈d,r.length<=1000/\∀ a∈r,a.1.length<=10000/\a.2.length<=10000) {L:List Blk} {K:afC} (h:K (.sl ((gf d).map aw) d.length none) L) :
  afB 87 [.sl (d.map aw) d.length cap] L K:=by
 replace h:=hid h;have hat:=hid (fun k=>@mw d k);replace hr:=hid hr;refine acg Q8 ?_;refine bi (l:=[]) (n:=0) 3 1 rfl (ahQ 1).symm ?_;refine ah (fun n T' L'=>∃ (i:Nat) (out:List Rdn) (Z:List Blk),n=d.length - i/\i<=d.length/\Hid (out=(d.take i).map gG)/\L'[L.length]?=some (.spare i 1)/\T'=[(14,.int .i64 (i:Int)),(13,.int .i64 d.length),(12,.sl (d.map aw) d.length cap),(3,.gsl (out.map aw) i L.length 1)]/\L'=L++Z) (CutS (b:=by simp)) ⟨0,[],[.spare 0 1],rfl,ahp _,hid rfl,by simp,rfl,rfl⟩ ?_;rintro _ _ _ ⟨i,out,X,rfl,hi,hout,ho,rfl,rfl⟩;by_cases hlt:i<d.length
 ·have g1:(i:Int)<(d.length:Int):=by omega
  have g2:=ace i (by omega);have e2:=hat.out i hlt;have hrm:d.getD i []∈d:=by rw [ahE,ahB hlt];exact ain _
  have hrl:=hr.out _ hrm;obtain ⟨r,hri⟩:=aaR (d.getD i []);have htk:d.take (i+1)=d.take i++[r]:=by rw [ahK hlt,<- hri];simp [hlt]
  rw [hri] at e2 hrl;clear hri hrm;obtain ⟨hrl1,hrl2⟩:=hrl;replace hrl2:=hid hrl2;replace htk:=hid htk;refine wk ?_;refine ah (fun n T' L'=>∃ (k:Nat) (l:Rdn) (v:AV) (Z:List Blk),n=r.length - k/\k<=r.length/\Hid (l=gG (r.take k)/\agl L.length l v L'/\∀ a∈l,a.1.length<=10000/\a.2.length<=10000)/\L'[L.length]?=some (.spare i 1)/\X.length<=Z.length/\T'=[(20,.int .i64 (k:Int)),(19,.int .i64 r.length),(18,aw r),(6,v),(14,.int .i64 (i:Int)),(13,.int .i64 d.length),(12,.sl (d.map aw) d.length cap),(3,.gsl (out.map aw) i L.length 1)]/\L'=L++Z) (CutS (b:=by have:=(ahm.1 ho).1;simp at this ⊢)) ⟨0,[],_,X,rfl,ahp _,hid ⟨rfl,.inl ⟨rfl,rfl,rfl⟩,by simp⟩,ho,ahn _,rfl,rfl⟩ ?_;clear ho;rintro _ _ _ ⟨k,l,v,X1,rfl,hk,hI,ho,hXZ,rfl,rfl⟩;obtain ⟨hl,hv,hlen⟩:=hI.out;clear hI;have hB:L.length<(L++X1).length:=(ahm.1 ho).1;refine WS 6 2 L.length rfl hB hv fun p Y hBi hpi=>?_
  rw [ahz] at hpi ⊢;have ho2:(L++(X1++Y))[L.length]?=some (.spare i 1):=by rw [<- ahz,ahq hB];exact ho
  have hXZ2:X.length<=(X1++Y).length:=by simp;omega
  generalize X1++Y=Z at hpi ho2 hXZ2 ⊢;clear ho hB hv hXZ X1 Y;replace hXZ2:=hid hXZ2;have hll:l.length=k:=by rw [hl,rF];simp;omega
  rw [hll] at hpi ⊢;have hpl:=(ahm.1 hpi).1;have hol:=(ahm.1 ho2).1;rw [ahy] at hpl hol;replace hlen:=hid hlen;replace hl:=hid hl;replace hpl:=hid hpl;replace hol:=hid hol;by_cases hkl:k<r.length
  ·have g3:(k:Int)<(r.length:Int):=by omega
   have g4:=ace k (by omega);have e3:=fW hkl;have e4:k * 2+2<=(aN r).length:=by rw [cr];omega
   obtain ⟨⟨ty,va⟩,ha⟩:∃ a,r.getD k ([],[])=a:=⟨_,rfl⟩;have ham:(ty,va)∈r:=by rw [<- ha];simp [hkl]
   have hnew:=Xk hkl;rw [ha] at e3 hnew;simp only [oC] at e3;have hva:=hrl2.out _ ham;simp only at hva;have hva2:(va.length:Int)<=100000:=by omega
   have hty2:(ty.length:Int)<=100000:=by omega
   obtain ⟨fx,hfx⟩:=aaR (aH ty);obtain ⟨px,hpx⟩:=aaR (bP va);have hfl:fx.length<=10000:=by rw [<- hfx];simp [aH];omega
   have hpxl:px.length<=10000:=by rw [<- hpx];have:=K3 va;omega
   have hpav:uv (ty,va)=(fx,px):=by simp [uv,hfx,hpx]
   rw [hpav,<- hl.out] at hnew;replace hnew:=hid hnew;clear ha ham hpav
   iterate 24 first
    | refine cP ?_
    | (first|refine bY (by kernel_rfl) ?_|refine bj (by kernel_rfl) ?_|refine bm ?_|refine fy ?_|refine cT (fun _=>?_)|refine a8 ?_|refine b9 ?_|refine mN hty2 ?_|refine SW hva2 ?_|refine cA (mN hty2 ⟨rfl,rfl⟩) (mN hty2 ⟨rfl,rfl⟩) ?_|refine cA (SW hva2 ⟨rfl,rfl⟩) (SW hva2 ⟨rfl,rfl⟩) ?_|refine bf (mN hty2 ⟨rfl,rfl⟩) ?_|refine bf (SW hva2 ⟨rfl,rfl⟩) ?_)
      simp (config:={ maxSteps:=2000000 }) only [Kon,push_cast,reduceIte,Nat.reduceEqDiff,Nat.reduceAdd,Nat.reduceMul,Nat.reduceSub,Nat.reduceLT,Nat.reduceLeDiff,Int.reduceLT,Int.reduceLE,Int.reduceAdd,Int.reduceSub,Int.reduceNeg,Int.reduceToNat,Int.reduceEq,reduceCtorEq, *]
    | (first|refine bU (by kernel_rfl) ?_|refine bT ?_|refine bZ ?_|refine cY (a7 ?_))
      simp only [push_cast,reduceIte,Nat.reduceEqDiff,Nat.reduceAdd,Nat.reduceMul,Nat.reduceSub,Nat.reduceLT,Nat.reduceLeDiff,Int.reduceLT,Int.reduceLE,Int.reduceAdd,Int.reduceSub,Int.reduceNeg,Int.reduceToNat,Int.reduceEq,reduceCtorEq, *]
    | exact cU
    | first|apply cV|apply bV|apply cW|apply bW|apply cX|apply bX
    | refine br ?_
    | first|refine bp rfl ?_|refine bq rfl ?_|refine aW rfl ?_ ?_|refine bz rfl (fun _=>?_) (fun _=>?_)|refine bw rfl (fun _=>?_) (fun _=>?_)
    | ((first|refine aV (fun _=>?_) (fun _=>?_)|refine a6 (fun _=>?_) (fun _=>?_))<;>try simp (config:={ maxSteps:=2000000 }) only [Kon,push_cast,reduceIte,Nat.reduceEqDiff,Nat.reduceAdd,Nat.reduceMul,Nat.reduceSub,Nat.reduceLT,Nat.reduceLeDiff,Int.reduceLT,Int.reduceLE,Int.reduceAdd,Int.reduceSub,Int.reduceNeg,Int.reduceToNat,Int.reduceEq,reduceCtorEq, *])
    | refine And.intro trivial ?_
    | refine And.intro (by omega) ?_
    | refine bA rfl (fun _=>?_) (fun _=>?_)
    | refine And.intro ?_ ?_
   have hnp:l.getD k ([],[])=([],[]):=by simp [hll]
   obtain ⟨wx,hwx⟩:=aaR (fY px);have hkx:yD (fx,px)=fx++61::wx:=by simp [avT,hwx]
   have hwxl:wx.length<=30000:=by rw [<- hwx];have:=KY px;omega
   have hpx2:px.length<=100000:=by omega
   replace hkx:=hid hkx;clear hnp;refine uq (fun T2 L2=>∃ z:Nat,z<=k/\Hid (z=yQ l (fx,px) k)/\T2=[(10,.int .i64 (z:Int)),(9,.ptr (L.length+(Z.length+1)) 0),(6,.gsl (aN l) k p 2),(20,.int .i64 (k:Int)),(19,.int .i64 r.length),(18,aw r),(14,.int .i64 (i:Int)),(13,.int .i64 d.length),(12,.sl (d.map aw) d.length cap),(3,.gsl (out.map aw) i L.length 1)]/\L2=L++(Z++[.cells [.str ty,.str va],.cells [.str fx,.str px]])) ?_ ?_
   ·refine wk ?_;refine ah (fun n T' L'=>∃ q:Nat,q=n/\q<=k/\Hid (yQ l (fx,px) q=yQ l (fx,px) k)/\T'=[(10,.int .i64 (q:Int)),(9,.ptr (L.length+(Z.length+1)) 0),(6,.gsl (aN l) k p 2),(20,.int .i64 (k:Int)),(19,.int .i64 r.length),(18,aw r),(14,.int .i64 (i:Int)),(13,.int .i64 d.length),(12,.sl (d.map aw) d.length cap),(3,.gsl (out.map aw) i L.length 1)]/\L'=L++(Z++[.cells [.str ty,.str va],.cells [.str fx,.str px]])) (CutS (b:=by simp)) ⟨k,rfl,ahn _,hid rfl,rfl,rfl⟩ ?_;rintro _ _ _ ⟨q,rfl,hqk,hq,rfl,rfl⟩;rcases q with _|q
    ·have h0:=hid hq.out.symm;have k0:¬ (0:Int)<((0:Nat):Int):=by omega
     have kk1:=@hid _ (fun L K=>mu hpx2 (L:=L) (K:=K));refine wk ?_;exact gV _ _ (CutL (b:=by simp)) ⟨0,by omega,hid h0.out.symm,rfl,rfl⟩
    ·have k0:(0:Int)<((q+1:Nat):Int):=by omega
     have k1:IntKind.i64.wrap (((q+1:Nat):Int) - 1)=(q:Int):=by rw [ac (by omega) (by omega)];omega
     have k4:(q:Int)<(k:Int):=by omega
     have e5:=fW (r:=l) (k:=q) (by omega);have e6:q * 2+2<=(aN l).length:=by rw [cr];omega
     obtain ⟨⟨t1,v1⟩,hav⟩:∃ a,l.getD q ([],[])=a:=⟨_,rfl⟩;rw [hav] at e5;simp only [oC] at e5;obtain ⟨e7,e8⟩:=aaC e5;obtain ⟨w1,hw1⟩:=aaR (fY v1);have hv1:=hlen.out (t1,v1) (by rw [<- hav];simp [show q<l.length by omega]);simp only at hv1;have hv1':v1.length<=100000:=by omega
     have hw1l:w1.length<=30000:=by rw [<- hw1];have:=KY v1;omega
     have hk1:yD (l.getD q ([],[]))=t1++61::w1:=by rw [hav];simp [avT,hw1]
     have c1:((t1.length+1:Nat):Int)<=9223372036854775807:=by omega
     have c2:((t1.length+1+w1.length:Nat):Int)<=9223372036854775807:=by omega
     have c3:((fx.length+1:Nat):Int)<=9223372036854775807:=by omega
     have c4:((fx.length+1+wx.length:Nat):Int)<=9223372036854775807:=by omega
     simp only [Int.natCast_add,Int.cast_ofNat_Int] at c1 c2 c3 c4;replace hk1:=hid hk1;simp only [Int.natCast_add,Int.cast_ofNat_Int] at k0 k1;have hq':=hid hq.out;clear hq hav;by_cases hc:yD (fx,px)<yD (l.getD q ([],[]))
     ·have hb:(Op.bytesLess (t1++61::w1) (fx++61::wx) || decide (t1++61::w1=fx++61::wx))=false:=by
       rw [hkx.out,hk1.out] at hc;rw [bytesLess_eq];simp only [ajw,decide_eq_false_iff_not];exact ⟨fun e=>akc _ (List.lt_trans e hc),fun e=>by rw [e] at hc;exact akc _ hc⟩
      have hq2:yQ l (fx,px) q=yQ l (fx,px) k:=by rw [<- hq'.out,yQ,if_pos hc]
      replace hq2:=hid hq2;clear hc;have kk1:=@hid _ (fun L K=>mu hpx2 (L:=L) (K:=K));have kk2:=@hid _ (fun L K=>mu hv1' (L:=L) (K:=K));refine wk ?_;exact aq _ _ _ (by omega) (CutL (b:=by simp)) ⟨q,rfl,by omega,hq2,rfl,rfl⟩
     ·have hb:(Op.bytesLess (t1++61::w1) (fx++61::wx) || decide (t1++61::w1=fx++61::wx))=true:=by
       rw [hkx.out,hk1.out] at hc;rw [bytesLess_eq];simp only [aic,decide_eq_true_eq];have:=ajO.1 hc;rcases List.le_iff_lt_or_eq.1 this with e|e
       ·exact .inl e
       ·exact .inr e
      have hq2:q+1=yQ l (fx,px) k:=by rw [<- hq'.out,yQ,if_neg hc]
      replace hq2:=hid hq2;clear hc;have kk1:=@hid _ (fun L K=>mu hpx2 (L:=L) (K:=K));have kk2:=@hid _ (fun L K=>mu hv1' (L:=L) (K:=K));refine wk ?_;exact gV _ _ (CutL (b:=by simp)) ⟨q+1,by omega,hq2,rfl,rfl⟩
   rintro _ _ ⟨z,hzk,hz,rfl,rfl⟩ -;have z0:(0:Int)<=(z:Int):=by omega
   have z1:(z:Int)<=(k:Int):=by omega
   have s1:(aN l).take (z * 2)=aN (l.take z):=Rm;have s2:((aN l).drop (z * 2)).take ((k - z) * 2)=aN (l.drop z):=by
    rw [abF,ah0];rw [cr,aik,hll];omega
   have s3:AV.frzL (aN (l.take z))=aN (l.take z):=fV _;have s4:AV.frzL (aN (l.drop z))=aN (l.drop z):=fV _;have s5:(aN (l.take z)).length=z * 2:=by rw [cr,ail];omega
   have s6:(aN (l.drop z)).length=(k - z) * 2:=by rw [cr,aik,hll]
   have s7:z+1+(k - z)=k+1:=by omega
   have s8:=UL (l.take z);have s9:=UL (l.drop z);have q1:z * 32<=140737488355328:=by omega
   have q2:z<=140737488355328:=by omega
   have q3:(z+1) * 32<=140737488355328:=by omega
   have q4:z+1<=140737488355328:=by omega
   have q5:(k+1) * 32<=140737488355328:=by omega
   have q6:k+1<=140737488355328:=by omega
   iterate 3 first
    | refine cP ?_
    | (first|refine bY (by kernel_rfl) ?_|refine bj (by kernel_rfl) ?_|refine bm ?_|refine fy ?_|refine cT (fun _=>?_)|refine a8 ?_|refine b9 ?_)
      simp (config:={ maxSteps:=2000000 }) only [Kon,push_cast,reduceIte,Nat.reduceEqDiff,Nat.reduceAdd,Nat.reduceMul,Nat.reduceSub,Nat.reduceLT,Nat.reduceLeDiff,Int.reduceLT,Int.reduceLE,Int.reduceAdd,Int.reduceSub,Int.reduceNeg,Int.reduceToNat,Int.reduceEq,reduceCtorEq, *]
    | (first|refine bU (by kernel_rfl) ?_|refine bT ?_|refine bZ ?_|refine cY (a7 ?_))
      simp only [push_cast,reduceIte,Nat.reduceEqDiff,Nat.reduceAdd,Nat.reduceMul,Nat.reduceSub,Nat.reduceLT,Nat.reduceLeDiff,Int.reduceLT,Int.reduceLE,Int.reduceAdd,Int.reduceSub,Int.reduceNeg,Int.reduceToNat,Int.reduceEq,reduceCtorEq, *]
    | exact cU
    | first|apply cV|apply bV|apply cW|apply bW|apply cX|apply bX
    | refine br ?_
    | first|refine bp rfl ?_|refine bq rfl ?_|refine aW rfl ?_ ?_|refine bz rfl (fun _=>?_) (fun _=>?_)|refine bw rfl (fun _=>?_) (fun _=>?_)
    | ((first|refine aV (fun _=>?_) (fun _=>?_)|refine a6 (fun _=>?_) (fun _=>?_))<;>try simp (config:={ maxSteps:=2000000 }) only [Kon,push_cast,reduceIte,Nat.reduceEqDiff,Nat.reduceAdd,Nat.reduceMul,Nat.reduceSub,Nat.reduceLT,Nat.reduceLeDiff,Int.reduceLT,Int.reduceLE,Int.reduceAdd,Int.reduceSub,Int.reduceNeg,Int.reduceToNat,Int.reduceEq,reduceCtorEq, *])
    | refine And.intro trivial ?_
    | refine And.intro (by omega) ?_
    | refine bA rfl (fun _=>?_) (fun _=>?_)
    | refine And.intro ?_ ?_
   refine bi (l:=[]) (n:=0) 11 2 rfl (ahQ 2).symm ?_;refine wk ?_;have hcell:aN (l.take z)++AV.str fx::AV.str px::aN (l.drop z)=aN (KC l (fx,px)):=by
    rw [KC,hll,<- hz.out,VT,VT];simp [aN,oC]
   have hlen2:(KC l (fx,px)).length=k+1:=by rw [XJ,hll]
   rw [hcell];refine aq _ _ _ (by omega) (CutL (b:=?_)) ⟨k+1,KC l (fx,px),_,_,rfl,hkl,hid ⟨hnew.out.symm,.inr ⟨L.length+(Z.length+2),by omega,by rw [hlen2],?_⟩,aeH hlen.out ⟨hfl,hpxl⟩⟩,?_,?_,rfl,rfl⟩
   ·have:=hXZ2.out;simp;omega
   ·rw [qi,qi,hlen2];rfl
   ·rw [<- ahz,ahq (ahm.1 ho2).1];exact ho2
   ·have:=hXZ2.out;simp;omega
  ·have hke:k=r.length:=by omega
   subst hke;have g3:¬ (r.length:Int)<(r.length:Int):=by omega
   have q3:(i+1) * 24<=140737488355328:=by omega
   have q4:i+1<=140737488355328:=by omega
   have e5:AV.frzL (aN l)=aN l:=fV _;have e6:out.map aw++[AV.sl (aN l) r.length none]=(out++[l]).map aw:=by
    rw [ahN];simp [hll]
   have e7:out++[l]=(d.take (i+1)).map gG:=by
    rw [htk.out,ahN,<- hout.out,hl.out,ahA];rfl
   have s4:∀ (W:List Blk) A,(L++W).set L.length A=L++W.set 0 A:=fun W A=>by rw [ahP _ _ (ahn _),ajb]
   have f1:(L++Z.set 0 (.spare (i+1) 1))[L.length]?=some (.spare (i+1) 1):=by
    rw [<- s4,ahU,if_pos rfl,if_pos (ahm.1 ho2).1]
   replace e7:=hid e7;replace f1:=hid f1;replace e6:=hid e6;refine wk ?_;rw [e6.out];refine aq _ _ _ (by omega) (CutL (b:=?_)) ⟨i+1,out++[l],_,rfl,hlt,e7,f1.out,rfl,rfl⟩;have:=hol.out;simp;omega
 ·have hke:i=d.length:=by omega
  subst hke;have g1:¬ (d.length:Int)<(d.length:Int):=by omega
  have e:=hout.out;rw [ahA] at e;have h':=h.out;rw [show (gf d)=out from e.symm] at h';replace h':=hid h';clear hout e;refine wk ?_;refine ay (ab ?_ ?_)
  ·simp only [AV.frz,AV.frzL,aO,AV.refs,AV.refsL,cQ,ajL]
  ·simp only [AV.frz,AV.frzL,aO];exact h'.out
theorem Oa (d:List Rdn):(gf d).length=d.length:=by simp [gf]
theorem TF {r:Rdn} (h:∀ a∈r,a.1.length<=10000/\a.2.length<=10000):∀ a∈gG r,a.1.length<=10000/\a.2.length<=10000:=fun a ha=>by
 have hp:=(QE r [] List.Pairwise.nil).2;have hm:=hp.mem_iff.1 ha;rw [ah3] at hm;obtain ⟨b,hb,rfl⟩:=ahs.1 hm;obtain ⟨h1,h2⟩:=h b hb;have h3:=K3 b.2;simp only [uv,aH,ahF];omega
theorem OT {d:List Rdn} {cap:Option Nat} (hn:d.length<=1100000) (hr:∀ r∈d,r.length<=1100000/\∀ a∈r,(a.1.length:Int)<=140737488351232) (h:K (N4 (Qw d)) L) :
  afB 86 [.sl (d.map aw) d.length cap] L K:=by
 unfold Qw N4 at h;refine acg SH ?_;refine jT hn hr ?_;unfold N4;obtain ⟨⟨ps,pe⟩,hp⟩:∃ p,prS d=p:=⟨_,rfl⟩;rw [hp] at h ⊢;simp only at h ⊢;by_cases h0:pe=0
 ·subst h0;obtain ⟨q1,q2⟩:=TD (by rw [hp]);rw [if_neg (by simp)] at h;have hb:∀ r∈d,r.length<=1000/\∀ a∈r,a.1.length<=10000/\a.2.length<=10000:=fun r hr=>⟨by have:=(q2 r hr).1;omega,fun a ha=>⟨by have:=((q2 r hr).2 a ha).1;omega,by have:=((q2 r hr).2 a ha).2;omega⟩⟩
  have hb2:∀ r∈gf d,r.length<=1000/\∀ a∈r,a.1.length<=10000/\a.2.length<=10000:=fun r hr=>by
   obtain ⟨r0,hr0,rfl⟩:=ahs.1 hr;exact ⟨by rw [rF];exact (hb r0 hr0).1,TF (hb r0 hr0).2⟩
  have hpl:=hid (Oa d);rw [<- yR] at h;replace h:=hid h;replace hb:=hid hb;replace hb2:=hid hb2;clear hp hr q2;refine sk ?_;have kk1:=@hid _ (fun L K=>W7 (cap:=cap) (by omega) hb.out (L:=L) (K:=K));refine wk ?_;rw [<- hpl.out];refine SV (by rw [hpl.out];omega) hb2.out ?_;refine sk ?_;refine wk ?_;exact af h.out
 ·rw [if_pos h0] at h;replace h:=hid h;clear hp hr;refine sk ?_;refine wk ?_;exact af h.out
theorem TI:∀ (f:Nat) (out:List Rdn) (now:Rdn) (s:List UInt8),(∀ a∈now,a.1.length<=32)->(∀ r∈out,∀ a∈r,a.1.length<=32)->∀ r∈(rV f out now s).1,∀ a∈r,a.1.length<=32
 | 0,_,_,_,_,_=>by simp [rV]
 | f+1,out,now,s,h1,h2=>by
   rw [rV];split
   ·simp
   split
   ·simp
   split
   ·simp
   rename_i hty
   have hty':=uQ (by simpa using hty);have hrow:∀ v,∀ a∈now++[(_,v)],a.1.length<=32:=fun v a ha=>by
    rcases ahr.1 ha with h|h
    ·exact h1 a h
    ·rw [ahI.1 h];exact hty'
   have hout:∀ v,∀ r∈out++[now++[(_,v)]],∀ a∈r,a.1.length<=32:=fun v r hr=>by
    rcases ahr.1 hr with h|h
    ·exact h2 r h
    ·rw [ahI.1 h];exact hrow v
   split
   ·simp
   split
   ·simp
   split
   ·simp
   split
   ·exact hout _
   split
   ·exact TI f _ _ _ (by simp) (hout _)
   ·exact TI f _ _ _ (hrow _) h2
theorem TH (s:List UInt8):∀ r∈(fP s).1,∀ a∈r,a.1.length<=32:=by
 unfold fP;split
 ·simp
 split
 ·simp
 ·exact TI _ _ _ _ (by simp) (by simp)
theorem ZA (v:List UInt8) (rest:List UInt8) (hr:rest=[]\/∃ c t,rest=c::t/\(c=44\/c=43)):∀ (s b:List UInt8) (bl:Bool),b++s=v->(s=[]->bl=false)->gK b bl (wrL v.length b.length s++rest)=some (v,rest,true)
 | [],b,bl,e,h=>by
   rw [ahO] at e;subst e;simp only [wrL,ah3];rw [h rfl];rcases hr with rfl|⟨c,t,rfl,hc⟩
   ·exact mT
   ·exact qm hc
 | c::s,b,bl,e,h=>by
   have ih:=fun bl' (h':s=[]->bl'=false)=>ZA v rest hr s (b++[c]) bl' (by rw [<- e];simp) h'
   have hbl:(b++[c]).length=b.length+1:=by simp
   rw [hbl] at ih;have hvl:v.length=b.length+s.length+1:=by rw [<- e];simp;omega
   rw [wrL,ahz];unfold wrB;split
   ·rename_i hc
    subst hc;show gK b bl (92::48::48::(wrL v.length (b.length+1) s++rest))=_
    rw [GY (by decide)];exact ih false (fun _=>rfl)
   ·rename_i hc
    split
    ·rename_i h2
     show gK b bl (92::c::(wrL v.length (b.length+1) s++rest))=_
     rw [uP]
     ·exact ih false (fun _=>rfl)
     ·rcases h2 with ⟨_,rfl|rfl⟩|⟨_,rfl⟩|h2
      ·decide
      ·decide
      ·decide
      ·simp only [ahR,air,or_false] at h2 ⊢;rcases h2 with rfl|rfl|rfl|rfl|rfl|rfl|rfl<;>decide
    ·rename_i h2
     show gK b bl (c::(wrL v.length (b.length+1) s++rest))=_
     have h5:¬ c∈([34,43,44,59,60,62,92]:List UInt8):=fun q=>h2 (.inr (.inr q))
     simp only [ahR,air,or_false,not_or] at h5;rw [mt (fun q=>q.elim (fun q=>h5.2.2.1 q) (fun q=>h5.2.1 q)) (fun q=>h5.2.2.2.2.2.2 q)];rw [if_neg]
     ·refine ih _ (fun hs=>?_);rw [decide_eq_false_iff_not];intro q;refine h2 (.inr (.inl ⟨?_,q⟩));rw [hvl,hs];simp
     ·rintro (q|q|⟨q1,q2⟩)
      ·exact hc q
      ·simp only [ahR,air,or_false] at q;rcases q with q|q|q|q
       ·exact h5.1 q
       ·exact h5.2.2.2.1 q
       ·exact h5.2.2.2.2.1 q
       ·exact h5.2.2.2.2.2.1 q
      ·exact h2 (.inl ⟨by rw [q1];rfl,q2⟩)
theorem N3 (v:List UInt8) {rest:List UInt8} (hr:rest=[]\/∃ c t,rest=c::t/\(c=44\/c=43)):gK [] false (fY v++rest)=some (v,rest,true) :=
 ZA v rest hr v [] false rfl (fun _=>rfl)
theorem XZ:∀ (t r:List UInt8),(∀ c∈t,c≠61)->lu (t++61::r)=some (t,r)
 | [],r,_=>by simp [lu]
 | c::t,r,h=>by
   rw [aig,lu,if_neg (h c (by simp)),XZ t r (fun x hx=>h x (by simp [hx]))]
theorem ab9 {t:List UInt8} (h:ku t=true):∀ c∈t,c≠61:=by
 intro c hc e;simp only [ku,aht,ahC] at h;have:=h.2 c hc;rw [e] at this;exact absurd this (by decide)
theorem TY (x sep:List UInt8) (xs:List (List UInt8)):Lib.join (x::xs) sep=x++xs.flatMap (fun y=>sep++y):=by
 induction xs generalizing x with
 | nil=>simp [Lib.join,List.intercalate]
 | cons y l ih =>
   have e:Lib.join (x::y::l) sep=x++(sep++Lib.join (y::l) sep):=by simp [Lib.join,List.intercalate]
   rw [e,ih];simp
def mJ (t:Rdn):List UInt8:=t.flatMap fun a=>43::avT false a
def mz (d:List Rdn):List UInt8:=d.flatMap fun r=>44::cn false r
theorem Vj (a:Ava) (t:Rdn):cn false (a::t)=avT false a++mJ t:=by
 simp only [cn,ahJ,if_false,ahH,TY,mJ];simp [List.flatMap_map]
theorem aaB (r:Rdn) (d:List Rdn):aQ false (r::d)=cn false r++mz d:=by
 simp only [aQ,ahH,TY,mz];simp [List.flatMap_map]
theorem TJ:∀ (f:Nat) (out:List Rdn) (now:Rdn) (a:Ava) (t:Rdn) (d:List Rdn),(avT false a++(mJ t++mz d)).length<f->out.length<32->dl now (a::t)=0->jH (out.length+1) d=0 ->
  rV f out now (avT false a++(mJ t++mz d))=(out++[now++a::t]++d,0)
 | 0,_,_,_,_,_,h,_,_,_=>by omega
 | f+1,out,now,(ty,v),t,d,hf,ho,hc,hd=>by
   unfold dl at hc;split at hc
   ·cases hc
   rename_i hn8
   split at hc
   ·cases hc
   rename_i hty
   split at hc
   ·cases hc
   rename_i hha
   simp only [Bool.not_eq_false] at hty;have e1:avT false (ty,v)++(mJ t++mz d)=ty++61::(fY v++(mJ t++mz d)):=by simp [avT]
   rw [e1] at hf ⊢;rw [rV,if_neg (by omega),XZ _ _ (ab9 hty)];simp only;rw [if_neg (by simp [hty]),if_neg hha];rcases t with _|⟨a2,t⟩
   ·rcases d with _|⟨r,d⟩
    ·rw [show mJ []++mz []=([]:List UInt8) from rfl];rw [N3 v (.inl rfl)];simp
    ·rw [show mJ []++mz (r::d)=44::(cn false r++mz d) by simp [mJ,mz]] at hf ⊢;rw [N3 v (.inr ⟨44,_,rfl,.inl rfl⟩)];simp only [aiy,if_false,if_true];unfold jH at hd;split at hd
     ·cases hd
     rename_i h32
     split at hd
     ·cases hd
     rename_i hr0
     split at hd
     ·rename_i h5;exact absurd hd h5
     rename_i h5
     simp only [ne_eq,ajP] at h5;rcases r with _|⟨a2,t⟩
     ·exact absurd rfl hr0
     have ih:=TJ f (out++[now++[(ty,v)]]) [] a2 t d;rw [Vj,ahz] at hf ⊢;rw [ih (by simp only [ahy,ahD] at hf ⊢;omega) (by simp;omega) h5 (by simpa using hd)];simp
   ·rw [show mJ (a2::t)++mz d=43::(avT false a2++(mJ t++mz d)) by simp [mJ]] at hf ⊢;rw [N3 v (.inr ⟨43,_,rfl,.inr rfl⟩)];simp only [aiy,if_false,show ¬ ((43:UInt8)=44) by decide];have ih:=TJ f out (now++[(ty,v)]) a2 t d;rw [ih (by simp only [ahy,ahD] at hf ⊢;omega) ho hc hd];simp
theorem Xn {d:List Rdn} (h:jH 0 d=0) (hl:(aQ false d).length<=4096):fP (aQ false d)=(d,0):=by
 unfold fP;rw [if_neg (by omega)];rcases d with _|⟨r,d⟩
 ·simp [aQ,Lib.join]
 unfold jH at h;split at h
 ·cases h
 split at h
 ·cases h
 rename_i hr0
 split at h
 ·rename_i h5;exact absurd h h5
 rename_i h5
 simp only [ne_eq,ajP] at h5;rcases r with _|⟨a,t⟩
 ·exact absurd rfl hr0
 rw [aaB,Vj,ahz];rw [if_neg (by simp [avT])];have:=TJ ((avT false a++(mJ t++mz d)).length+1) [] [] a t d (by omega) (by simp) h5 h;rw [this];simp
end Go.Proofs.YtobihfefmlgaoaaGreat.Av
