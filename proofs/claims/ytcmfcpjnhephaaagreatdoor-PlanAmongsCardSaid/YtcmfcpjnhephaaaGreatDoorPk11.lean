/- Joined texts of the walk, made small by a program. -/
import Derived.Test.YtcmfcpjnhephaaaGreatDoorPk8
import Derived.Test.YtcmfcpjnhephaaaGreatDoorPk10
import Derived.Test.YtcmfcpjnhephaaaGreatDoorPk5
import Derived.Sort.Walk0
import Derived.Test.YtcmfcpjnhephaaaGreatDoorPk9
import Derived.Lib.ValidLaws
set_option linter.unusedSimpArgs false
set_option linter.unusedVariables false
namespace Go.Proofs.YtcmfcpjnhephaaaGreatDoor.Av
open Go
variable {d:List Rdn}{cap:Option Nat}{r:Rdn}{s v:List UInt8}
variable {L:List Blk}{K:alc}
set_option maxHeartbeats 8000000
set_option maxRecDepth 100000
theorem SD(sep x:List UInt8):∀xs:List (List UInt8),Lib.join (xs++[x]) sep=if xs=[]then x else Lib.join xs sep++sep++x
 |[]=>by simp[Lib.join,List.intercalate]
 |[y]=>by simp[Lib.join,List.intercalate]
 |y::z::l=>by have ih:=SD sep x (z::l);rw[if_neg aoA]at ih⊢;have e1:Lib.join (y::z::l++[x]) sep=y++(sep++Lib.join (z::l++[x]) sep):=(by simp[Lib.join,List.intercalate]);have e2:Lib.join (y::z::l) sep=y++(sep++Lib.join (z::l) sep):=(by simp[Lib.join,List.intercalate]);rw[e1,ih,e2];simp
theorem Yk(hn:d.length<=1000)(hr:∀r∈d,r.length<=1000/\∀a∈r,a.1.length<=10000/\a.2.length<=10000)(h:K (.str (ee false d)) L):
  alb 168 [.sl (d.map cC) d.length cap] L K:=by
 replace h:=hid h;have hat:=hid (λk=>@PD d k);replace hr:=hid hr;refine ala Ux ?_;refine ah (λn T' L'=>∃(i:Nat) (acc:List UInt8) (Z:List Blk),n=d.length-i/\i<=d.length/\acc.length<=i*50000000/\Hid (acc=Lib.join ((d.take i).map (dw false)) [44])/\T'=[(10,.int .i64 (i:Int)),(9,.int .i64 d.length),(8,.sl (d.map cC) d.length cap),(3,.str acc)]/\L'=L++Z) aoD ⟨0,[],[],rfl,ali _,aoA,hid (by simp[Lib.join]),rfl,aoA⟩ ?_;rintro _ _ _ ⟨i,acc,X,rfl,hi,hal,hacc,rfl,rfl⟩;by_cases hlt:i<d.length
 .have g1:(i:Int)<(d.length:Int):=aoz;have g2:=ak9 i aoz;have e2:=hat.o i hlt;have hrm:d.getD i []∈d:=(by rw[alD,alu hlt];exact al6 _);have hrl:=hr.o _ hrm;obtain⟨r,hri⟩:=ak7 (d.getD i []);have htk:d.take (i+1)=d.take i++[r]:=(by rw[aly hlt,<- hri];simp[hlt]);rw[hri]at e2 hrl;clear hri hrm;obtain⟨hrl1,hrl2⟩:=hrl;replace hrl2:=hid hrl2;obtain⟨B,hB⟩:=ak7 ((if 0<i then acc++[44]else acc));have hBl:B.length<=i*50000000+1:=by rw[<- hB];split;exact alF (Nat.le_of_eq aoA) (Nat.add_le_add_right hal 1);exact alF hal (aoh _ _)
  have hfin:B++dw false r=Lib.join ((d.take (i+1)).map (dw false)) [44]:=by rw[htk,alM,List.map_singleton,SD,<- hacc.o,<- hB];by_cases h0:0<i;rw[if_pos h0,if_neg];intro e;rcases List.take_eq_nil_iff.1 (aoe.1 e)with e|e;omega;rw[e]at hlt;simp at hlt;have:i=0:=aoz;subst this;simp at hal;simp[hal]
  replace hfin:=hid hfin;replace hB:=hid hB;replace htk:=hid htk;have hb0:(i:Int)<=1000:=aoz;have hab:((acc.length+1:Nat):Int)<=9223372036854775807:=aoz
  iterate 12 first
   |refine bu ?_
   | (first|refine bj aoB ?_|refine aJ aoB ?_|refine aM ?_|refine cN ?_|refine bE (fun _=>?_)|refine aC ?_|refine bo ?_)
     simp(config:={maxSteps:=2000000}) only[Kon,push_cast,reduceIte,Nat.reduceEqDiff,Nat.reduceAdd,Nat.reduceMul,Nat.reduceSub,Nat.reduceLT,Nat.reduceLeDiff,Int.reduceLT,Int.reduceLE,Int.reduceAdd,Int.reduceSub,Int.reduceNeg,Int.reduceToNat,Int.reduceEq,reduceCtorEq, *]
   | (first|refine a8 aoB ?_|refine ba ?_|refine aL ?_|refine bm ?_|refine bJ (aB ?_))
     simp only[push_cast,reduceIte,Nat.reduceEqDiff,Nat.reduceAdd,Nat.reduceMul,Nat.reduceSub,Nat.reduceLT,Nat.reduceLeDiff,Int.reduceLT,Int.reduceLE,Int.reduceAdd,Int.reduceSub,Int.reduceNeg,Int.reduceToNat,Int.reduceEq,reduceCtorEq, *]
   |exact bF
   |first|apply bG|apply be|apply bH|apply bf|apply bI|apply bg
   |refine aP ?_
   |refine aK ?_
   |first|refine aN rfl ?_|refine aO rfl ?_|refine ax rfl ?_ ?_|refine aT rfl (λ_=>?_) (λ_=>?_)|refine aS rfl (λ_=>?_) (λ_=>?_)
   |((first|refine au (λ_=>?_) (λ_=>?_)|refine aA (λ_=>?_) (λ_=>?_))<;>try simp(config:={maxSteps:=2000000}) only[Kon,push_cast,reduceIte,Nat.reduceEqDiff,Nat.reduceAdd,Nat.reduceMul,Nat.reduceSub,Nat.reduceLT,Nat.reduceLeDiff,Int.reduceLT,Int.reduceLE,Int.reduceAdd,Int.reduceSub,Int.reduceNeg,Int.reduceToNat,Int.reduceEq,reduceCtorEq, *])
   |refine And.intro trivial ?_
   |refine And.intro aoz ?_
   |refine aY rfl (λ_=>?_) (λ_=>?_)
   |refine And.intro ?_ ?_
  refine UX (λT2 L2=>T2=[(3,.str B),(5,cC r),(10,.int .i64 (i:Int)),(9,.int .i64 d.length),(8,.sl (d.map cC) d.length cap)]/\L2=L++X) ?_ ?_;by_cases h0:0<i;have k0:(0:Int)<(i:Int):=aoz;have hB':=hB.o;rw[if_pos h0]at hB';subst hB';clear h0;refine wk ?_;exact tO _ _ aoC ⟨rfl,rfl⟩;have k0:¬(0:Int)<(i:Int):=aoz;have hB':=hB.o;rw[if_neg h0]at hB';subst hB';clear h0;refine wk ?_;exact tO _ _ aoC ⟨rfl,rfl⟩;rintro _ _ ⟨rfl,rfl⟩ -;refine wk ?_;refine ah (λn T' L'=>∃(k:Nat) (acc2:List UInt8) (Z:List Blk),n=r.length-k/\k<=r.length/\acc2.length<=i*50000000+1+k*40002/\X.length<=Z.length/\Hid (acc2=B++Lib.join ((r.take k).map (avT false)) [43])/\T'=[(21,.int .i64 (k:Int)),(20,.int .i64 r.length),(19,cC r),(10,.int .i64 (i:Int)),(9,.int .i64 d.length),(8,.sl (d.map cC) d.length cap),(3,.str acc2)]/\L'=L++Z) aoD ⟨0,B,X,rfl,ali _,aoz,ale _,hid (by simp[Lib.join]),rfl,rfl⟩ ?_;rintro _ _ _ ⟨k,acc2,Z,rfl,hk,hal2,hXZ,hacc2,rfl,rfl⟩;replace hXZ:=hid hXZ;by_cases hkl:k<r.length
  .have g3:(k:Int)<(r.length:Int):=aoz;have g4:=ak9 k aoz;have e3:=gf hkl;have e4:k*2+2<=(aV r).length:=(by rw[dM];omega);obtain⟨⟨ty,va⟩,ha⟩:∃a,r.getD k ([],[])=a:=⟨_,rfl⟩;have ham:(ty,va)∈r:=(by rw[<- ha];simp[hkl]);have htk2:r.take (k+1)=r.take k++[(ty,va)]:=(by rw[aly hkl,<- ha];simp[hkl]);rw[ha]at e3;simp only[sf]at e3;have hva:=hrl2.o _ ham;simp only at hva;have hva':va.length<=100000:=aoz;have hwl:=Qc va.length va 0;obtain⟨wv,hwv⟩:=ak7 (eH va);have hwl2:wv.length<=30000:=(by rw[<- hwv];unfold eH;omega);have hty:=hva.1;obtain⟨B2,hB2⟩:=ak7 ((if 0<k then acc2++[43]else acc2));have hB2l:B2.length<=i*50000000+1+k*40002+1:=by rw[<- hB2];split;exact alF (Nat.le_of_eq aoA) (Nat.add_le_add_right hal2 1);exact alF hal2 (aoh _ _)
   have hnew:B2++ty++[61]++wv=B++Lib.join ((r.take (k+1)).map (avT false)) [43]:=by rw[htk2,alM,List.map_singleton,SD,<- hB2];have e0:avT false (ty,va)=ty++[61]++wv:=(by simp[avT,hwv]);by_cases h0:0<k;rw[if_pos h0,if_neg,hacc2.o,e0];simp;intro e;rcases List.take_eq_nil_iff.1 (aoe.1 e)with e|e;omega;rw[e]at hkl;simp at hkl;have:k=0:=aoz;subst this;have:=hacc2.o;simp only[amO,amH]at this;rw[if_neg aoz,this,e0];simp[Lib.join]
   replace hnew:=hid hnew;have hBn:(B2++ty++[61]++wv).length=B2.length+ty.length+1+wv.length:=(by simp only[alw,alp,al9]);have hBn2:(B2++ty++[61]++wv).length<=i*50000000+1+(k+1)*40002:=(by rw[hBn];omega);replace hB2:=hid hB2;clear hwl ha ham hva htk2;have hkb:k<1000:=aoz;have b0:((acc2.length+1:Nat):Int)<=9223372036854775807:=aoz;have b1:((B2.length+ty.length:Nat):Int)<=9223372036854775807:=aoz;have b2:((B2.length+ty.length+1:Nat):Int)<=9223372036854775807:=aoz;have b3:((B2.length+ty.length+1+wv.length:Nat):Int)<=9223372036854775807:=aoz;simp only[Int.natCast_add,Int.cast_ofNat_Int]at b0 b1 b2 b3
   iterate 12 first
    |refine bu ?_
    | (first|refine bj aoB ?_|refine aJ aoB ?_|refine aM ?_|refine cN ?_|refine bE (fun _=>?_)|refine aC ?_|refine bo ?_)
      simp(config:={maxSteps:=2000000}) only[Kon,push_cast,reduceIte,Nat.reduceEqDiff,Nat.reduceAdd,Nat.reduceMul,Nat.reduceSub,Nat.reduceLT,Nat.reduceLeDiff,Int.reduceLT,Int.reduceLE,Int.reduceAdd,Int.reduceSub,Int.reduceNeg,Int.reduceToNat,Int.reduceEq,reduceCtorEq, *]
    | (first|refine a8 aoB ?_|refine ba ?_|refine aL ?_|refine bm ?_|refine bJ (aB ?_))
      simp only[push_cast,reduceIte,Nat.reduceEqDiff,Nat.reduceAdd,Nat.reduceMul,Nat.reduceSub,Nat.reduceLT,Nat.reduceLeDiff,Int.reduceLT,Int.reduceLE,Int.reduceAdd,Int.reduceSub,Int.reduceNeg,Int.reduceToNat,Int.reduceEq,reduceCtorEq, *]
    |exact bF
    |first|apply bG|apply be|apply bH|apply bf|apply bI|apply bg
    |refine aP ?_
    |refine aK ?_
    |first|refine aN rfl ?_|refine aO rfl ?_|refine ax rfl ?_ ?_|refine aT rfl (λ_=>?_) (λ_=>?_)|refine aS rfl (λ_=>?_) (λ_=>?_)
    |((first|refine au (λ_=>?_) (λ_=>?_)|refine aA (λ_=>?_) (λ_=>?_))<;>try simp(config:={maxSteps:=2000000}) only[Kon,push_cast,reduceIte,Nat.reduceEqDiff,Nat.reduceAdd,Nat.reduceMul,Nat.reduceSub,Nat.reduceLT,Nat.reduceLeDiff,Int.reduceLT,Int.reduceLE,Int.reduceAdd,Int.reduceSub,Int.reduceNeg,Int.reduceToNat,Int.reduceEq,reduceCtorEq, *])
    |refine And.intro trivial ?_
    |refine And.intro aoz ?_
    |refine aY rfl (λ_=>?_) (λ_=>?_)
    |refine And.intro ?_ ?_
   refine UX (λT2 L2=>T2=[(3,.str B2),(7,.ptr (L.length+Z.length) 0),(21,.int .i64 (k:Int)),(20,.int .i64 r.length),(19,cC r),(10,.int .i64 (i:Int)),(9,.int .i64 d.length),(8,.sl (d.map cC) d.length cap)]/\L2=L++(Z++[.cells [.str ty,.str va]])) ?_ ?_;by_cases h0:0<k;have k0:(0:Int)<(k:Int):=aoz;have hB':=hB2.o;rw[if_pos h0]at hB';subst hB';clear h0;refine wk ?_;exact tO _ _ aoC ⟨rfl,rfl⟩;have k0:¬(0:Int)<(k:Int):=aoz;have hB':=hB2.o;rw[if_neg h0]at hB';subst hB';clear h0;refine wk ?_;exact tO _ _ aoC ⟨rfl,rfl⟩;rintro _ _ ⟨rfl,rfl⟩ -;have kk1:=@aoG _ _ _ _ (nR hva');refine wk ?_;exact aoE aoz (CutL (b:=by have:=hXZ.o;simp;omega)) ⟨k+1,B2++ty++[61]++wv,_,rfl,hkl,hBn2,by have:=hXZ.o;simp;omega,hnew,rfl,rfl⟩
  have hke:k=r.length:=aoz;subst hke;have g3:¬(r.length:Int)<(r.length:Int):=aoz;have hfl:acc2.length<=(i+1)*50000000:=by rw[anp];clear hal hBl hab;generalize i*50000000=M at hal2⊢;omega
  have e:=hacc2.o;rw[alt,show Lib.join (r.map (avT false)) [43]=dw false r by simp[dw],hfin.o]at e;replace e:=hid e;refine wk ?_;exact aoE aoz aoC ⟨i+1,acc2,_,rfl,hlt,hfl,e,rfl,rfl⟩
 have hke:i=d.length:=aoz;subst hke;have g1:¬(d.length:Int)<(d.length:Int):=aoz;have e:=hacc.o;rw[alt]at e;have h':=h.o;simp only[ee]at h';rw[<- e]at h';replace h':=hid h';clear hacc e;refine wk ?_;exact ae rfl h'.o
def Qk(r:Rdn):Nat:=(r.map λa=>min a.2.length 5000).sum
def Um(d:List Rdn):Nat:=(d.map Qk).sum
theorem aeE(n:Nat):∀(s:List UInt8) (i:Nat),s.length<=(wrL n i s).length
 |[],_=>aoA
 | c::s,i=>by
   have h1:=aeE n s (i+1);have h2:1<=(wrB i n c).length:=by
    unfold wrB;split
    .simp
    .split<;>simp
   simp only[wrL,alw,alp];omega
theorem YE(sep:List UInt8):∀xs:List (List UInt8),(xs.map List.length).sum<=(Lib.join xs sep).length
 |[]=>by simp[Lib.join]
 |[x]=>by simp[Lib.join,List.intercalate]
 |x::y::l=>by have h1:=YE sep (y::l);have e:Lib.join (x::y::l) sep=x++(sep++Lib.join (y::l) sep):=(by simp[Lib.join,List.intercalate]);rw[e];simp only[alr,amI,alw]at h1⊢;omega
theorem ahO(r:Rdn):Qk r<=(dw false r).length:=by
 have h1:Qk r<=((r.map (avT false)).map List.length).sum:=by
  induction r with
  |nil=>simp[Qk]
  | cons a r ih =>
    have h2:=aeE a.2.length a.2 0;have h3:min a.2.length 5000<=(avT false a).length:=by simp only[avT,alx,if_false,alw,eH];omega
    simp only[Qk,alr,amI]at ih⊢;omega
 have h2:=YE [43] (r.map (avT false));simp only[dw,alx,if_false];omega
theorem ab1(d:List Rdn):Um d<=(ee false d).length:=by
 have h1:Um d<=((d.map (dw false)).map List.length).sum:=by
  induction d with
  |nil=>simp[Um]
  | cons a r ih =>
    have h2:=ahO a;simp only[Um,alr,amI]at ih⊢;omega
 have h2:=YE [44] (d.map (dw false));simp only[ee];omega
theorem Yy:∀{l:List Nat}{x:Nat},x∈l->x<=l.sum
 |[],_,h=>by cases h
 | y::l,x,h=>by
   rw[amI];rcases alj.1 h with rfl|h
   .omega
   .have:=Yy h;omega
theorem Zm(h:Um d<=4096):∀r∈d,∀a∈r,a.2.length<=4096:=λr hr a ha=>by
 have h1:Qk r<=Um d:=by unfold Um;exact Yy (List.mem_map_of_mem hr)
 have h2:min a.2.length 5000<=Qk r:=by unfold Qk;exact Yy (List.mem_map_of_mem (f:=λa:Ava=>min a.2.length 5000) ha)
 omega
theorem ZK(h:∀r∈d,∀a∈r,a.2.length<=4096):RQ d=false:=by unfold RQ Le;rw[am3];intro r hr;simp only[amF,am3,decide_eq_true_eq];intro a ha;have:=h r hr a ha;omega
theorem ahT{typ:List UInt8}{n:Nat}(hr:r.length=n)(hn:n<=8)(h1:∀a∈r,a.1.length<=32)(h2:typ.length<=32)(h:K (.bool (lZ r typ)) L):
  alb 165 [.sl (aV r) n cap,.str typ] L K:=by
 subst hr;exact afa aoz (λa ha=>by have:=h1 a ha;omega) aoz h
theorem ada(hn:d.length<=1100000)(hr:∀r∈d,r.length<=1100000/\∀a∈r,(a.1.length:Int)<=140737488351232)(h:K (tT (prS d)) L):alb 167 [.sl (d.map cC) d.length cap] L K:=by
 obtain⟨R,hR⟩:=ak7 (prS d);rw[hR]at h;replace h:=hid h;have hat:=hid (λk=>@PD d k);replace hr:=hid hr;have hbad:l3 0 d≠0->R=([],l3 0 d):=λe=>by rw[<- hR,prS,if_pos e]
 replace hbad:=hid hbad;replace hR:=hid hR;refine ala Tc ?_;refine ah (λn T' L'=>∃(i:Nat) (c:Int) (X:List Blk),n=d.length-i/\i<=d.length/\i<=32/\Hid (c=(Um (d.take i):Nat)/\c<=40000*i)/\Hid (l3 i (d.drop i)=l3 0 d)/\T'=[(11,.int .i64 (i:Int)),(10,.int .i64 d.length),(9,.sl (d.map cC) d.length cap),(4,.int .i64 c),(0,.sl (d.map cC) d.length cap)]/\L'=L++X) aoD ⟨0,0,[],rfl,ali _,aoz,hid ⟨rfl,aoz⟩,hid rfl,rfl,aoA⟩ ?_;rintro _ _ _ ⟨i,c,X,rfl,hi,hi32,hc,he,rfl,rfl⟩;by_cases hlt:i<d.length
 .have g1:(i:Int)<(d.length:Int):=aoz;have g2:=ak9 i aoz;have e2:=hat.o i hlt;have hrm:d.getD i []∈d:=(by rw[alD,alu hlt];exact al6 _);obtain⟨hrl,hrt⟩:=hr.o (d.getD i []) hrm;obtain⟨r,hri⟩:=ak7 (d.getD i []);have hdr:d.drop i=r::d.drop (i+1):=(by rw[al1 hlt,<- hri];simp[hlt]);have hdt:d.take (i+1)=d.take i++[r]:=(by rw[aly hlt,<- hri];simp[hlt]);rw[hri]at e2 hrl hrt;have he2:=he.o;rw[hdr,l3]at he2;clear hdr hri hrm;replace hrt:=hid hrt;replace hdt:=hid hdt;by_cases h32:i=32;rw[if_pos h32]at he2;have h':=h.o;rw[hbad.o (by rw[<- he2];decide),<- he2]at h';replace h':=hid h';have k1:(i:Int)=32:=aoz;have g1':(32:Int)<(d.length:Int):=aoz;clear h32 he2;refine wk ?_;exact ae rfl h'.o;rw[if_neg h32]at he2;have k1:¬(i:Int)=32:=aoz;by_cases hr0:r=[];rw[if_pos hr0]at he2;subst hr0;have h':=h.o;rw[hbad.o (by rw[<- he2];decide),<- he2]at h';replace h':=hid h';clear h32 he2;refine wk ?_;exact ae rfl h'.o;rw[if_neg hr0]at he2;have k2:¬(r.length:Int)=0:=(by have:=amv.2 hr0;omega);have herr:∀e:Int,dP [] r=e->e≠0->K (.tup [.str [],.int .i64 e]) L:=λe a1 a2=>by rw[if_pos (by rw[a1];exact a2),a1]at he2;have h':=h.o;rwa[hbad.o (by rw[<- he2];exact a2),<- he2]at h'
  replace herr:=hid herr;replace he2:=hid he2;clear h32;refine wk ?_;refine ah (λn T' L'=>∃(k:Nat) (c':Int) (Y:List Blk),n=r.length-k/\k<=r.length/\k<=8/\Hid (c'=c+(Qk (r.take k):Nat)/\0<=c'/\c'<=40000*i+5000*k)/\Hid (dP (r.take k) (r.drop k)=dP [] r/\∀a∈r.take k,a.1.length<=32)/\T'=[(23,.int .i64 (k:Int)),(22,.int .i64 r.length),(21,cC r),(6,cC r),(11,.int .i64 (i:Int)),(10,.int .i64 d.length),(9,.sl (d.map cC) d.length cap),(4,.int .i64 c'),(0,.sl (d.map cC) d.length cap)]/\L'=L++(X++Y)) aoD ⟨0,c,[],rfl,ali _,aoz,hid ⟨by simp[Qk],by have:=hc.o;omega,by have:=hc.o;omega⟩,hid ⟨rfl,aoA⟩,rfl,aoA⟩ ?_;rintro _ _ _ ⟨k,c',Y,rfl,hk,hk8,hc',hrow,rfl,rfl⟩;by_cases hkl:k<r.length
  .have g3:(k:Int)<(r.length:Int):=aoz;have g4:=ak9 k aoz;have e3:=gf hkl;have e4:k*2+2<=(aV r).length:=(by rw[dM];omega);obtain⟨⟨ty,va⟩,ha⟩:∃a,r.getD k ([],[])=a:=⟨_,rfl⟩;have ham:(ty,va)∈r:=(by rw[<- ha];simp[hkl]);have hdk:r.drop k=(ty,va)::r.drop (k+1):=(by rw[al1 hkl,<- ha];simp[hkl]);have htk:r.take (k+1)=r.take k++[(ty,va)]:=(by rw[aly hkl,<- ha];simp[hkl]);rw[ha]at e3;simp only[sf]at e3;have hty1:=hrt.o _ ham;simp only at hty1;obtain⟨hr1,hr2⟩:=hrow.o;rw[hdk,dP]at hr1;have hlk:(r.take k).length=k:=(by simp;omega);rw[hlk]at hr1;clear hdk ha hrow ham;have e5:(aV r).take (k*2)=aV (r.take k):=Tq;have g5:(k:Int)<=(r.length:Int):=aoz;replace hr1:=hid hr1;replace hr2:=hid hr2;replace htk:=hid htk;have e6:=hid hlk;clear hlk
   repeat' first
    |refine bu ?_
    | (first|refine bj aoB ?_|refine aJ aoB ?_|refine aM ?_|refine cN ?_|refine bE (fun _=>?_)|refine aC ?_|refine bo ?_)
      refine sm ?_
    | (first|refine a8 aoB ?_|refine ba ?_|refine aL ?_|refine bm ?_|refine bJ (aB ?_))
      refine sl ?_
    |exact bF
    |first|apply bG|apply be|apply bH|apply bf|apply bI|apply bg
    |refine aP ?_
    |refine aK ?_
    |first|refine aN rfl ?_|refine aO rfl ?_|refine ax rfl ?_ ?_|refine aT rfl (λ_=>?_) (λ_=>?_)|refine aS rfl (λ_=>?_) (λ_=>?_)
    |((first|refine au (λ_=>?_) (λ_=>?_)|refine aA (λ_=>?_) (λ_=>?_))<;>try refine sm ?_)
    |refine And.intro trivial ?_
    |refine And.intro aoz ?_
    |refine aY rfl (λ_=>?_) (λ_=>?_)
    |refine And.intro ?_ ?_
   rename_i h8;have h':=hid (herr.o 9 (by rw[<- hr1.o,if_pos aoz]) (by decide));exact ae rfl h'.o;rename_i h8;have hr3:=hr1.o;rw[if_neg aoz]at hr3;replace hr3:=hid hr3;refine Zn hty1 ?_;cases hty:eV ty with
   | false =>
     have h':=hid (herr.o 20 (by rw[<- hr3.o,if_pos hty]) (by decide));clear hr3;refine aoH ?_;exact ae rfl h'.o
   | true =>
     have hr4:=hr3.o;rw[if_neg (by rw[hty];simp)]at hr4;replace hr4:=hid hr4;have htl:=tS hty;clear hr3;refine aoH ?_;refine aF (ahT e6.o aoz hr2.o htl ⟨rfl,rfl⟩) ?_;cases hha:lZ (r.take k) ty with
     | true =>
       have h':=hid (herr.o 21 (by rw[<- hr4.o,if_pos hha]) (by decide));refine aoH ?_;exact ae rfl h'.o
     | false =>
       have hr5:=hr4.o;rw[if_neg (by rw[hha];simp),<- htk.o]at hr5;replace hr5:=hid hr5;clear hr4;obtain⟨z,hz⟩:∃z:Int,(if(5000:Int)<(va.length:Int)then 5000 else(va.length:Int))=z:=⟨_,rfl⟩;have hz2:z=((min va.length 5000:Nat):Int):=(by rw[<- hz];split<;>omega);have hzw:IntKind.i64.wrap (c'+z)=c'+z:=by have:=hc'.o;exact ab aoz aoz
       replace hz2:=hid hz2;refine aoH ?_;refine aoE aoz aoC ⟨k+1,c'+z,Y++[.cells [.str ty,.str va]],rfl,hkl,aoz,hid ?_,hid ⟨hr5.o,λa ha=>?_⟩,rfl,aoA⟩
       .have:=hc'.o;have e:Qk (r.take (k+1))=Qk (r.take k)+min va.length 5000:=(by rw[htk.o];simp[Qk]);have:=hz2.o;omega
       rw[htk.o]at ha;rcases alh.1 ha with h|h
       .exact hr2.o a h
       .rw[alB.1 h];exact htl
  have hke:k=r.length:=aoz;subst hke;have g3:¬(r.length:Int)<(r.length:Int):=aoz;have hz:=hrow.o.1;rw[alY,dP]at hz;have he3:=he2.o;rw[<- hz]at he3;simp only[ne_eq,not_true_eq_false,if_false]at he3;replace he3:=hid he3;have hcn:=hc'.o;rw[alt]at hcn;replace hcn:=hid hcn;clear hz;refine wk ?_;refine aoE aoz aoD ⟨i+1,c',X++Y,rfl,hlt,aoz,hid ?_,hid he3.o,rfl,rfl⟩;have e:Um (d.take (i+1))=Um (d.take i)+Qk r:=(by rw[hdt.o];simp[Um]);have:=hcn.o;have:=hc.o;omega
 have hke:i=d.length:=aoz;subst hke;have g1:¬(d.length:Int)<(d.length:Int):=aoz;have hch:=he.o;rw[alY,l3]at hch;have hcc:=hc.o.1;rw[alt]at hcc;have hR':=hR.o;rw[prS,if_neg (by rw[<- hch];simp)]at hR';have hge:=ab1 d;by_cases hbig:4096<Um d;have k1:(4096:Int)<c:=aoz;have h':=h.o;rw[<- hR']at h';have e:(if RQ d=true then(([]:List UInt8),(5:Int))else if 4096<(ee false d).length then([],5)else(ee false d,0))=([],5):=by split;rfl;rw[if_pos aoz]
 rw[e]at h';replace h':=hid h';clear hbig hge hcc e hR' hch;refine wk ?_;exact ae rfl h'.o;have k1:¬(4096:Int)<c:=aoz;have hlo:=Zm (d:=d) aoz;obtain⟨hd32,hd8⟩:=US d 0 hch.symm aoz;rw[ZK hlo,if_neg aoA]at hR';replace hlo:=hid hlo;replace hd8:=hid hd8;have hbn:=hid (show ∀r∈d,r.length<=1000/\∀a∈r,a.1.length<=10000/\a.2.length<=10000 from λr hr=>⟨by have:=(hd8.o r hr).1;omega,λa ha=>⟨by have:=(hd8.o r hr).2 a ha;omega,by have:=hlo.o r hr a ha;omega⟩⟩);by_cases hlg:4096<(ee false d).length;have k2:(4096:Int)<((ee false d).length:Int):=aoz;have h':=h.o;rw[<- hR',if_pos hlg]at h';replace h':=hid h';clear hbig hge hcc hR' hch hlg;have kk1:=@aoG _ _ _ _ (Yk (cap:=cap) aoz hbn.o);refine wk ?_;exact ae rfl h'.o;have k2:¬(4096:Int)<((ee false d).length:Int):=aoz;have h':=h.o;rw[<- hR',if_neg hlg]at h';replace h':=hid h';clear hbig hge hcc hR' hch hlg;have kk1:=@aoG _ _ _ _ (Yk (cap:=cap) aoz hbn.o);refine wk ?_;exact ae rfl h'.o
def tj(a:Ava):Ava:=(af a.1,bL a.2)
abbrev xV(a:Ava):List UInt8:=avT false a
def yn(l:Rdn)(x:Ava):Nat->Nat
 |0=>0
 |n+1=>if xV x<xV (l.getD n ([],[]))then yn l x n else n+1
def Lj(l:Rdn)(x:Ava):Rdn:=l.take (yn l x l.length)++[x]++l.drop (yn l x l.length)
def fJ(r:Rdn):Rdn:=r.foldl (λl a=>Lj l (tj a)) []
def lH(d:List Rdn):List Rdn:=d.map fJ
theorem Yq(l:Rdn)(x:Ava):∀n,yn l x n<=n
 |0=>ale _
 |n+1=>by have:=Yq l x n;unfold yn;split<;>omega
theorem ZS(l:Rdn)(x:Ava):(Lj l x).length=l.length+1:=by have:=Yq l x l.length;simp[Lj];omega
theorem Zu{k:Nat}(h:k<r.length):fJ (r.take (k+1))=Lj (fJ (r.take k)) (tj (r.getD k ([],[]))):=by unfold fJ;rw[aly h,anb];simp[h]
theorem VP(r:Rdn):∀l:Rdn,(r.foldl (λl a=>Lj l (tj a)) l).length=l.length+r.length:=by
 induction r with
 |nil=>simp
 |cons a r ih=>intro l;rw[al7,ih,ZS];simp;omega
theorem yo(r:Rdn):(fJ r).length=r.length:=by simp[fJ,VP]
theorem aej{k:Nat}:(aV r).drop (k*2)=aV (r.drop k):=by
 induction r generalizing k with
 |nil=>simp[aV]
 | cons a r ih =>
   cases k with
   |zero=>simp[aV]
   | succ k =>
     have:=@ih k;simp only[aV]at this;rw[show(k+1)*2=k*2+1+1 by omega];simp[aV,sf,this]
theorem X8(r q:Rdn):aV (r++q)=aV r++aV q:=by simp[aV]
theorem aca(l:Rdn)(x:Ava):∀(n j:Nat),yn l x n<=j->j<n->xV x<xV (l.getD j ([],[]))
 |0,_,_,h=>aoz
 | n+1,j,h1,h2=>by
   unfold yn at h1;split at h1
   .rename_i hk;rcases alA j n with e|e
    .exact aca l x n j h1 e
    .have:j=n:=aoz;subst this;exact hk
   .omega
theorem acb(l:Rdn)(x:Ava):∀n,yn l x n=0\/¬xV x<xV (l.getD (yn l x n-1) ([],[]))
 |0=>.inl rfl
 | n+1=>by
   unfold yn;split
   .exact acb l x n
   .rename_i hk;exact .inr (by simpa using hk)
def Yc(l:Rdn):Prop:=l.Pairwise λa b=>xV a<=xV b
theorem abg{l:Rdn}{x:Ava}(hs:Yc l):Yc (Lj l x):=by
 have hge:=aca l x l.length;have hat:=acb l x l.length;have hle:=Yq l x l.length;unfold Lj;obtain⟨p,hp⟩:=ak7 (yn l x l.length);rw[hp]at hge hat hle⊢;have hs2:Yc (l.take p++l.drop p):=by rw[amZ];exact hs
 obtain⟨h1,h2,h3⟩:=List.pairwise_append.1 hs2;have ha:∀a∈l.take p,xV a<=xV x:=λa ha=>by
  rcases hat with e|e;subst e;simp at ha;have hp1:p-1<l.length:=by rcases amD p with z|z;subst z;simp at ha;omega
  refine List.le_trans ?_ (amG.1 e);obtain⟨i,hi,rfl⟩:=aml.1 ha;simp only[amJ]at hi;rw[List.getElem_take];have hg:l.getD (p-1) ([],[])=l[p-1]:=(by simp[hp1]);rw[hg];rcases alA i (p-1)with q|q;exact(anR.1 hs) i (p-1) aoz hp1 q;have:i=p-1:=aoz;subst this;exact amG.1 (amw _)
 have hb:∀b∈l.drop p,xV x<=xV b:=λb hb=>by obtain⟨i,hi,rfl⟩:=aml.1 hb;simp only[anm]at hi;rw[List.getElem_drop];have:=hge (p+i) aoz aoz;have hg:l.getD (p+i) ([],[])=l[p+i]:=(by simp[show p+i<l.length by omega]);rw[hg]at this;exact List.le_of_lt this
 unfold Yc;rw[alv,List.pairwise_append];refine⟨h1,?_,?_⟩;simp only[an3,al2];exact⟨hb,h2⟩;intro a haa b hbb;simp only[an3,alj]at hbb;rcases hbb with rfl|hbb;exact ha a haa;exact h3 a haa b hbb
theorem ZR(l:Rdn)(x:Ava):(Lj l x).Perm (x::l):=by unfold Lj;rw[alv];refine(List.perm_middle (l₁:=l.take _) (l₂:=l.drop _)).trans ?_;rw[amZ]
theorem R2:∀(r l:Rdn),Yc l->Yc (r.foldl (λl a=>Lj l (tj a)) l)/\(r.foldl (λl a=>Lj l (tj a)) l).Perm (l++r.map tj)
 |[],l,h=>by simpa using h
 |a::r,l,h=>by obtain⟨h1,h2⟩:=R2 r (Lj l (tj a)) (abg h);refine⟨h1,h2.trans ?_⟩;refine((ZR l (tj a)).append_right _).trans ?_;simp only[alr];exact(List.perm_middle (l₁:=l)).symm
theorem acA(a:Ava):avT true a=xV (tj a):=by simp[avT,tj]
theorem aaT(r:Rdn):(fJ r).map xV=dO (r.map (avT true)):=by
 obtain⟨h1,h2⟩:=R2 r [] List.Pairwise.nil;refine aog (le:=λx y=>x<=y) (λa b _ _=>aob) ?_ ?_ ?_;rw[anQ];exact h1;have:=aoq (le:=λx y:List UInt8=>decide (x<=y)) (λa b c h1 h2=>by
  simp only[decide_eq_true_eq]at *;exact List.le_trans h1 h2) (λa b=>by
  simp only[alW,decide_eq_true_eq];exact List.le_total a b) (r.map (avT true))
 exact this.imp λh=>by simpa using h
 refine(h2.map xV).trans ?_;unfold dO;refine List.Perm.trans ?_ (anx _ _).symm;rw[alL,alR];rw[show(xV∘tj)=avT true from funext λa=>(acA a).symm]
theorem adq(r:Rdn):dw false (fJ r)=dw true r:=by have:=aaT r;simp only[dw,alx,if_false,if_true];rw[<- this]
theorem Vo(d:List Rdn):ee false (lH d)=ee true d:=by unfold ee lH;rw[alR];rw[show(dw false∘fJ)=dw true from funext adq]
theorem ail{p:Ava->Prop}{l:Rdn}{x:Ava}(h:∀a∈l,p a)(hx:p x):∀a∈Lj l x,p a:=λa ha=>by rcases alj.1 ((ZR l x).mem_iff.1 ha)with rfl|h1;exact hx;exact h a h1
theorem Ws:∀r:Rdn,(aV r).all AV.one=true
 |[]=>rfl
 |a::r=>by have:=Ws r;simp only[aV]at this;simp[aV,sf,AV.one,this]
theorem acU{xs:List AV}{i:Nat}{a b:AV}(h:(xs.drop i).take 2=[a,b]):xs.getD i .undef=a/\xs.getD (i+1) .undef=b:=by have h0:=congrArg (·[0]?) h;have h1:=congrArg (·[1]?) h;simp[List.getElem?_take,al5]at h0 h1;simp[alD,h0,h1]
theorem ae1(hn:d.length<=1000)(hr:∀r∈d,r.length<=1000/\∀a∈r,a.1.length<=10000/\a.2.length<=10000)(h:K (.sl ((lH d).map cC) d.length none) L):
  alb 169 [.sl (d.map cC) d.length cap] L K:=by
 replace h:=hid h;have hat:=hid (λk=>@PD d k);replace hr:=hid hr;refine ala Ta ?_;refine bt (l:=[]) (n:=0) 3 1 rfl (alG 1).symm ?_;refine ah (λn T' L'=>∃(i:Nat) (out:List Rdn) (Z:List Blk),n=d.length-i/\i<=d.length/\Hid (out=(d.take i).map fJ)/\L'[L.length]?=some (.spare i 1)/\T'=[(14,.int .i64 (i:Int)),(13,.int .i64 d.length),(12,.sl (d.map cC) d.length cap),(3,.gsl (out.map cC) i L.length 1)]/\L'=L++Z) aoD ⟨0,[],[.spare 0 1],rfl,ali _,hid rfl,aoA,rfl,rfl⟩ ?_;rintro _ _ _ ⟨i,out,X,rfl,hi,hout,ho,rfl,rfl⟩;by_cases hlt:i<d.length
 .have g1:(i:Int)<(d.length:Int):=aoz;have g2:=ak9 i aoz;have e2:=hat.o i hlt;have hrm:d.getD i []∈d:=(by rw[alD,alu hlt];exact al6 _);have hrl:=hr.o _ hrm;obtain⟨r,hri⟩:=ak7 (d.getD i []);have htk:d.take (i+1)=d.take i++[r]:=(by rw[aly hlt,<- hri];simp[hlt]);rw[hri]at e2 hrl;clear hri hrm;obtain⟨hrl1,hrl2⟩:=hrl;replace hrl2:=hid hrl2;replace htk:=hid htk;refine wk ?_;refine ah (λn T' L'=>∃(k:Nat) (l:Rdn) (v:AV) (Z:List Blk),n=r.length-k/\k<=r.length/\Hid (l=fJ (r.take k)/\ake L.length l v L'/\∀a∈l,a.1.length<=10000/\a.2.length<=10000)/\L'[L.length]?=some (.spare i 1)/\X.length<=Z.length/\T'=[(20,.int .i64 (k:Int)),(19,.int .i64 r.length),(18,cC r),(6,v),(14,.int .i64 (i:Int)),(13,.int .i64 d.length),(12,.sl (d.map cC) d.length cap),(3,.gsl (out.map cC) i L.length 1)]/\L'=L++Z) (CutS (b:=by have:=(ald.1 ho).1;simp at this⊢)) ⟨0,[],_,X,rfl,ali _,hid ⟨rfl,.inl ⟨rfl,rfl,rfl⟩,aoA⟩,ho,ale _,rfl,rfl⟩ ?_;clear ho;rintro _ _ _ ⟨k,l,v,X1,rfl,hk,hI,ho,hXZ,rfl,rfl⟩;obtain⟨hl,hv,hlen⟩:=hI.o;clear hI;have hB:L.length<(L++X1).length:=(ald.1 ho).1;refine Y8 6 2 L.length rfl hB hv λp Y hBi hpi=>?_
  rw[alv]at hpi⊢;have ho2:(L++(X1++Y))[L.length]?=some (.spare i 1):=(by rw[<- alv,alm hB];exact ho);have hXZ2:X.length<=(X1++Y).length:=(by simp;omega);generalize X1++Y=Z at hpi ho2 hXZ2⊢;clear ho hB hv hXZ X1 Y;replace hXZ2:=hid hXZ2;have hll:l.length=k:=(by rw[hl,yo];simp;omega);rw[hll]at hpi⊢;have hpl:=(ald.1 hpi).1;have hol:=(ald.1 ho2).1;rw[alw]at hpl hol;replace hlen:=hid hlen;replace hl:=hid hl;replace hpl:=hid hpl;replace hol:=hid hol;by_cases hkl:k<r.length
  .have g3:(k:Int)<(r.length:Int):=aoz;have g4:=ak9 k aoz;have e3:=gf hkl;have e4:k*2+2<=(aV r).length:=(by rw[dM];omega);obtain⟨⟨ty,va⟩,ha⟩:∃a,r.getD k ([],[])=a:=⟨_,rfl⟩;have ham:(ty,va)∈r:=(by rw[<- ha];simp[hkl]);have hnew:=Zu hkl;rw[ha]at e3 hnew;simp only[sf]at e3;have hva:=hrl2.o _ ham;simp only at hva;have hva2:(va.length:Int)<=100000:=aoz;have hty2:(ty.length:Int)<=100000:=aoz;obtain⟨fx,hfx⟩:=ak7 (af ty);obtain⟨px,hpx⟩:=ak7 (bL va);have hfl:fx.length<=10000:=(by rw[<- hfx];simp[af];omega);have hpxl:px.length<=10000:=(by rw[<- hpx];have:=xM va;omega);have hpav:tj (ty,va)=(fx,px):=(by simp[tj,hfx,hpx]);rw[hpav,<- hl.o]at hnew;replace hnew:=hid hnew;clear ha ham hpav
   iterate 24 first
    |refine bu ?_
    | (first|refine bj aoB ?_|refine aJ aoB ?_|refine aM ?_|refine cN ?_|refine bE (fun _=>?_)|refine aC ?_|refine bo ?_|refine oe hty2 ?_|refine yj hva2 ?_|refine bh (oe hty2 ⟨rfl,rfl⟩) (oe hty2 ⟨rfl,rfl⟩) ?_|refine bh (yj hva2 ⟨rfl,rfl⟩) (yj hva2 ⟨rfl,rfl⟩) ?_|refine aF (oe hty2 ⟨rfl,rfl⟩) ?_|refine aF (yj hva2 ⟨rfl,rfl⟩) ?_)
      simp(config:={maxSteps:=2000000}) only[Kon,push_cast,reduceIte,Nat.reduceEqDiff,Nat.reduceAdd,Nat.reduceMul,Nat.reduceSub,Nat.reduceLT,Nat.reduceLeDiff,Int.reduceLT,Int.reduceLE,Int.reduceAdd,Int.reduceSub,Int.reduceNeg,Int.reduceToNat,Int.reduceEq,reduceCtorEq, *]
    | (first|refine a8 aoB ?_|refine ba ?_|refine aL ?_|refine bm ?_|refine bJ (aB ?_))
      simp only[push_cast,reduceIte,Nat.reduceEqDiff,Nat.reduceAdd,Nat.reduceMul,Nat.reduceSub,Nat.reduceLT,Nat.reduceLeDiff,Int.reduceLT,Int.reduceLE,Int.reduceAdd,Int.reduceSub,Int.reduceNeg,Int.reduceToNat,Int.reduceEq,reduceCtorEq, *]
    |exact bF
    |first|apply bG|apply be|apply bH|apply bf|apply bI|apply bg
    |refine aP ?_
    |refine aK ?_
    |first|refine aN rfl ?_|refine aO rfl ?_|refine ax rfl ?_ ?_|refine aT rfl (λ_=>?_) (λ_=>?_)|refine aS rfl (λ_=>?_) (λ_=>?_)
    |((first|refine au (λ_=>?_) (λ_=>?_)|refine aA (λ_=>?_) (λ_=>?_))<;>try simp(config:={maxSteps:=2000000}) only[Kon,push_cast,reduceIte,Nat.reduceEqDiff,Nat.reduceAdd,Nat.reduceMul,Nat.reduceSub,Nat.reduceLT,Nat.reduceLeDiff,Int.reduceLT,Int.reduceLE,Int.reduceAdd,Int.reduceSub,Int.reduceNeg,Int.reduceToNat,Int.reduceEq,reduceCtorEq, *])
    |refine And.intro trivial ?_
    |refine And.intro aoz ?_
    |refine aY rfl (λ_=>?_) (λ_=>?_)
    |refine And.intro ?_ ?_
   have hnp:l.getD k ([],[])=([],[]):=(by simp[hll]);obtain⟨wx,hwx⟩:=ak7 (eH px);have hkx:xV (fx,px)=fx++61::wx:=(by simp[avT,hwx]);have hwxl:wx.length<=30000:=(by rw[<- hwx];have:=LU px;omega);have hpx2:px.length<=100000:=aoz;replace hkx:=hid hkx;clear hnp;refine UX (λT2 L2=>∃z:Nat,z<=k/\Hid (z=yn l (fx,px) k)/\T2=[(10,.int .i64 (z:Int)),(9,.ptr (L.length+(Z.length+1)) 0),(6,.gsl (aV l) k p 2),(20,.int .i64 (k:Int)),(19,.int .i64 r.length),(18,cC r),(14,.int .i64 (i:Int)),(13,.int .i64 d.length),(12,.sl (d.map cC) d.length cap),(3,.gsl (out.map cC) i L.length 1)]/\L2=L++(Z++[.cells [.str ty,.str va],.cells [.str fx,.str px]])) ?_ ?_;refine wk ?_;refine ah (λn T' L'=>∃q:Nat,q=n/\q<=k/\Hid (yn l (fx,px) q=yn l (fx,px) k)/\T'=[(10,.int .i64 (q:Int)),(9,.ptr (L.length+(Z.length+1)) 0),(6,.gsl (aV l) k p 2),(20,.int .i64 (k:Int)),(19,.int .i64 r.length),(18,cC r),(14,.int .i64 (i:Int)),(13,.int .i64 d.length),(12,.sl (d.map cC) d.length cap),(3,.gsl (out.map cC) i L.length 1)]/\L'=L++(Z++[.cells [.str ty,.str va],.cells [.str fx,.str px]])) aoD ⟨k,rfl,ale _,hid rfl,rfl,rfl⟩ ?_;rintro _ _ _ ⟨q,rfl,hqk,hq,rfl,rfl⟩;rcases q with _|q;have h0:=hid hq.o.symm;have k0:¬(0:Int)<((0:Nat):Int):=aoz;have kk1:=@aoG _ _ _ _ (nR hpx2);refine wk ?_;exact tO _ _ aoC ⟨0,aoz,hid h0.o.symm,rfl,rfl⟩;have k0:(0:Int)<((q+1:Nat):Int):=aoz;have k1:IntKind.i64.wrap (((q+1:Nat):Int)-1)=(q:Int):=(by rw[ab aoz aoz];omega);have k4:(q:Int)<(k:Int):=aoz;have e5:=gf (r:=l) (k:=q) aoz;have e6:q*2+2<=(aV l).length:=by rw[dM];omega
   obtain⟨⟨t1,v1⟩,hav⟩:∃a,l.getD q ([],[])=a:=⟨_,rfl⟩;rw[hav]at e5;simp only[sf]at e5;obtain⟨e7,e8⟩:=acU e5;obtain⟨w1,hw1⟩:=ak7 (eH v1);have hv1:=hlen.o (t1,v1) (by rw[<- hav];simp[show q<l.length by omega]);simp only at hv1;have hv1':v1.length<=100000:=aoz;have hw1l:w1.length<=30000:=(by rw[<- hw1];have:=LU v1;omega);have hk1:xV (l.getD q ([],[]))=t1++61::w1:=(by rw[hav];simp[avT,hw1]);have c1:((t1.length+1:Nat):Int)<=9223372036854775807:=aoz;have c2:((t1.length+1+w1.length:Nat):Int)<=9223372036854775807:=aoz;have c3:((fx.length+1:Nat):Int)<=9223372036854775807:=aoz;have c4:((fx.length+1+wx.length:Nat):Int)<=9223372036854775807:=aoz;simp only[Int.natCast_add,Int.cast_ofNat_Int]at c1 c2 c3 c4;replace hk1:=hid hk1;simp only[Int.natCast_add,Int.cast_ofNat_Int]at k0 k1;have hq':=hid hq.o;clear hq hav;by_cases hc:xV (fx,px)<xV (l.getD q ([],[]));have hb:(Op.bytesLess (t1++61::w1) (fx++61::wx) ||decide (t1++61::w1=fx++61::wx))=false:=by rw[hkx.o,hk1.o]at hc;rw[bytesLess_eq];simp only[anO,decide_eq_false_iff_not];exact⟨λe=>amw _ (anl e hc),λe=>by rw[e]at hc;exact amw _ hc⟩
   have hq2:yn l (fx,px) q=yn l (fx,px) k:=(by rw[<- hq'.o,yn,if_pos hc]);replace hq2:=hid hq2;clear hc;have kk1:=@aoG _ _ _ _ (nR hpx2);have kk2:=@aoG _ _ _ _ (nR hv1');refine wk ?_;exact aoE aoz aoC ⟨q,rfl,aoz,hq2,rfl,rfl⟩;have hb:(Op.bytesLess (t1++61::w1) (fx++61::wx) ||decide (t1++61::w1=fx++61::wx))=true:=by rw[hkx.o,hk1.o]at hc;rw[bytesLess_eq];simp only[alW,decide_eq_true_eq];have:=amG.1 hc;rcases anz.1 this with e|e;exact .inl e;exact .inr e
   have hq2:q+1=yn l (fx,px) k:=(by rw[<- hq'.o,yn,if_neg hc]);replace hq2:=hid hq2;clear hc;have kk1:=@aoG _ _ _ _ (nR hpx2);have kk2:=@aoG _ _ _ _ (nR hv1');refine wk ?_;exact tO _ _ aoC ⟨q+1,aoz,hq2,rfl,rfl⟩;rintro _ _ ⟨z,hzk,hz,rfl,rfl⟩ -;have z0:(0:Int)<=(z:Int):=aoz;have z1:(z:Int)<=(k:Int):=aoz;have s1:(aV l).take (z*2)=aV (l.take z):=Tq;have s2:((aV l).drop (z*2)).take ((k-z)*2)=aV (l.drop z):=by rw[aej,amb];rw[dM,anm,hll];omega
   have s3:AV.frzL (aV (l.take z))=aV (l.take z):=ju _;have s4:AV.frzL (aV (l.drop z))=aV (l.drop z):=ju _;have s5:(aV (l.take z)).length=z*2:=(by rw[dM,amJ];omega);have s6:(aV (l.drop z)).length=(k-z)*2:=(by rw[dM,anm,hll]);have s7:z+1+(k-z)=k+1:=aoz;have s8:=Ws (l.take z);have s9:=Ws (l.drop z);have q1:z*32<=140737488355328:=aoz;have q2:z<=140737488355328:=aoz;have q3:(z+1)*32<=140737488355328:=aoz;have q4:z+1<=140737488355328:=aoz;have q5:(k+1)*32<=140737488355328:=aoz;have q6:k+1<=140737488355328:=aoz
   iterate 3 first
    |refine bu ?_
    | (first|refine bj aoB ?_|refine aJ aoB ?_|refine aM ?_|refine cN ?_|refine bE (fun _=>?_)|refine aC ?_|refine bo ?_)
      simp(config:={maxSteps:=2000000}) only[Kon,push_cast,reduceIte,Nat.reduceEqDiff,Nat.reduceAdd,Nat.reduceMul,Nat.reduceSub,Nat.reduceLT,Nat.reduceLeDiff,Int.reduceLT,Int.reduceLE,Int.reduceAdd,Int.reduceSub,Int.reduceNeg,Int.reduceToNat,Int.reduceEq,reduceCtorEq, *]
    | (first|refine a8 aoB ?_|refine ba ?_|refine aL ?_|refine bm ?_|refine bJ (aB ?_))
      simp only[push_cast,reduceIte,Nat.reduceEqDiff,Nat.reduceAdd,Nat.reduceMul,Nat.reduceSub,Nat.reduceLT,Nat.reduceLeDiff,Int.reduceLT,Int.reduceLE,Int.reduceAdd,Int.reduceSub,Int.reduceNeg,Int.reduceToNat,Int.reduceEq,reduceCtorEq, *]
    |exact bF
    |first|apply bG|apply be|apply bH|apply bf|apply bI|apply bg
    |refine aP ?_
    |refine aK ?_
    |first|refine aN rfl ?_|refine aO rfl ?_|refine ax rfl ?_ ?_|refine aT rfl (λ_=>?_) (λ_=>?_)|refine aS rfl (λ_=>?_) (λ_=>?_)
    |((first|refine au (λ_=>?_) (λ_=>?_)|refine aA (λ_=>?_) (λ_=>?_))<;>try simp(config:={maxSteps:=2000000}) only[Kon,push_cast,reduceIte,Nat.reduceEqDiff,Nat.reduceAdd,Nat.reduceMul,Nat.reduceSub,Nat.reduceLT,Nat.reduceLeDiff,Int.reduceLT,Int.reduceLE,Int.reduceAdd,Int.reduceSub,Int.reduceNeg,Int.reduceToNat,Int.reduceEq,reduceCtorEq, *])
    |refine And.intro trivial ?_
    |refine And.intro aoz ?_
    |refine aY rfl (λ_=>?_) (λ_=>?_)
    |refine And.intro ?_ ?_
   refine bt (l:=[]) (n:=0) 11 2 rfl (alG 2).symm ?_;refine wk ?_;have hcell:aV (l.take z)++AV.str fx::AV.str px::aV (l.drop z)=aV (Lj l (fx,px)):=by rw[Lj,hll,<- hz.o,X8,X8];simp[aV,sf]
   have hlen2:(Lj l (fx,px)).length=k+1:=(by rw[ZS,hll]);rw[hcell];refine aoE aoz (CutL (b:=?_)) ⟨k+1,Lj l (fx,px),_,_,rfl,hkl,hid ⟨hnew.o.symm,.inr ⟨L.length+(Z.length+2),aoz,by rw[hlen2],?_⟩,ail hlen.o ⟨hfl,hpxl⟩⟩,?_,?_,rfl,rfl⟩;have:=hXZ2.o;simp;omega;rw[oi,oi,hlen2];rfl;rw[<- alv,alm (ald.1 ho2).1];exact ho2;have:=hXZ2.o;simp;omega
  have hke:k=r.length:=aoz;subst hke;have g3:¬(r.length:Int)<(r.length:Int):=aoz;have q3:(i+1)*24<=140737488355328:=aoz;have q4:i+1<=140737488355328:=aoz;have e5:AV.frzL (aV l)=aV l:=ju _;have e6:out.map cC++[AV.sl (aV l) r.length none]=(out++[l]).map cC:=by rw[alM];simp[hll]
  have e7:out++[l]=(d.take (i+1)).map fJ:=by rw[htk.o,alM,<- hout.o,hl.o,alt];rfl
  have s4:∀(W:List Blk) A,(L++W).set L.length A=L++W.set 0 A:=λW A=>by rw[al4 _ _ (ale _),amz]
  have f1:(L++Z.set 0 (.spare (i+1) 1))[L.length]?=some (.spare (i+1) 1):=by rw[<- s4,alC,if_pos rfl,if_pos (ald.1 ho2).1]
  replace e7:=hid e7;replace f1:=hid f1;replace e6:=hid e6;refine wk ?_;rw[e6.o];refine aoE aoz (CutL (b:=?_)) ⟨i+1,out++[l],_,rfl,hlt,e7,f1.o,rfl,rfl⟩;have:=hol.o;simp;omega
 have hke:i=d.length:=aoz;subst hke;have g1:¬(d.length:Int)<(d.length:Int):=aoz;have e:=hout.o;rw[alt]at e;have h':=h.o;rw[show(lH d)=out from e.symm]at h';replace h':=hid h';clear hout e;refine wk ?_;refine aW (ae ?_ ?_);simp only[AV.frz,AV.frzL,tV,AV.refs,AV.refsL,Ma,alX];simp only[AV.frz,AV.frzL,tV];exact h'.o
theorem aaV(d:List Rdn):(lH d).length=d.length:=by simp[lH]
theorem aaU(h:∀a∈r,a.1.length<=10000/\a.2.length<=10000):∀a∈fJ r,a.1.length<=10000/\a.2.length<=10000:=λa ha=>by have hp:=(R2 r [] List.Pairwise.nil).2;have hm:=hp.mem_iff.1 ha;rw[alL]at hm;obtain⟨b,hb,rfl⟩:=alg.1 hm;obtain⟨h1,h2⟩:=h b hb;have h3:=xM b.2;simp only[tj,af,alU];omega
theorem ae4(hn:d.length<=1100000)(hr:∀r∈d,r.length<=1100000/\∀a∈r,(a.1.length:Int)<=140737488351232)(h:K (tT (Vv d)) L):
  alb 132 [.sl (d.map cC) d.length cap] L K:=by
 unfold Vv tT at h;refine ala Uz ?_;refine ada hn hr ?_;unfold tT;obtain⟨⟨ps,pe⟩,hp⟩:∃p,prS d=p:=⟨_,rfl⟩;rw[hp]at h⊢;simp only at h⊢;by_cases h0:pe=0;subst h0;obtain⟨q1,q2⟩:=afo (by rw[hp]);rw[if_neg aoA]at h;have hb:∀r∈d,r.length<=1000/\∀a∈r,a.1.length<=10000/\a.2.length<=10000:=λr hr=>⟨by have:=(q2 r hr).1;omega,λa ha=>⟨by have:=((q2 r hr).2 a ha).1;omega,by have:=((q2 r hr).2 a ha).2;omega⟩⟩
 have hb2:∀r∈lH d,r.length<=1000/\∀a∈r,a.1.length<=10000/\a.2.length<=10000:=λr hr=>by obtain⟨r0,hr0,rfl⟩:=alg.1 hr;exact⟨by rw[yo];exact(hb r0 hr0).1,aaU (hb r0 hr0).2⟩
 have hpl:=hid (aaV d);rw[<- Vo]at h;replace h:=hid h;replace hb:=hid hb;replace hb2:=hid hb2;clear hp hr q2;refine sk ?_;have kk1:=@aoG _ _ _ _ (ae1 (cap:=cap) aoz hb.o);refine wk ?_;rw[<- hpl.o];refine Yk (by rw[hpl.o];omega) hb2.o ?_;refine aoH ?_;exact aa h.o;rw[if_pos h0]at h;replace h:=hid h;clear hp hr;refine aoH ?_;exact aa h.o
theorem ahP(hn:d.length<=1000000)(hr:∀r∈d,r.length<=1000000/\∀a∈r,(a.1.length:Int)<=100000)(h:K (tT (Vv d)) L):
 alb 132 [.sl (d.map cC) d.length cap] L K:=ae4 aoz (λr hm=>⟨by have:=(hr r hm).1;omega,λa ha=>by have:=(hr r hm).2 a ha;omega⟩) h
theorem Vs:∀(f:Nat) (out:List Rdn) (now:Rdn) (s:List UInt8),(∀a∈now,a.1.length<=32)->(∀r∈out,∀a∈r,a.1.length<=32)->∀r∈(se f out now s).1,∀a∈r,a.1.length<=32
 |0,_,_,_,_,_=>by simp[se]
 | f+1,out,now,s,h1,h2=>by
   rw[se];split
   .simp
   split
   .simp
   split
   .simp
   rename_i hty;have hty':=tS (by simpa using hty);have hrow:∀v,∀a∈now++[(_,v)],a.1.length<=32:=λv a ha=>by
    rcases alh.1 ha with h|h
    .exact h1 a h
    .rw[alB.1 h];exact hty'
   have hout:∀v,∀r∈out++[now++[(_,v)]],∀a∈r,a.1.length<=32:=λv r hr=>by
    rcases alh.1 hr with h|h
    .exact h2 r h
    .rw[alB.1 h];exact hrow v
   split
   .simp
   split
   .simp
   split
   .simp
   split
   .exact hout _
   split
   .exact Vs f _ _ _ aoA (hout _)
   .exact Vs f _ _ _ (hrow _) h2
theorem afv(s:List UInt8):∀r∈(xN s).1,∀a∈r,a.1.length<=32:=by unfold xN;split;simp;split;simp;exact Vs _ _ _ _ aoA aoA
theorem ae7(h:K (tT (Lh s)) L):alb 92 [.str s] L K:=by unfold Lh at h;refine ala Wi ?_;refine ae2 ?_;obtain⟨q1,q2⟩:=acd s;have q3:=afv s;obtain⟨⟨pd,pe⟩,hp⟩:∃p,xN s=p:=⟨_,rfl⟩;rw[hp]at h q1 q2 q3⊢;simp only[aaY]at h q1 q2 q3⊢;clear hp;by_cases h0:pe=0;subst h0;rw[if_neg aoA]at h;replace h:=hid h;replace q2:=hid q2;replace q3:=hid q3;refine aoH ?_;refine ahP aoz (λr hr=>⟨by have:=q2.o r hr;omega,λa ha=>by have:=q3.o r hr a ha;omega⟩) ?_;have h':=h.o;unfold tT at h'⊢;replace h':=hid h';refine aoH ?_;exact aa h'.o;rw[if_pos h0]at h;unfold tT at h;replace h:=hid h;clear q1 q2 q3;refine aoH ?_;exact aa h.o
def qi(b:Nat):Nat×Nat:=if 240<=b then(4,b-240)else if 224<=b then(3,b-224)else if 192<=b then(2,b-192)else(1,b)
def Qe(n c:Nat):Bool:=decide (¬(n=2/\c<128\/n=3/\c<2048\/n=4/\c<65536\/1114111<c\/55296<=c/\c<57344))
def Pw:Nat->List UInt8->Nat->Option Nat
 |0,_,c=>some c
 |_+1,[],_=>none
 |k+1,x::t,c=>if 128<=x.toNat/\x.toNat<192 then Pw k t (c*64+x.toNat-128)else none
def Ui:Nat->List UInt8->Bool
 |_,[]=>true
 |0,_::_=>true
 | f+1,b::t=>if 128<=b.toNat/\b.toNat<192 then false else if t.length+1<(qi b.toNat).1 then false else
   match Pw ((qi b.toNat).1-1) t (qi b.toNat).2 with
   |none=>false
   |some c=>Qe (qi b.toNat).1 c&&Ui f (t.drop ((qi b.toNat).1-1))
theorem ab0(hs:s.length<=1100000)(h:K (.bool (Ui s.length s)) L):alb 89 [.str s] L K:=by
 obtain⟨R,hR⟩:=ak7 (Ui s.length s);rw[hR]at h;replace h:=hid h;refine ala Wf ?_;refine ah (λn T' L'=>∃(f:Nat) (u:List UInt8),f=n/\u.length<=1100000/\Hid (u.length<=f/\Ui f u=R)/\T'=[(0,.str u)]/\L=L') (CutS (b:=ale _)) ⟨s.length,s,rfl,hs,hid ⟨ale _,hR⟩,rfl,rfl⟩ ?_;clear hR hs;rintro _ _ _ ⟨f,u,rfl,hu,hI,rfl,rfl⟩;rcases u with _|⟨b,t⟩;have h':=h.o;rw[<- hI.o.2,show Ui f []=true by cases f<;>rfl]at h';replace h':=hid h';have e0:([]:List UInt8).length=0:=rfl;refine wk ?_;exact aa h'.o;obtain⟨u,hut⟩:=ak7 (b::t);obtain⟨f,rfl⟩:∃g,f=g+1:=⟨f-1,by have:=hI.o.1;simp at this;omega⟩;have hb0:u.getD 0 0=b:=by rw[<- hut];rfl
 have hul:u.length=t.length+1:=by rw[<- hut];rfl
 have hI2:=hI.o.2;have hfl:=hI.o.1;rw[Ui]at hI2;rw[hut]at hu hfl⊢;obtain⟨x,hx⟩:=ak7 (b.toNat);have hx256:x<256:=by rw[<- hx];exact b.toNat_lt
 rw[hx]at hI2;have hpos:(0:Int)<(u.length:Int):=aoz;have w0:IntKind.i64.wrap (x:Int)=(x:Int):=ab aoz aoz;have hxi:(b.toNat:Int)=(x:Int):=aoz;have hbad:R=false->Fin L (.bool false) L K:=λe=>aa (by have h':=h.o;rwa[e]at h')
 replace hbad:=hid hbad;have hdr:∀i,u.drop (i+1)=t.drop i:=λi=>by rw[<- hut];rfl
 replace hut:=hid hut;replace hul:=hid hul;clear hx hI;by_cases hmid:128<=x/\x<192;rw[if_pos hmid]at hI2;have c1:¬(240:Int)<=(x:Int):=aoz;have c2:¬(224:Int)<=(x:Int):=aoz;have c3:¬(192:Int)<=(x:Int):=aoz;have c4:(128:Int)<=(x:Int):=aoz;have e:=hid hI2.symm;clear hmid hI2;refine wk ?_;exact hbad.o e.o;rw[if_neg hmid]at hI2;obtain⟨⟨n,c0⟩,hn⟩:∃p,qi x=p:=⟨_,rfl⟩;rw[hn]at hI2;simp only at hI2;have hn14:1<=n/\n<=4/\c0<256:=by
  unfold qi at hn
  repeat' split at hn
  all_goals (cases hn;omega)
 obtain⟨hn1,hn4,hc0⟩:=hn14;replace hI2:=hid hI2
 iterate 13 first
  |refine bu ?_
  | (first|refine bj aoB ?_|refine aJ aoB ?_|refine aM ?_|refine cN ?_|refine bE (fun _=>?_)|refine aC ?_|refine bo ?_)
    simp(config:={maxSteps:=2000000}) only[Kon,push_cast,reduceIte,Nat.reduceEqDiff,Nat.reduceAdd,Nat.reduceMul,Nat.reduceSub,Nat.reduceLT,Nat.reduceLeDiff,Int.reduceLT,Int.reduceLE,Int.reduceAdd,Int.reduceSub,Int.reduceNeg,Int.reduceToNat,Int.reduceEq,reduceCtorEq, *]
  | (first|refine a8 aoB ?_|refine ba ?_|refine aL ?_|refine bm ?_|refine bJ (aB ?_))
    simp only[push_cast,reduceIte,Nat.reduceEqDiff,Nat.reduceAdd,Nat.reduceMul,Nat.reduceSub,Nat.reduceLT,Nat.reduceLeDiff,Int.reduceLT,Int.reduceLE,Int.reduceAdd,Int.reduceSub,Int.reduceNeg,Int.reduceToNat,Int.reduceEq,reduceCtorEq, *]
  |exact bF
  |first|apply bG|apply be|apply bH|apply bf|apply bI|apply bg
  |refine aP ?_
  |refine aK ?_
  |first|refine aN rfl ?_|refine aO rfl ?_|refine ax rfl ?_ ?_|refine aT rfl (λ_=>?_) (λ_=>?_)|refine aS rfl (λ_=>?_) (λ_=>?_)
  |((first|refine au (λ_=>?_) (λ_=>?_)|refine aA (λ_=>?_) (λ_=>?_))<;>try simp(config:={maxSteps:=2000000}) only[Kon,push_cast,reduceIte,Nat.reduceEqDiff,Nat.reduceAdd,Nat.reduceMul,Nat.reduceSub,Nat.reduceLT,Nat.reduceLeDiff,Int.reduceLT,Int.reduceLE,Int.reduceAdd,Int.reduceSub,Int.reduceNeg,Int.reduceToNat,Int.reduceEq,reduceCtorEq, *])
  |refine And.intro trivial ?_
  |refine And.intro aoz ?_
  |refine aY rfl (λ_=>?_) (λ_=>?_)
  |refine And.intro ?_ ?_
 refine UX (λT2 L2=>T2=[(4,.int .i64 (n:Int)),(3,.int .i64 (c0:Int)),(0,.str u)]/\L=L2) ?_ ?_;unfold qi at hn;by_cases q1:240<=x;rw[if_pos q1]at hn;cases hn;have c1:(240:Int)<=(x:Int):=aoz;have w1:IntKind.i64.wrap ((x:Int)-240)=((x-240:Nat):Int):=by rw[ab aoz aoz];omega
 obtain⟨d,hd⟩:=ak7 (x-240);rw[hd]at w1⊢;clear q1 hd hmid;refine wk ?_;exact tO _ _ aoC ⟨rfl,rfl⟩;rw[if_neg q1]at hn;have c1:¬(240:Int)<=(x:Int):=aoz;by_cases q2:224<=x;rw[if_pos q2]at hn;cases hn;have c2:(224:Int)<=(x:Int):=aoz;have w1:IntKind.i64.wrap ((x:Int)-224)=((x-224:Nat):Int):=by rw[ab aoz aoz];omega
 obtain⟨d,hd⟩:=ak7 (x-224);rw[hd]at w1⊢;clear q1 q2 hd hmid;refine wk ?_;exact tO _ _ aoC ⟨rfl,rfl⟩;rw[if_neg q2]at hn;have c2:¬(224:Int)<=(x:Int):=aoz;by_cases q3:192<=x;rw[if_pos q3]at hn;cases hn;have c3:(192:Int)<=(x:Int):=aoz;have w1:IntKind.i64.wrap ((x:Int)-192)=((x-192:Nat):Int):=by rw[ab aoz aoz];omega
 obtain⟨d,hd⟩:=ak7 (x-192);rw[hd]at w1⊢;clear q1 q2 q3 hd hmid;refine wk ?_;exact tO _ _ aoC ⟨rfl,rfl⟩;rw[if_neg q3]at hn;cases hn;have c3:¬(192:Int)<=(x:Int):=aoz;have c4:¬(128:Int)<=(x:Int):=aoz;clear q1 q2 q3 hmid;refine wk ?_;exact tO _ _ aoC ⟨rfl,rfl⟩;rintro _ _ ⟨rfl,rfl⟩ -;clear hn hmid hxi w0;by_cases hsh:t.length+1<n;have hI3:=hI2.o;rw[if_pos hsh]at hI3;have k1:(u.length:Int)<(n:Int):=by have:=hul.o;omega
 have e:=hid hI3.symm;clear hsh hI3;refine wk ?_;exact hbad.o e.o;have hI3:=hI2.o;rw[if_neg hsh]at hI3;have k1:¬(u.length:Int)<(n:Int):=by have:=hul.o;omega
 have hnu:n<=u.length:=by have:=hul.o;omega
 obtain⟨o,ho⟩:=ak7 (Pw (n-1) t c0);rw[ho]at hI3;replace hI3:=hid hI3;clear hI2;refine wk ?_;refine ah (λm T' L'=>∃(i c:Nat),m=n-i/\1<=i/\i<=n/\c<256*64^(i-1)/\Hid (Pw (n-i) (u.drop i) c=o)/\T'=[(5,.int .i64 (i:Int)),(4,.int .i64 (n:Int)),(3,.int .i64 (c:Int)),(0,.str u)]/\L=L') (CutS (b:=ale _)) ⟨1,c0,rfl,ale _,hn1,by simpa using hc0,hid (by rw[hdr 0];exact ho),rfl,rfl⟩ ?_;clear ho;rintro _ _ _ ⟨i,c,rfl,hi1,hin,hc,hO,rfl,rfl⟩;have hc4:c<67108864:=by refine amL hc ?_;have:i=1\/i=2\/i=3\/i=4:=aoz;rcases this with rfl|rfl|rfl|rfl<;>decide
 by_cases hlt:i<n;have g1:(i:Int)<(n:Int):=aoz;have g2:(i:Int)<(u.length:Int):=aoz;have g3:=ak9 i aoz;obtain⟨y,hy⟩:=ak7 (u.getD i 0);obtain⟨z,hz⟩:=ak7 (y.toNat);have hz256:z<256:=by rw[<- hz];exact y.toNat_lt
 have hzi:(y.toNat:Int)=(z:Int):=aoz;have hO2:=hO.o;rw[nM (show i<u.length by omega),hy,show n-i=(n-(i+1))+1 by omega,Pw,hz]at hO2;have w1:IntKind.i64.wrap (z:Int)=(z:Int):=ab aoz aoz;clear hz;by_cases hcn:128<=z/\z<192;rw[if_pos hcn]at hO2;have k2:¬(z:Int)<128:=aoz;have k3:¬(192:Int)<=(z:Int):=aoz;have w2:IntKind.i64.wrap ((c:Int)*64)=(c:Int)*64:=ab aoz aoz;have w3:IntKind.i64.wrap ((c:Int)*64+(z:Int))=(c:Int)*64+(z:Int):=ab aoz aoz;have w4:IntKind.i64.wrap ((c:Int)*64+(z:Int)-128)=((c*64+z-128:Nat):Int):=by rw[ab aoz aoz];omega
 have hcc:c*64+z-128<256*64^(i+1-1):=by have:i=1\/i=2\/i=3:=aoz;rcases this with rfl|rfl|rfl<;>simp at hc⊢<;>omega
 obtain⟨c',hc'⟩:=ak7 (c*64+z-128);rw[hc']at w4 hO2 hcc;replace hO2:=hid hO2;clear hcn hc';refine wk ?_;exact aoE aoz aoC ⟨i+1,c',rfl,aoz,hlt,hcc,hO2,rfl,rfl⟩;rw[if_neg hcn]at hO2;have hI4:=hI3.o;rw[<- hO2]at hI4;have e:=hid hI4.symm;by_cases k2:(z:Int)<128;clear hcn hO2 hI4;refine wk ?_;exact hbad.o e.o;have k3:(192:Int)<=(z:Int):=aoz;clear hcn hO2 hI4;refine wk ?_;exact hbad.o e.o
 .have hke:i=n:=aoz;subst hke;have g1:¬(i:Int)<(i:Int):=aoz;have hO2:=hO.o;rw[amz,Pw]at hO2;have hI4:=hI3.o;rw[<- hO2]at hI4;simp only[Qe]at hI4;have e1:((i:Int)).toNat=i:=aoz;have g2:(i:Int)<=(u.length:Int):=aoz;have e2:(u.drop i).take (u.length-i)=u.drop i:=amb aoA;have e3:u.drop i=t.drop (i-1):=(by rw[<- hdr (i-1),show i-1+1=i by omega]);have hb2:(i=2/\c<128\/i=3/\c<2048\/i=4/\c<65536\/1114111<c\/55296<=c/\c<57344)->R=false:=λe=>by rw[decide_eq_false (λhn=>hn e),amA]at hI4;exact hI4.symm
  have hg2:¬(i=2/\c<128\/i=3/\c<2048\/i=4/\c<65536\/1114111<c\/55296<=c/\c<57344)->Ui f (u.drop i)=R:=λe=>by rw[decide_eq_true e,al0]at hI4;rw[e3];exact hI4
  replace hb2:=hid hb2;replace hg2:=hid hg2;replace e3:=hid e3;clear hI4 hO2 hI3
  repeat' first
   |refine bu ?_
   | (first|refine bj aoB ?_|refine aJ aoB ?_|refine aM ?_|refine cN ?_|refine bE (fun _=>?_)|refine aC ?_|refine bo ?_)
     simp(config:={maxSteps:=2000000}) only[Kon,push_cast,reduceIte,Nat.reduceEqDiff,Nat.reduceAdd,Nat.reduceMul,Nat.reduceSub,Nat.reduceLT,Nat.reduceLeDiff,Int.reduceLT,Int.reduceLE,Int.reduceAdd,Int.reduceSub,Int.reduceNeg,Int.reduceToNat,Int.reduceEq,reduceCtorEq, *]
   | (first|refine a8 aoB ?_|refine ba ?_|refine aL ?_|refine bm ?_|refine bJ (aB ?_))
     simp only[push_cast,reduceIte,Nat.reduceEqDiff,Nat.reduceAdd,Nat.reduceMul,Nat.reduceSub,Nat.reduceLT,Nat.reduceLeDiff,Int.reduceLT,Int.reduceLE,Int.reduceAdd,Int.reduceSub,Int.reduceNeg,Int.reduceToNat,Int.reduceEq,reduceCtorEq, *]
   |exact bF
   |first|apply bG|apply be|apply bH|apply bf|apply bI|apply bg
   |refine aP ?_
   |refine aK ?_
   |first|refine aN rfl ?_|refine aO rfl ?_|refine ax rfl ?_ ?_|refine aT rfl (λ_=>?_) (λ_=>?_)|refine aS rfl (λ_=>?_) (λ_=>?_)
   |((first|refine au (λ_=>?_) (λ_=>?_)|refine aA (λ_=>?_) (λ_=>?_))<;>try simp(config:={maxSteps:=2000000}) only[Kon,push_cast,reduceIte,Nat.reduceEqDiff,Nat.reduceAdd,Nat.reduceMul,Nat.reduceSub,Nat.reduceLT,Nat.reduceLeDiff,Int.reduceLT,Int.reduceLE,Int.reduceAdd,Int.reduceSub,Int.reduceNeg,Int.reduceToNat,Int.reduceEq,reduceCtorEq, *])
   |refine And.intro trivial ?_
   |refine And.intro aoz ?_
   |refine aY rfl (λ_=>?_) (λ_=>?_)
   |refine And.intro ?_ ?_
  rename_i hx;exact hbad.o (hb2.o aoz);rename_i hx;refine aoE aoz (CutL (b:=ale _)) ⟨f,u.drop i,rfl,?_,hid ⟨?_,hg2.o aoz⟩,rfl,rfl⟩;simp;omega;simp;omega
def Cn(x:Nat):Prop:=128<=x/\x<192
instance (x:Nat):Decidable (Cn x):=by unfold Cn;infer_instance
def LN(n b0 b1:Nat):Prop:=n<2\/¬Cn b1\/(b0-192)*64+b1-128<128
def Sg(n b0 b1 b2:Nat):Prop:=n<3\/¬Cn b1\/¬Cn b2\/((b0-224)*64+b1-128)*64+b2-128<2048\/55296<=((b0-224)*64+b1-128)*64+b2-128/\((b0-224)*64+b1-128)*64+b2-128<57344
def Mx(n b0 b1 b2 b3:Nat):Prop:=n<4\/¬Cn b1\/¬Cn b2\/¬Cn b3\/(((b0-240)*64+b1-128)*64+b2-128)*64+b3-128<65536\/1114111<(((b0-240)*64+b1-128)*64+b2-128)*64+b3-128
instance (n b0 b1:Nat):Decidable (LN n b0 b1):=by unfold LN;infer_instance
instance (n b0 b1 b2:Nat):Decidable (Sg n b0 b1 b2):=by unfold Sg;infer_instance
instance (n b0 b1 b2 b3:Nat):Decidable (Mx n b0 b1 b2 b3):=by unfold Mx;infer_instance
def jz(n b0 b1 b2 b3:Nat):Nat :=
 if b0<128 then 1 else if b0<192 then 0
 else if b0<224 then(if LN n b0 b1 then 0 else 2)
 else if b0<240 then(if Sg n b0 b1 b2 then 0 else 3)
 else(if Mx n b0 b1 b2 b3 then 0 else 4)
set_option maxRecDepth 100000 in
set_option maxHeartbeats 4000000 in
theorem Zf(n b0 b1 b2 b3:Nat)(h0:b0<256)(h1:b1<256)(h2:b2<256)(h3:b3<256):
  (jz n b0 b1 b2 b3=0/\Lib.decodeN n b0 b1 b2 b3=(65533,1))\/(1<=jz n b0 b1 b2 b3/\(Lib.decodeN n b0 b1 b2 b3).2=jz n b0 b1 b2 b3/\¬((Lib.decodeN n b0 b1 b2 b3).1=65533/\(Lib.decodeN n b0 b1 b2 b3).2=1)):=by
 unfold jz Lib.decodeN;by_cases c1:b0<128;rw[if_pos c1,if_pos c1];right;exact⟨aoz,rfl,λh=>by have h1:b0=65533:=h.1;omega⟩;rw[if_neg c1,if_neg c1];by_cases c2:b0<192;rw[if_pos c2,if_neg aoz,if_neg aoz,if_neg aoz];exact .inl ⟨rfl,rfl⟩;rw[if_neg c2];by_cases c3:b0<224;rw[if_pos c3];by_cases hA:LN n b0 b1;rw[if_pos hA];refine .inl ⟨rfl,?_⟩;unfold LN Cn at hA;by_cases hc:b0/32=6/\(1<n/\b1/64=2);rw[if_pos hc,if_neg aoz];rw[if_neg hc,if_neg aoz,if_neg aoz];rw[if_neg hA];unfold LN Cn at hA;rw[if_pos aoz,if_pos aoz];exact .inr ⟨aoz,rfl,λh=>by have h2:(2:Nat)=1:=h.2;omega⟩;rw[if_neg c3];by_cases c4:b0<240;rw[if_pos c4,if_neg (show ¬(b0/32=6/\(1<n/\b1/64=2))by omega)];by_cases hA:Sg n b0 b1 b2;rw[if_pos hA];refine .inl ⟨rfl,?_⟩;unfold Sg Cn at hA;by_cases hc:b0/16=14/\(1<n/\b1/64=2)/\(2<n/\b2/64=2);rw[if_pos hc,if_neg aoz];rw[if_neg hc,if_neg aoz];rw[if_neg hA];unfold Sg Cn at hA;rw[if_pos aoz,if_pos aoz];exact .inr ⟨aoz,rfl,λh=>by have h2:(3:Nat)=1:=h.2;omega⟩;rw[if_neg c4,if_neg (show ¬(b0/32=6/\(1<n/\b1/64=2))by omega),if_neg (show ¬(b0/16=14/\(1<n/\b1/64=2)/\(2<n/\b2/64=2))by omega)];by_cases hA:Mx n b0 b1 b2 b3;rw[if_pos hA];refine .inl ⟨rfl,?_⟩;unfold Mx Cn at hA;by_cases hc:b0/8=30/\(1<n/\b1/64=2)/\(2<n/\b2/64=2)/\(3<n/\b3/64=2);rw[if_pos hc,if_neg aoz];rw[if_neg hc];rw[if_neg hA];unfold Mx Cn at hA;rw[if_pos aoz,if_pos aoz];exact .inr ⟨aoz,rfl,λh=>by have h2:(4:Nat)=1:=h.2;omega⟩
theorem Ze(b:UInt8)(t:List UInt8)(f:Nat):Ui (f+1) (b::t)=if jz (t.length+1) b.toNat (t.getD 0 0).toNat (t.getD 1 0).toNat (t.getD 2 0).toNat=0 then false else Ui f ((b::t).drop (jz (t.length+1) b.toNat (t.getD 0 0).toNat (t.getD 1 0).toNat (t.getD 2 0).toNat)):=by
 have hb:=b.toNat_lt;rw[Ui];obtain⟨x,hx⟩:=ak7 (b.toNat);rw[hx]at hb⊢;unfold jz;by_cases c1:x<128;have e1:¬(128<=x/\x<192):=aoz;have hh:qi x=(1,x):=by unfold qi;rw[if_neg aoz,if_neg aoz,if_neg aoz]
 rw[hh,if_neg e1,if_pos c1];simp only[Pw,amz,anj];rw[if_neg aoz,if_neg aoz,show Qe 1 x=true from decide_eq_true aoz];rfl;by_cases c2:x<192;simp[c1,c2,show 128<=x by omega];have e1:¬(128<=x/\x<192):=aoz;rw[if_neg e1,if_neg c1,if_neg c2];by_cases c3:x<224;have hh:qi x=(2,x-192):=by unfold qi;rw[if_neg aoz,if_neg aoz,if_pos aoz]
 rw[if_pos c3,hh];simp only[show 2-1=1 from rfl];rcases t with _|⟨y,t⟩;simp[LN];simp only[alp,amn,Pw];rw[if_neg aoz];by_cases hA:LN (t.length+1+1) x y.toNat;simp only[if_pos hA,if_true];by_cases hy:128<=y.toNat/\y.toNat<192;simp only[if_pos hy];unfold LN Cn at hA;rw[show Qe 2 ((x-192)*64+y.toNat-128)=false from decide_eq_false aoz];rfl;simp only[if_neg hy];simp only[if_neg hA];unfold LN Cn at hA;simp only[if_pos (show 128<=y.toNat/\y.toNat<192 by omega),Nat.reduceEqDiff,if_false];rw[show Qe 2 ((x-192)*64+y.toNat-128)=true from decide_eq_true aoz];rfl;rw[if_neg c3];by_cases c4:x<240;have hh:qi x=(3,x-224):=by unfold qi;rw[if_neg aoz,if_pos aoz]
 rw[if_pos c4,hh];simp only[show 3-1=2 from rfl];rcases t with _|⟨y,_|⟨z,t⟩⟩;simp[Sg];simp[Sg];simp only[alp,amn,am0,Pw];rw[if_neg aoz];by_cases hA:Sg (t.length+1+1+1) x y.toNat z.toNat;simp only[if_pos hA,if_true];by_cases hy:128<=y.toNat/\y.toNat<192;by_cases hz:128<=z.toNat/\z.toNat<192;simp only[if_pos hy,if_pos hz];unfold Sg Cn at hA;rw[show Qe 3 (((x-224)*64+y.toNat-128)*64+z.toNat-128)=false from decide_eq_false aoz];rfl;simp only[if_pos hy,if_neg hz];simp only[if_neg hy];simp only[if_neg hA];unfold Sg Cn at hA;simp only[if_pos (show 128<=y.toNat/\y.toNat<192 by omega),if_pos (show 128<=z.toNat/\z.toNat<192 by omega),Nat.reduceEqDiff,if_false];rw[show Qe 3 (((x-224)*64+y.toNat-128)*64+z.toNat-128)=true from decide_eq_true aoz];rfl;have hh:qi x=(4,x-240):=by unfold qi;rw[if_pos aoz]
 rw[if_neg c4,hh];simp only[show 4-1=3 from rfl];rcases t with _|⟨y,_|⟨z,_|⟨w,t⟩⟩⟩;simp[Mx];simp[Mx];simp[Mx];simp only[alp,amn,am0,Pw];rw[if_neg aoz];by_cases hA:Mx (t.length+1+1+1+1) x y.toNat z.toNat w.toNat;simp only[if_pos hA,if_true];by_cases hy:128<=y.toNat/\y.toNat<192;by_cases hz:128<=z.toNat/\z.toNat<192;by_cases hw:128<=w.toNat/\w.toNat<192;simp only[if_pos hy,if_pos hz,if_pos hw];unfold Mx Cn at hA;rw[show Qe 4 ((((x-240)*64+y.toNat-128)*64+z.toNat-128)*64+w.toNat-128)=false from decide_eq_false aoz];rfl;simp only[if_pos hy,if_pos hz,if_neg hw];simp only[if_pos hy,if_neg hz];simp only[if_neg hy];simp only[if_neg hA];unfold Mx Cn at hA;simp only[if_pos (show 128<=y.toNat/\y.toNat<192 by omega),if_pos (show 128<=z.toNat/\z.toNat<192 by omega),if_pos (show 128<=w.toNat/\w.toNat<192 by omega),Nat.reduceEqDiff,if_false];rw[show Qe 4 ((((x-240)*64+y.toNat-128)*64+z.toNat-128)*64+w.toNat-128)=true from decide_eq_true aoz];rfl
theorem LY:∀(f:Nat) (l:List UInt8),l.length<=f->Ui f l=Lib.validD l
 |_,[],_=>by simp[Ui,Lib.validD_nil]
 |0,_::_,h=>by simp at h
 | f+1,b::t,h=>by
   rw[Ze,Lib.validD_step _ aoA,Lib.decodeL_N];simp only[alp,amn,am0];rcases Zf (t.length+1) b.toNat (t.getD 0 0).toNat (t.getD 1 0).toNat (t.getD 2 0).toNat b.toNat_lt (t.getD 0 0).toNat_lt (t.getD 1 0).toNat_lt (t.getD 2 0).toNat_lt with⟨h1,h2⟩|⟨h1,h2,h3⟩
   .rw[h1,h2];simp
   .rw[if_neg aoz,if_neg h3,h2];refine LY f _ ?_;rw[anm];simp only[alp]at h⊢;omega
def Mw(s:List UInt8):Bool:=s.all eZ&&decide (0<s.length)
theorem dX{s:List UInt8}(hs:s.length<=1100000){L:List Blk}{K:alc}(h:K (.bool (Mw s)) L):alb 130 [.str s] L K:=by
 have no:s.all eZ=false->K (.bool false) L:=λe=>by have h':=h;rwa[Mw,e,amA]at h'
 replace no:=hid no;replace h:=hid h;refine ala Se ?_;refine ah (λn T' L'=>∃i:Nat,n=s.length-i/\i<=s.length/\Hid ((s.take i).all eZ=true)/\T'=[(3,.int .i64 (i:Int)),(0,.str s)]/\L=L') (CutS (b:=ale _)) ⟨0,rfl,ali _,hid rfl,rfl,rfl⟩ ?_;rintro _ _ _ ⟨i,rfl,hi,hall,rfl,rfl⟩;by_cases hlt:i<s.length
 .have g1:(i:Int)<(s.length:Int):=aoz;have g2:=ak9 i aoz;obtain⟨c,hc⟩:=ak7 (s.getD i 0);have hm:c∈s:=(by rw[<- hc];simp[hlt]);have htk:s.take (i+1)=s.take i++[c]:=(by rw[aly hlt,<- hc];simp[hlt]);have bad:=hid λ(e:eZ c=false)=>no.o (List.all_eq_false.2 ⟨c,hm,by rw[e];simp⟩)
  have good:=hid λ(e:eZ c=true)=>show(s.take (i+1)).all eZ=true by rw[htk,amB,hall.o];simp[e]
  clear hm htk
  repeat' first
   |refine bu ?_
   | (first|refine bj aoB ?_|refine aJ aoB ?_|refine aM ?_|refine cN ?_|refine bE (fun _=>?_)|refine aC ?_|refine bo ?_)
     refine sm ?_
   | (first|refine a8 aoB ?_|refine ba ?_|refine aL ?_|refine bm ?_|refine bJ (aB ?_))
     refine sl ?_
   |exact bF
   |first|apply bG|apply be|apply bH|apply bf|apply bI|apply bg
   |refine aP ?_
   |refine aK ?_
   |first|refine aN rfl ?_|refine aO rfl ?_|refine ax rfl ?_ ?_|refine aT rfl (λ_=>?_) (λ_=>?_)|refine aS rfl (λ_=>?_) (λ_=>?_)
   |((first|refine au (λ_=>?_) (λ_=>?_)|refine aA (λ_=>?_) (λ_=>?_))<;>try refine sm ?_)
   |refine And.intro trivial ?_
   |refine And.intro aoz ?_
   |refine aY rfl (λ_=>?_) (λ_=>?_)
   |refine And.intro ?_ ?_
  rename_i hx;refine aa (bad.o ?_);simp only[eZ,anw,decide_eq_false_iff_not];omega;rename_i hx;refine aoE aoz (CutL (b:=ale _)) ⟨i+1,rfl,aoz,hid (good.o ?_),rfl,rfl⟩;simp only[eZ,alk,decide_eq_true_eq];omega
 have hke:i=s.length:=aoz;subst hke;have g1:¬(s.length:Int)<(s.length:Int):=aoz;have hda:=hall.o;rw[alt]at hda;have h':=h.o;rw[Mw,hda,al0,show decide (0<s.length)=decide ((0:Int)<(s.length:Int))by simp]at h';replace h':=hid h';clear hda;refine wk ?_;exact aa h'.o
def Yv(s:List UInt8):Nat:=s.foldl (λn c=>10*n+(c.toNat-48)) 0
theorem ai4(hs:s.length<=4)(hd:∀c∈s,eZ c=true)(h:K (.int .i64 (Yv s:Nat)) L):alb 133 [.str s] L K:=by
 replace h:=hid h;replace hd:=hid hd;refine ala Wg ?_;refine ah (λm T' L'=>∃(i n:Nat),m=s.length-i/\i<=s.length/\n<10^i/\Hid (n=Yv (s.take i))/\T'=[(4,.int .i64 (i:Int)),(3,.int .i64 (n:Int)),(0,.str s)]/\L=L') (CutS (b:=ale _)) ⟨0,0,rfl,ali _,by decide,hid rfl,rfl,rfl⟩ ?_;rintro _ _ _ ⟨i,n,rfl,hi,hn,hI,rfl,rfl⟩;by_cases hlt:i<s.length;have g1:(i:Int)<(s.length:Int):=aoz;have g2:=ak9 i aoz;obtain⟨c,hc⟩:=ak7 (s.getD i 0);have hm:=hd.o c (by rw[<- hc];simp[hlt]);simp only[eZ,alk,decide_eq_true_eq]at hm;have htk:s.take (i+1)=s.take i++[c]:=by rw[aly hlt,<- hc];simp[hlt]
 obtain⟨x,hx⟩:∃x:Nat,c.toNat=48+x:=⟨c.toNat-48,aoz⟩;have hx9:x<=9:=aoz;have hxi:(c.toNat:Int)=48+(x:Int):=aoz;have hn4:n<1000:=by refine amL hn ?_;have:i=0\/i=1\/i=2\/i=3:=aoz;rcases this with rfl|rfl|rfl|rfl<;>decide
 have hnx:Yv (s.take (i+1))=10*n+x:=by rw[htk,Yv,anb,<- Yv,<- hI.o];simp only[al7,ann];omega
 have w1:IntKind.u8.wrap (48+(x:Int)-48)=(x:Int):=by rw[cL aoz aoz];omega
 have w2:IntKind.i64.wrap (x:Int)=(x:Int):=ab aoz aoz;have w3:IntKind.i64.wrap (10*(n:Int))=10*(n:Int):=ab aoz aoz;have w4:IntKind.i64.wrap (10*(n:Int)+(x:Int))=10*(n:Int)+(x:Int):=ab aoz aoz;have hnn:10*n+x<10^(i+1):=by rw[anV];omega
 replace hnx:=hid hnx;clear hm htk hx;refine wk ?_;exact aoE aoz (CutL (b:=ale _)) ⟨i+1,10*n+x,rfl,aoz,hnn,hid hnx.o.symm,rfl,rfl⟩;have hke:i=s.length:=aoz;subst hke;have g1:¬(s.length:Int)<(s.length:Int):=aoz;have e:=hI.o;rw[alt]at e;have h':=h.o;rw[<- e]at h';replace h':=hid h';clear e hI;refine wk ?_;exact aa h'.o
abbrev afI:List UInt8:=[57,50,50,51,51,55,50,48,51,54,56,53,52,55,55,53,56,48,55]
abbrev afJ:List UInt8:=[57,50,50,51,51,55,50,48,51,54,56,53,52,55,55,53,56,48,56]
def ZA(w most:List UInt8):Bool:=Mw w && !decide (w.getD 0 0=48)&&(decide (w.length<19) ||decide (w.length=19)&&(Op.bytesLess w most ||decide (w=most)))
def afC(v:List UInt8):Bool:=if v=[48]then true else match v with
 |[]=>false
 |c::t=>if c=45 then ZA t afJ else ZA (c::t) afI
theorem TX{w most:List UInt8}(hw:w.length<=1100000):ZA w most=(if Mw w=true then(!decide (w.getD 0 0=48)&&(decide (w.length<19) ||decide (w.length=19)&&(Op.bytesLess w most ||decide (w=most))))else false):=by unfold ZA;cases Mw w<;>rfl
theorem Xj(hv:v.length<=1100000)(h:K (.bool (afC v)) L):alb 91 [.str v] L K:=by
 unfold afC at h;refine ac Sc (by simp[rX]) ?_;simp only[rX,am];by_cases h0:v=[48];rw[if_pos h0]at h;replace h:=hid h;refine wk ?_;exact aa h.o;rw[if_neg h0]at h;have dg:∀w:List UInt8,Mw w=true->(0:Int)<(w.length:Int):=λw e=>by simp only[Mw,alk,decide_eq_true_eq]at e;omega
 rcases v with _|⟨c,t⟩;simp only at h;replace h:=hid h;have e0:Mw []=false:=rfl;have e1:([]:List UInt8).length=0:=rfl;have kk1:=@aoG _ _ _ _ (dX hv);refine wk ?_;exact aa h.o;simp only at h;have hl:(c::t).length=t.length+1:=rfl;have hc0:(c::t).getD 0 0=c:=rfl;have hd1:(c::t).drop 1=t:=rfl;simp only[alp]at hv;have htl:t.length<=1100000:=aoz;have q7:t.take (((t.length:Int)+1).toNat-1)=t:=by rw[show((t.length:Int)+1).toNat-1=t.length by omega,alt]
 have q8:(0:Int)<(t.length:Int)+1:=aoz;by_cases h45:c=45
 .rw[if_pos h45,TX htl]at h;subst h45;have k1:((45:UInt8).toNat:Int)=45:=rfl;cases hd:Mw t with
  | false =>
    rw[hd,if_neg aoA]at h;replace h:=hid h;have kk1:=@aoG _ _ _ _ (dX htl);refine wk ?_;exact aa h.o
  | true =>
    rw[hd,if_pos rfl]at h;obtain⟨x,hx⟩:=ak7 (t.getD 0 0);rw[hx,show decide (x=48)=decide ((x.toNat:Int)=48)by rw[decide_eq_decide];exact(bv x 48).symm,show decide (t.length<19)=decide ((t.length:Int)<19)by simp;omega,show decide (t.length=19)=decide ((t.length:Int)=19)by rw[decide_eq_decide];omega]at h;replace h:=hid h;have g1:=dg t hd
    repeat' first
     |refine bu ?_
     | (first|refine bj aoB ?_|refine aJ aoB ?_|refine aM ?_|refine cN ?_|refine bE (fun _=>?_)|refine aC ?_|refine bo ?_|refine dX htl ?_|refine bh (dX htl ⟨rfl,rfl⟩) (dX htl ⟨rfl,rfl⟩) ?_|refine aF (dX htl ⟨rfl,rfl⟩) ?_)
       refine sm ?_
     | (first|refine a8 aoB ?_|refine ba ?_|refine aL ?_|refine bm ?_|refine bJ (aB ?_))
       refine sl ?_
     |exact bF
     |first|apply bG|apply be|apply bH|apply bf|apply bI|apply bg
     |refine aP ?_
     |refine aK ?_
     |first|refine aN rfl ?_|refine aO rfl ?_|refine ax rfl ?_ ?_|refine aT rfl (λ_=>?_) (λ_=>?_)|refine aS rfl (λ_=>?_) (λ_=>?_)
     |((first|refine au (λ_=>?_) (λ_=>?_)|refine aA (λ_=>?_) (λ_=>?_))<;>try refine sm ?_)
     |refine And.intro trivial ?_
     |refine And.intro aoz ?_
     |refine aY rfl (λ_=>?_) (λ_=>?_)
     |refine And.intro ?_ ?_
    exact aa h.o
 .rw[if_neg h45,TX (by simp;omega)]at h;have k1:¬(c.toNat:Int)=45:=λe=>h45 ((bv c 45).1 e)
  obtain⟨v,hv2⟩:=ak7 (c::t);rw[hv2]at h hl hc0 h0⊢;have hvl:v.length<=1100000:=aoz;have g0:(0:Int)<(v.length:Int):=aoz;replace hv2:=hid hv2;clear hd1 hl q7 q8;cases hd:Mw v with
  | false =>
    rw[hd,if_neg aoA]at h;replace h:=hid h;have kk1:=@aoG _ _ _ _ (dX hvl);refine wk ?_;exact aa h.o
  | true =>
    rw[hd,if_pos rfl]at h;rw[hc0,show decide (c=48)=decide ((c.toNat:Int)=48)by rw[decide_eq_decide];exact(bv c 48).symm,show decide (v.length<19)=decide ((v.length:Int)<19)by simp;omega,show decide (v.length=19)=decide ((v.length:Int)=19)by rw[decide_eq_decide];omega]at h;replace h:=hid h
    repeat' first
     |refine bu ?_
     | (first|refine bj aoB ?_|refine aJ aoB ?_|refine aM ?_|refine cN ?_|refine bE (fun _=>?_)|refine aC ?_|refine bo ?_|refine dX hvl ?_|refine bh (dX hvl ⟨rfl,rfl⟩) (dX hvl ⟨rfl,rfl⟩) ?_|refine aF (dX hvl ⟨rfl,rfl⟩) ?_)
       refine sm ?_
     | (first|refine a8 aoB ?_|refine ba ?_|refine aL ?_|refine bm ?_|refine bJ (aB ?_))
       refine sl ?_
     |exact bF
     |first|apply bG|apply be|apply bH|apply bf|apply bI|apply bg
     |refine aP ?_
     |refine aK ?_
     |first|refine aN rfl ?_|refine aO rfl ?_|refine ax rfl ?_ ?_|refine aT rfl (λ_=>?_) (λ_=>?_)|refine aS rfl (λ_=>?_) (λ_=>?_)
     |((first|refine au (λ_=>?_) (λ_=>?_)|refine aA (λ_=>?_) (λ_=>?_))<;>try refine sm ?_)
     |refine And.intro trivial ?_
     |refine And.intro aoz ?_
     |refine aY rfl (λ_=>?_) (λ_=>?_)
     |refine And.intro ?_ ?_
    exact aa h.o
def dL(n:Nat)(s:List UInt8):Nat:=s.foldl (λn c=>10*n+(c.toNat-48)) n
theorem UR{c:UInt8}(h:eZ c=true):∃d,d<=9/\c.toNat=48+d:=by simp only[eZ,alk,decide_eq_true_eq]at h;exact⟨c.toNat-48,aoz,aoz⟩
theorem xO:∀(s:List UInt8) (n:Nat),dL n s=n*10^s.length+dL 0 s
 |[],n=>by simp[dL]
 |c::s,n=>by have h1:=xO s (10*n+(c.toNat-48));have h2:=xO s (10*0+(c.toNat-48));simp only[dL,al7]at h1 h2⊢;rw[h1,h2,alp,anV];rw[Nat.mul_zero,amy,amh,Nat.mul_comm (10^s.length) 10,<- Nat.mul_assoc,Nat.mul_comm n 10];omega
theorem La:∀(s:List UInt8),(∀c∈s,eZ c=true)->dL 0 s<10^s.length
 |[],_=>by simp[dL]
 | c::s,h=>by
   have ih:=La s λd hd=>h d (amp _ hd)
   obtain⟨d,hd,hc⟩:=UR (h c aoA);have e:=xO s (10*0+(c.toNat-48));simp only[dL,al7]at e ih⊢;rw[e,alp,anV,hc];have:(10*0+(48+d-48))*10^s.length<=9*10^s.length:=amj _ aoz;omega
theorem Sw:∀(a b:List UInt8),(∀c∈a,eZ c=true)->(∀c∈b,eZ c=true)->a.length=b.length->(a<b↔dL 0 a<dL 0 b)
 |[],[],_,_,_=>by simp[dL]
 |[],_::_,_,_,h=>by simp at h
 |_::_,[],_,_,h=>by simp at h
 | x::a,y::b,ha,hb,hl=>by
   simp only[alp,Nat.add_right_cancel_iff]at hl;have ha':=λc hc=>ha c (amp _ hc)
   have hb':=λc hc=>hb c (amp _ hc)
   have ih:=Sw a b ha' hb' hl;have la:=La a ha';have lb:=La b hb';obtain⟨d,hd,hx⟩:=UR (ha x aoA);obtain⟨e,he,hy⟩:=UR (hb y aoA);have ea:dL 0 (x::a)=d*10^a.length+dL 0 a:=by have:=xO a (10*0+(x.toNat-48));rw[hx,show 10*0+(48+d-48)=d by omega]at this;rw[<- this];simp only[dL,al7,hx];congr 1;omega
   have eb:dL 0 (y::b)=e*10^b.length+dL 0 b:=by have:=xO b (10*0+(y.toNat-48));rw[hy,show 10*0+(48+e-48)=e by omega]at this;rw[<- this];simp only[dL,al7,hy];congr 1;omega
   rw[ea,eb,List.cons_lt_cons_iff,ih,hl];rw[hl]at la;have hxy:x<y↔d<e:=by show x.toNat<y.toNat↔_;omega
   have hxe:x=y↔d=e:=(by rw[<- am2];omega);rw[hxy,hxe];obtain⟨p,hp⟩:=ak7 (10^b.length);rw[hp]at la lb⊢;rcases an0 d e with h|h|h
   .have:(d+1)*p<=e*p:=amj _ h;rw[amh]at this;constructor
    .intro _;omega
    .intro _;exact .inl h
   .subst h;constructor
    .rintro(h|⟨_,h⟩)
     .omega
     .omega
    .intro h;exact .inr ⟨rfl,aoz⟩
   .have:(e+1)*p<=d*p:=amj _ h;rw[amh]at this;constructor
    .rintro(h|⟨h,_⟩)<;>omega
    .intro h;omega
theorem aiz:∀u:Nat,dL 0 (Lib.decDigits u)=u/\(∀c∈Lib.decDigits u,eZ c=true)/\u<10^(Lib.decDigits u).length/\(1<=u->10^((Lib.decDigits u).length-1)<=u):=by
 intro u;induction u using Nat.strongRecOn with
 | _ u ih =>
   by_cases h10:u<10
   .have hd:(UInt8.ofNat (48+u)).toNat=48+u:=u8n aoz;rw[Lib.decDigits,dif_pos h10];refine⟨?_,?_,?_,?_⟩
    .simp only[dL,al7,ann,hd];omega
    .intro c hc;rw[alB.1 hc];simp only[eZ,hd,alk,decide_eq_true_eq];omega
    .simpa using h10
    .intro h;simpa using h
   .obtain⟨i1,i2,i3,i4⟩:=ih (u/10) aoz;have hd:(UInt8.ofNat (48+u%10)).toNat=48+u%10:=u8n aoz;rw[Lib.decDigits,dif_neg h10];refine⟨?_,?_,?_,?_⟩
    .unfold dL at i1⊢;rw[anb,i1];simp only[al7,ann,hd];omega
    .intro c hc;rcases alh.1 hc with h|h
     .exact i2 c h
     .rw[alB.1 h];simp only[eZ,hd,alk,decide_eq_true_eq];omega
    .rw[alw,an1,anV];omega
    .intro _;have:=i4 aoz;rw[alw,an1,Nat.add_sub_cancel];obtain⟨c,r,e,_⟩:=ya (u/10);have hl:1<=(Lib.decDigits (u/10)).length:=(by rw[e];simp);obtain⟨k,hk⟩:∃k,(Lib.decDigits (u/10)).length=k+1:=⟨(Lib.decDigits (u/10)).length-1,aoz⟩;rw[hk]at this⊢;rw[Nat.add_sub_cancel]at this;rw[anV];omega
theorem aj0:∀(n:Nat) (w:List UInt8),w.length=n->(∀c∈w,eZ c=true)->w≠[]->w.getD 0 0≠48->1<=dL 0 w/\Lib.decDigits (dL 0 w)=w:=by
 intro n;induction n with
 |zero=>intro w hl _ hne;exact absurd (alS.1 hl) hne
 | succ n ih =>
   intro w hl hd hne h48;obtain⟨t,c,rfl⟩:∃t c,w=t++[c]:=⟨w.dropLast,w.getLast hne,(List.dropLast_concat_getLast hne).symm⟩;obtain⟨d,hd9,hc⟩:=UR (hd c aoA);have hcc:UInt8.ofNat (48+d)=c:=(by rw[<- hc];simp);have ev:dL 0 (t++[c])=10*dL 0 t+d:=by simp only[dL,anb,al7,ann,hc];omega
   rcases t with _|⟨x,t⟩
   .have:d≠0:=λe=>h48 (by simp only[alL,amn];exact am2.1 (by rw[hc,e];rfl))
    have e0:dL 0 ([]:List UInt8)=0:=rfl;rw[ev,e0];refine⟨aoz,?_⟩;rw[Lib.decDigits,dif_pos aoz,show 48+(10*0+d)=48+d by omega,hcc];rfl
   .obtain⟨j1,j2⟩:=ih (x::t) (by simpa using hl) (λc hc=>hd c (amT _ hc)) aoA (by simpa using h48);rw[ev];refine⟨aoz,?_⟩;rw[Lib.decDigits,dif_neg aoz,show(10*dL 0 (x::t)+d)/10=dL 0 (x::t)by omega,show(10*dL 0 (x::t)+d)%10=d by omega,j2,hcc]
theorem Zz{w most:List UInt8}{M:Nat}(hm:dL 0 most=M)(hml:most.length=19)(hmd:∀c∈most,eZ c=true)(hM:10^18<=M):ZA w most=true↔∃u,1<=u/\u<=M/\w=Lib.decDigits u:=by
 have hM19:M<10^19:=by rw[<- hm,<- hml];exact La most hmd
 have le19:∀w:List UInt8,(∀c∈w,eZ c=true)->w.length=19->((Op.bytesLess w most ||decide (w=most))=true↔dL 0 w<=M):=λw hw hl=>by rw[bytesLess_eq];simp only[alW,decide_eq_true_eq];have h1:=Sw w most hw hmd (by rw[hl,hml]);have h2:=Sw most w hmd hw (by rw[hl,hml]);rw[hm]at h1 h2;rw[h1];constructor;rintro(h|rfl);omega;omega;intro h;rcases alA (dL 0 w) M with h3|h3;exact .inl h3;refine .inr (aob (amG.1 λh4=>?_) (amG.1 λh4=>?_));have:=h2.1 h4;omega;have:=h1.1 h4;omega
 unfold ZA Mw;simp only[alk,alW,alT,decide_eq_false_iff_not,decide_eq_true_eq,aln];constructor;rintro⟨⟨⟨hd,hpos⟩,h48⟩,hlen⟩;obtain⟨h1,h2⟩:=aj0 _ w rfl hd (by rintro rfl;simp at hpos) h48;refine⟨dL 0 w,h1,?_,h2.symm⟩;rcases hlen with hlt|⟨heq,hle⟩;have:=La w hd;have h3:10^w.length<=10^18:=Nat.pow_le_pow_right (by decide) aoz;omega;have:=(le19 w hd heq).1 (by simpa using hle);exact this;rintro⟨u,h1,h2,rfl⟩;obtain⟨k1,k2,k3,k4⟩:=aiz u;obtain⟨c,r,e,c1,c2,c3⟩:=ya u;have hl19:(Lib.decDigits u).length<=19:=by rcases alA 19 (Lib.decDigits u).length with h|h;have h5:=k4 h1;have h6:10^19<=10^((Lib.decDigits u).length-1):=Nat.pow_le_pow_right (by decide) aoz;omega;exact h
 refine⟨⟨⟨k2,by rw[e];simp⟩,?_⟩,?_⟩;rw[e];simp only[amn];intro h;have:=c3 (by rw[h];rfl);omega;rcases alA (Lib.decDigits u).length 19 with h|h;exact .inl h;have hl:(Lib.decDigits u).length=19:=aoz;refine .inr ⟨hl,?_⟩;have:=(le19 _ k2 hl).2 (by rw[k1];exact h2);simpa using this
theorem aaZ(w:List UInt8):ZA w afI=true↔∃u,1<=u/\u<=9223372036854775807/\w=Lib.decDigits u:=Zz (by decide) (by decide) (by decide) (by decide)
theorem aa0(w:List UInt8):ZA w afJ=true↔∃u,1<=u/\u<=9223372036854775808/\w=Lib.decDigits u:=Zz (by decide) (by decide) (by decide) (by decide)
theorem afB(v:List UInt8):afC v=true↔∃m,I64 m/\Lib.itoa m=v:=by
 unfold afC;by_cases h0:v=[48];rw[if_pos h0];refine⟨λ_=>⟨0,by unfold I64;omega,?_⟩,λ_=>rfl⟩;rw[h0,Lib.itoa,if_neg (by decide),Lib.decDigits,dif_pos (by decide)];rfl;rw[if_neg h0];have hz:Lib.itoa 0=[48]:=by rw[Lib.itoa,if_neg (by decide),Lib.decDigits,dif_pos (by decide)];rfl
 rcases v with _|⟨c,t⟩;simp only[alx,false_iff];rintro⟨m,_,e⟩;obtain⟨c,r,e',_⟩:=adF m;rw[e']at e;cases e;simp only;by_cases h45:c=45;rw[if_pos h45,aa0];subst h45;constructor;rintro⟨u,h1,h2,rfl⟩;refine⟨-(u:Int),by unfold I64;omega,?_⟩;rw[Lib.itoa,if_pos aoz,show(-(u:Int)).natAbs=u by omega];rintro⟨m,hm,e⟩;unfold I64 at hm;by_cases hneg:m<0;rw[Lib.itoa,if_pos hneg]at e;exact⟨m.natAbs,aoz,aoz,(List.cons.inj e).2.symm⟩;rw[Lib.itoa,if_neg hneg]at e;obtain⟨c,r,e',c1,c2,_⟩:=ya m.toNat;rw[e']at e;have:=(List.cons.inj e).1;rw[this]at c1;exact absurd c1 (by decide);rw[if_neg h45,aaZ];constructor;rintro⟨u,h1,h2,e⟩;refine⟨(u:Int),by unfold I64;omega,?_⟩;rw[e,Lib.itoa,if_neg aoz];congr 1;rintro⟨m,hm,e⟩;unfold I64 at hm;by_cases hneg:m<0;rw[Lib.itoa,if_pos hneg]at e;exact absurd (List.cons.inj e).1.symm h45;have hm0:m≠0:=λe0=>h0 (by rw[<- e,e0,hz])
 rw[Lib.itoa,if_neg hneg]at e;exact⟨m.toNat,aoz,aoz,e.symm⟩
theorem adu(v:List UInt8):xP v=true↔∃m,I64 m/\Lib.itoa m=v:=by constructor;intro h;unfold xP at h;split at h;rename_i n hn;exact⟨n,TW hn,by simpa using h⟩;cases h;rintro⟨m,hm,rfl⟩;exact(afA hm).1
theorem ajy(v:List UInt8):afC v=xP v:=by exact Bool.eq_iff_iff.2 ((afB v).trans (adu v).symm)
theorem akZ{i:Nat}(h:i+2<=v.length):Yv ((v.drop i).take 2)=two v i:=by
 have e:(v.drop i).take 2=[v.getD i 0,v.getD (i+1) 0]:=by rw[nM (show i<v.length by omega),nM (show i+1<v.length by omega)];rfl
 rw[e];simp only[Yv,two,dig,al7,ann];omega
theorem akY(h:4<=v.length):Yv (v.take 4)=two v 0*100+two v 2:=by
 have e:v.take 4=[v.getD 0 0,v.getD 1 0,v.getD 2 0,v.getD 3 0]:=by have:=nM (show 0<v.length by omega);rw[anj]at this;rw[this,nM (show 0+1<v.length by omega),nM (show 0+1+1<v.length by omega),nM (show 0+1+1+1<v.length by omega)];rfl
 rw[e];simp only[Yv,two,dig,al7,ann,amy,Nat.reduceAdd];omega
theorem Xk(hv:v.length<=1100000)(h:K (.bool (Lb v)) L):alb 93 [.str v] L K:=by
 have no:Lb v=false->K (.bool false) L:=λe=>by rw[<- e];exact h
 replace no:=hid no;replace h:=hid h;refine ac Sd (by simp[rY]) ?_;simp only[rY,am];by_cases h15:v.length=15;rotate_left;have f1:¬(v.length:Int)=15:=aoz;have h':=hid (no.o (by simp[Lb,h15]));clear h15;refine wk ?_;exact aa h'.o;have f1:(v.length:Int)=15:=aoz;obtain⟨w,hw⟩:=ak7 (v.take 14);have hwl:w.length=14:=by rw[<- hw];simp[h15]
 have hwl2:w.length<=1100000:=aoz;cases hda:w.all eZ with
 | false =>
   have h':=hid (no.o (by simp[Lb,hw,hda]));have hds:Mw w=false:=(by simp[Mw,hda]);clear hwl h15;have kk1:=@aoG _ _ _ _ (dX hwl2);refine wk ?_;exact aa h'.o
 |true =>
 have hds:Mw w=true:=by simp[Mw,hda,hwl]
 obtain⟨z,hz⟩:=ak7 (v.getD 14 0);by_cases h90:z=90;rotate_left;have f2:¬(z.toNat:Int)=90:=λe=>h90 ((bv z 90).1 e)
 have h':=hid (no.o (by simp[Lb,<- hz]at h90⊢;simp[h90]));clear h90 hwl h15;have kk1:=@aoG _ _ _ _ (dX hwl2);refine wk ?_;exact aa h'.o;have f2:(z.toNat:Int)=90:=by rw[h90];rfl
 have hdv:∀i,i<14->eZ (v.getD i 0)=true:=λi hi=>by refine aln.1 hda _ ?_;rw[<- hw];have:v.getD i 0=(v.take 14)[i]'(by simp;omega):=(by simp[show i<v.length by omega]);rw[this];exact al6 _
 have hmem:∀(i n:Nat),i+n<=14->∀c∈(v.drop i).take n,eZ c=true:=λi n hin c hc=>by obtain⟨j,hj,rfl⟩:=aml.1 hc;simp only[amJ,anm]at hj;rw[List.getElem_take,List.getElem_drop];have:=hdv (i+j) aoz;rwa[show v.getD (i+j) 0=v[i+j]by simp[show i+j<v.length by omega]]at this
 have hdate:Lb v=aaf v:=by simp only[Lb,h15,hz,h90,hw,hda];simp
 have ct:∀i:Nat,i+2<=14->∀(K:AV->List Blk->Prop),K (.int .i64 (two v i:Nat)) L->alb 133 [.str ((v.drop i).take 2)] L K:=λi hi K h =>
  ai4 (by simp;omega) (hmem i 2 hi) (by rw[akZ aoz];exact h)
 have c4:∀(K:AV->List Blk->Prop),K (.int .i64 ((two v 0*100+two v 2:Nat):Int)) L->alb 133 [.str (v.take 4)] L K:=λK h =>
  ai4 (by simp;omega) (by have:=hmem 0 4 aoz;rwa[anj]at this) (by rw[akY aoz];exact h)
 have b0:=jB (hdv 0 aoz) (hdv 1 aoz);have b2:=jB (hdv 2 aoz) (hdv 3 aoz);have b4:=jB (hdv 4 aoz) (hdv 5 aoz);have b6:=jB (hdv 6 aoz) (hdv 7 aoz);have b8:=jB (hdv 8 aoz) (hdv 9 aoz);have b10:=jB (hdv 10 aoz) (hdv 11 aoz);have b12:=jB (hdv 12 aoz) (hdv 13 aoz);have kk1:=@hid _ (λ{K:alc}=>c4 K);have kk3:=@hid _ (λ{K:alc}=>ct 4 aoz K);have kk4:=@hid _ (λ{K:alc}=>ct 6 aoz K);have kk5:=@hid _ (λ{K:alc}=>ct 8 aoz K);have kk6:=@hid _ (λ{K:alc}=>ct 10 aoz K);have kk7:=@hid _ (λ{K:alc}=>ct 12 aoz K);have kk2:=@hid _ (λ{K:alc}=>@dX w hwl2 L K);have hfin:=h.o;rw[hdate]at hfin;unfold aaf at hfin;obtain⟨Y,hY⟩:=ak7 (two v 0*100+two v 2);obtain⟨M,hM⟩:=ak7 (two v 4);obtain⟨D,hD⟩:=ak7 (two v 6);obtain⟨H,hH⟩:=ak7 (two v 8);obtain⟨I,hI⟩:=ak7 (two v 10);obtain⟨S,hS⟩:=ak7 (two v 12);have hYb:Y<=9999:=aoz;rw[hY]at hfin kk1;rw[hM]at b4 hfin kk3;rw[hD]at b6 hfin kk4;rw[hH]at b8 hfin kk5;rw[hI]at b10 hfin kk6;rw[hS]at b12 hfin kk7;clear hY hM hD hH hI hS ct c4 hdate hdv hda h15 hwl hv h90 no h hmem b0 b2;have hbad:¬((1<=M/\M<=12)/\1<=D/\H<=23/\I<=59/\S<=59)->K (.bool false) L:=λe=>by rw[decide_eq_false e]at hfin;simpa using hfin
 replace hbad:=hid hbad;replace hfin:=hid hfin;by_cases m1:(M:Int)<1;refine wk ?_;exact aa (hbad.o aoz);by_cases m2:(12:Int)<(M:Int);refine wk ?_;exact aa (hbad.o aoz);by_cases m3:(D:Int)<1;refine wk ?_;exact aa (hbad.o aoz);by_cases m4:(23:Int)<(H:Int);refine wk ?_;exact aa (hbad.o aoz);by_cases m5:(59:Int)<(I:Int);refine wk ?_;exact aa (hbad.o aoz);by_cases m6:(59:Int)<(S:Int);refine wk ?_;exact aa (hbad.o aoz);have hfin2:=hfin.o;rw[show decide ((1<=M/\M<=12)/\1<=D/\H<=23/\I<=59/\S<=59)=true by simp;omega,al0]at hfin2;unfold XC afR at hfin2;obtain⟨r4,hr4⟩:=ak7 (Y%4);obtain⟨r100,hr100⟩:=ak7 (Y%100);obtain⟨r400,hr400⟩:=ak7 (Y%400);rw[hr4,hr100,hr400]at hfin2;have t4:Int.tmod (Y:Int) 4=(r4:Int):=by rw[ank aoz];omega
 have t100:Int.tmod (Y:Int) 100=(r100:Int):=by rw[ank aoz];omega
 have t400:Int.tmod (Y:Int) 400=(r400:Int):=by rw[ank aoz];omega
 replace hfin2:=hid hfin2;clear hr4 hr100 hr400;have days:∀d:Nat,(if M=2/\(decide (r4=0) && !decide (r100=0) ||decide (r400=0))=true then YS M+1 else YS M)=d->K (.bool (decide ((D:Int)<=(d:Int)))) L:=λd e=>by have:=hfin2.o;rw[e]at this;rwa[show decide (D<=d)=decide ((D:Int)<=(d:Int))by simp only[decide_eq_decide];omega]at this
 replace days:=hid days;by_cases q2:(M:Int)=2
 .have e2:M=2:=aoz;subst e2
  repeat' first
   |refine bu ?_
   | (first|refine bj aoB ?_|refine aJ aoB ?_|refine aM ?_|refine cN ?_|refine bE (fun _=>?_)|refine aC ?_|refine bo ?_|refine kk1.o ?_|refine kk2.o ?_|refine kk3.o ?_|refine kk4.o ?_|refine kk5.o ?_|refine kk6.o ?_|refine kk7.o ?_|refine bh (kk1.o ⟨rfl,rfl⟩) (kk1.o ⟨rfl,rfl⟩) ?_|refine bh (kk2.o ⟨rfl,rfl⟩) (kk2.o ⟨rfl,rfl⟩) ?_|refine bh (kk3.o ⟨rfl,rfl⟩) (kk3.o ⟨rfl,rfl⟩) ?_|refine bh (kk4.o ⟨rfl,rfl⟩) (kk4.o ⟨rfl,rfl⟩) ?_|refine bh (kk5.o ⟨rfl,rfl⟩) (kk5.o ⟨rfl,rfl⟩) ?_|refine bh (kk6.o ⟨rfl,rfl⟩) (kk6.o ⟨rfl,rfl⟩) ?_|refine bh (kk7.o ⟨rfl,rfl⟩) (kk7.o ⟨rfl,rfl⟩) ?_|refine aF (kk1.o ⟨rfl,rfl⟩) ?_|refine aF (kk2.o ⟨rfl,rfl⟩) ?_|refine aF (kk3.o ⟨rfl,rfl⟩) ?_|refine aF (kk4.o ⟨rfl,rfl⟩) ?_|refine aF (kk5.o ⟨rfl,rfl⟩) ?_|refine aF (kk6.o ⟨rfl,rfl⟩) ?_|refine aF (kk7.o ⟨rfl,rfl⟩) ?_)
     refine sm ?_
   | (first|refine a8 aoB ?_|refine ba ?_|refine aL ?_|refine bm ?_|refine bJ (aB ?_))
     refine sl ?_
   |exact bF
   |first|apply bG|apply be|apply bH|apply bf|apply bI|apply bg
   |refine aP ?_
   |refine aK ?_
   |first|refine aN rfl ?_|refine aO rfl ?_|refine ax rfl ?_ ?_|refine aT rfl (λ_=>?_) (λ_=>?_)|refine aS rfl (λ_=>?_) (λ_=>?_)
   |((first|refine au (λ_=>?_) (λ_=>?_)|refine aA (λ_=>?_) (λ_=>?_))<;>try refine sm ?_)
   |refine And.intro trivial ?_
   |refine And.intro aoz ?_
   |refine aY rfl (λ_=>?_) (λ_=>?_)
   |refine And.intro ?_ ?_
  rename_i hx;exact aa (days.o 29 (by rw[if_pos ⟨rfl,by simp;omega⟩];rfl));rename_i hx;exact aa (days.o 28 (by rw[if_neg (λ⟨_,e⟩=>hx (by simp at e;omega))];rfl))
 by_cases q30:M=4\/M=6\/M=9\/M=11;have d30:=hid (days.o 30 (by unfold YS;rw[if_neg aoz,if_neg aoz,if_pos aoz]));rcases q30 with e|e|e|e;have p1:(M:Int)=4:=aoz;clear e;refine wk ?_;exact aa d30.o;have p1:(M:Int)=6:=aoz;clear e;refine wk ?_;exact aa d30.o;have p1:(M:Int)=9:=aoz;clear e;refine wk ?_;exact aa d30.o;have p1:(M:Int)=11:=aoz;clear e;refine wk ?_;exact aa d30.o;have d31:=hid (days.o 31 (by unfold YS;rw[if_neg aoz,if_neg aoz,if_neg aoz]));have p1:¬(M:Int)=4:=aoz;have p2:¬(M:Int)=6:=aoz;have p3:¬(M:Int)=9:=aoz;have p4:¬(M:Int)=11:=aoz;clear q30;refine wk ?_;exact aa d31.o
theorem sg{syn:Int}(h:K (RO (cj syn v)) L):alb 45 [.int .i64 syn,.str v] L K:=by
 unfold cj at h;refine ac Uw (by simp[yL]) ?_;simp only[yL,am];by_cases hl:4096<v.length;have f1:(4096:Int)<(v.length:Int):=aoz;rw[if_pos hl]at h;replace h:=hid h;clear hl;refine wk ?_;exact aa h.o;have f1:¬(4096:Int)<(v.length:Int):=aoz;rw[if_neg hl]at h;have vl1:v.length<=1100000:=aoz;have vl2:(v.length:Int)<=100000:=aoz;have hu:=LY v.length v (ale _);have hnu:=ajy v;unfold GF at h;clear hl;by_cases s1:syn=1;subst s1;rw[if_pos rfl]at h;by_cases hv:v=[];rw[if_pos hv]at h;replace h:=hid h;subst hv;have e0:([]:List UInt8).length=0:=rfl;refine wk ?_;exact aa h.o;rw[if_neg hv]at h;have f2:(0:Int)<(v.length:Int):=by have:=amv.2 hv;omega
 cases hd:Lib.validD v with
 | true =>
   rw[hd,if_pos rfl]at h;replace h:=hid h;rw[hd]at hu;have kk1:=@aoG _ _ _ _ (yj vl2);have kk2:=@aoG _ _ _ _ (ab0 vl1);refine wk ?_;exact aa h.o
 | false =>
   rw[hd,if_neg aoA]at h;replace h:=hid h;rw[hd]at hu;have kk1:=@aoG _ _ _ _ (yj vl2);have kk2:=@aoG _ _ _ _ (ab0 vl1);refine wk ?_;exact aa h.o
 rw[if_neg s1]at h;by_cases s2:syn=2;subst s2;rw[if_pos rfl]at h;by_cases hv:v=[];rw[if_pos hv]at h;replace h:=hid h;subst hv;have e0:([]:List UInt8).length=0:=rfl;refine wk ?_;exact aa h.o;rw[if_neg hv]at h;have f2:(0:Int)<(v.length:Int):=by have:=amv.2 hv;omega
 cases hd:Lib.validD v with
 | true =>
   rw[hd,if_pos rfl]at h;replace h:=hid h;rw[hd]at hu;have kk1:=@aoG _ _ _ _ (ab0 vl1);refine wk ?_;exact aa h.o
 | false =>
   rw[hd,if_neg aoA]at h;replace h:=hid h;rw[hd]at hu;have kk1:=@aoG _ _ _ _ (ab0 vl1);refine wk ?_;exact aa h.o
 rw[if_neg s2]at h;by_cases s3:syn=3;subst s3;rw[if_pos rfl]at h;replace h:=hid h;clear hu hnu;refine wk ?_;refine ah (λn T' L'=>∃i:Nat,n=v.length-i/\i<=v.length/\Hid (My (v.take i)=true)/\T'=[(6,.int .i64 (i:Int)),(1,.str v),(12,.int .i64 3)]/\L=L') (CutS (b:=ale _)) ⟨0,rfl,ali _,hid rfl,rfl,rfl⟩ ?_;rintro _ _ _ ⟨i,rfl,hi,hall,rfl,rfl⟩;by_cases hlt:i<v.length;have g1:(i:Int)<(v.length:Int):=aoz;have g2:=ak9 i aoz;obtain⟨c,hc⟩:=ak7 (v.getD i 0);have htk:v.take (i+1)=v.take i++[c]:=by rw[aly hlt,<- hc];simp[hlt]
 have hm:c∈v:=by rw[<- hc];simp[hlt]
 by_cases ha:c.toNat<128;have f2:¬(128:Int)<=(c.toNat:Int):=aoz;have hnext:My (v.take (i+1))=true:=by have:=hall.o;unfold My at this⊢;rw[htk,amB,this];simp[ha]
 replace hnext:=hid hnext;clear ha htk hm;refine wk ?_;exact aoE aoz (CutL (b:=ale _)) ⟨i+1,rfl,hlt,hnext,rfl,rfl⟩;have f2:(128:Int)<=(c.toNat:Int):=aoz;have hbad:My v=false:=by rw[<- amF];intro e;have:=aln.1 e c hm;simp at this;omega
 have h':=h.o;rw[hbad,if_neg aoA]at h';replace h':=hid h';clear ha htk hm hbad;refine wk ?_;exact aa h'.o;have hke:i=v.length:=aoz;subst hke;have g1:¬(v.length:Int)<(v.length:Int):=aoz;have e:=hall.o;rw[alt]at e;have h':=h.o;rw[e,if_pos rfl]at h';replace h':=hid h';clear e;have kk1:=@aoG _ _ _ _ (yj vl2);refine wk ?_;exact aa h'.o;rw[if_neg s3]at h;by_cases s4:syn=4;subst s4;rw[if_pos rfl]at h;cases hd:xP v with
 | true =>
   rw[hd,if_pos rfl]at h;replace h:=hid h;rw[hd]at hnu;have kk1:=@aoG _ _ _ _ (Xj vl1);refine wk ?_;exact aa h.o
 | false =>
   rw[hd,if_neg aoA]at h;replace h:=hid h;rw[hd]at hnu;have kk1:=@aoG _ _ _ _ (Xj vl1);refine wk ?_;exact aa h.o
 rw[if_neg s4]at h;by_cases s5:syn=5;subst s5;rw[if_pos rfl]at h;clear hu hnu;by_cases t1:v=agZ;rw[if_pos (.inl t1)]at h;replace h:=hid h;subst t1;refine wk ?_;exact aa h.o;by_cases t2:v=abQ;rw[if_pos (.inr t2)]at h;replace h:=hid h;subst t2;have t3:¬([70,65,76,83,69]:List UInt8)=[84,82,85,69]:=by decide
 clear t1;refine wk ?_;exact aa h.o;rw[if_neg (λe=>e.elim t1 t2)]at h;replace h:=hid h;refine wk ?_;exact aa h.o;rw[if_neg s5]at h;clear hu hnu;by_cases s6:syn=6;subst s6;rw[if_pos rfl]at h;obtain⟨⟨k,e⟩,hk⟩:∃p,Lh v=p:=⟨_,rfl⟩;rw[hk]at h;simp only at h;by_cases he:e=0;subst he;rw[if_pos rfl]at h;replace h:=hid h;refine wk ?_;refine ae7 ?_;rw[hk];simp only[tT];refine aoH ?_;exact aa h.o;rw[if_neg he]at h;replace h:=hid h;refine wk ?_;refine ae7 ?_;rw[hk];simp only[tT];refine aoH ?_;exact aa h.o;rw[if_neg s6]at h;by_cases s7:syn=7;subst s7;rw[if_pos rfl]at h;replace h:=hid h;refine wk ?_;exact aa h.o;rw[if_neg s7]at h;by_cases s8:syn=8;subst s8;rw[if_pos rfl]at h;cases hd:Lb v with
 | true =>
   rw[hd,if_pos rfl]at h;replace h:=hid h;have kk1:=@aoG _ _ _ _ (Xk vl1);refine wk ?_;exact aa h.o
 | false =>
   rw[hd,if_neg aoA]at h;replace h:=hid h;have kk1:=@aoG _ _ _ _ (Xk vl1);refine wk ?_;exact aa h.o
 rw[if_neg s8]at h;replace h:=hid h;refine wk ?_;exact aa h.o
theorem abZ(v:List UInt8)(rest:List UInt8)(hr:rest=[]\/∃c t,rest=c::t/\(c=44\/c=43)):∀(s b:List UInt8) (bl:Bool),b++s=v->(s=[]->bl=false)->fR b bl (wrL v.length b.length s++rest)=some (v,rest,true)
 | [],b,bl,e,h=>by
   rw[alJ]at e;subst e;simp only[wrL,alL];rw[h rfl];rcases hr with rfl|⟨c,t,rfl,hc⟩
   .exact om
   .exact ri hc
 | c::s,b,bl,e,h=>by
   have ih:=λbl' (h':s=[]->bl'=false)=>abZ v rest hr s (b++[c]) bl' (by rw[<- e];simp) h'
   have hbl:(b++[c]).length=b.length+1:=aoA;rw[hbl]at ih;have hvl:v.length=b.length+s.length+1:=(by rw[<- e];simp;omega);rw[wrL,alv];unfold wrB;split
   .rename_i hc;subst hc;show fR b bl (92::48::48::(wrL v.length (b.length+1) s++rest))=_;rw[G1 (by decide)];exact ih false (λ_=>rfl)
   .rename_i hc;split
    .rename_i h2;show fR b bl (92::c::(wrL v.length (b.length+1) s++rest))=_;rw[tR]
     .exact ih false (λ_=>rfl)
     .rcases h2 with⟨_,rfl|rfl⟩|⟨_,rfl⟩|h2
      .decide
      .decide
      .decide
      .simp only[alj,ana,or_false]at h2⊢;rcases h2 with rfl|rfl|rfl|rfl|rfl|rfl|rfl<;>decide
    .rename_i h2;show fR b bl (c::(wrL v.length (b.length+1) s++rest))=_;have h5:¬c∈([34,43,44,59,60,62,92]:List UInt8):=λq=>h2 (.inr (.inr q))
     simp only[alj,ana,or_false,not_or]at h5;rw[nQ (λq=>q.elim (λq=>h5.2.2.1 q) (λq=>h5.2.1 q)) (λq=>h5.2.2.2.2.2.2 q)];rw[if_neg]
     .refine ih _ (λhs=>?_);rw[decide_eq_false_iff_not];intro q;refine h2 (.inr (.inl ⟨?_,q⟩));rw[hvl,hs];simp
     .rintro(q|q|⟨q1,q2⟩)
      .exact hc q
      .simp only[alj,ana,or_false]at q;rcases q with q|q|q|q
       .exact h5.1 q
       .exact h5.2.2.2.1 q
       .exact h5.2.2.2.2.1 q
       .exact h5.2.2.2.2.2.1 q
      .exact h2 (.inl ⟨by rw[q1];rfl,q2⟩)
theorem Px(v:List UInt8){rest:List UInt8}(hr:rest=[]\/∃c t,rest=c::t/\(c=44\/c=43)):fR [] false (eH v++rest)=some (v,rest,true):=
 abZ v rest hr v [] false rfl (λ_=>rfl)
theorem aah:∀(t r:List UInt8),(∀c∈t,c≠61)->lN (t++61::r)=some (t,r)
 |[],r,_=>by simp[lN]
 |c::t,r,h=>by rw[alN,lN,if_neg (h c aoA),aah t r (λx hx=>h x (by simp[hx]))]
theorem aeL{t:List UInt8}(h:eV t=true):∀c∈t,c≠61:=by intro c hc e;simp only[eV,alk,aln]at h;have:=h.2 c hc;rw[e]at this;exact absurd this (by decide)
theorem VD(x sep:List UInt8)(xs:List (List UInt8)):Lib.join (x::xs) sep=x++xs.flatMap (λy=>sep++y):=by
 induction xs generalizing x with
 |nil=>simp[Lib.join,List.intercalate]
 | cons y l ih =>
   have e:Lib.join (x::y::l) sep=x++(sep++Lib.join (y::l) sep):=(by simp[Lib.join,List.intercalate]);rw[e,ih];simp
def nZ(t:Rdn):List UInt8:=t.flatMap λa=>43::avT false a
def nS(d:List Rdn):List UInt8:=d.flatMap λr=>44::dw false r
theorem Xi(a:Ava)(t:Rdn):dw false (a::t)=avT false a++nZ t:=by simp only[dw,alx,if_false,alr,VD,nZ];simp[List.flatMap_map]
theorem acT(r:Rdn)(d:List Rdn):ee false (r::d)=dw false r++nS d:=by simp only[ee,alr,VD,nS];simp[List.flatMap_map]
theorem Vt:∀(f:Nat) (out:List Rdn) (now:Rdn) (a:Ava) (t:Rdn) (d:List Rdn),(avT false a++(nZ t++nS d)).length<f->out.length<32->dP now (a::t)=0->l3 (out.length+1) d=0 ->
  se f out now (avT false a++(nZ t++nS d))=(out++[now++a::t]++d,0)
 |0,_,_,_,_,_,h,_,_,_=>aoz
 | f+1,out,now,(ty,v),t,d,hf,ho,hc,hd=>by
   unfold dP at hc;split at hc
   .cases hc
   rename_i hn8;split at hc
   .cases hc
   rename_i hty;split at hc
   .cases hc
   rename_i hha;simp only[Bool.not_eq_false]at hty;have e1:avT false (ty,v)++(nZ t++nS d)=ty++61::(eH v++(nZ t++nS d)):=(by simp[avT]);rw[e1]at hf⊢;rw[se,if_neg aoz,aah _ _ (aeL hty)];simp only;rw[if_neg (by simp[hty]),if_neg hha];rcases t with _|⟨a2,t⟩
   .rcases d with _|⟨r,d⟩
    .rw[show nZ []++nS []=([]:List UInt8)from rfl];rw[Px v (.inl rfl)];simp
    .rw[show nZ []++nS (r::d)=44::(dw false r++nS d)by simp[nZ,nS]]at hf⊢;rw[Px v (.inr ⟨44,_,rfl,.inl rfl⟩)];simp only[amq,if_false,if_true];unfold l3 at hd;split at hd
     .cases hd
     rename_i h32;split at hd
     .cases hd
     rename_i hr0;split at hd
     .rename_i h5;exact absurd hd h5
     rename_i h5;simp only[ne_eq,anB]at h5;rcases r with _|⟨a2,t⟩
     .exact absurd rfl hr0
     have ih:=Vt f (out++[now++[(ty,v)]]) [] a2 t d;rw[Xi,alv]at hf⊢;rw[ih (by simp only[alw,alp]at hf⊢;omega) (by simp;omega) h5 (by simpa using hd)];simp
   .rw[show nZ (a2::t)++nS d=43::(avT false a2++(nZ t++nS d))by simp[nZ]]at hf⊢;rw[Px v (.inr ⟨43,_,rfl,.inr rfl⟩)];simp only[amq,if_false,show ¬((43:UInt8)=44)by decide];have ih:=Vt f out (now++[(ty,v)]) a2 t d;rw[ih (by simp only[alw,alp]at hf⊢;omega) ho hc hd];simp
theorem afw(h:l3 0 d=0)(hl:(ee false d).length<=4096):xN (ee false d)=(d,0):=by unfold xN;rw[if_neg aoz];rcases d with _|⟨r,d⟩;simp[ee,Lib.join];unfold l3 at h;split at h;cases h;split at h;cases h;rename_i hr0;split at h;rename_i h5;exact absurd h h5;rename_i h5;simp only[ne_eq,anB]at h5;rcases r with _|⟨a,t⟩;exact absurd rfl hr0;rw[acT,Xi,alv];rw[if_neg (by simp[avT])];have:=Vt ((avT false a++(nZ t++nS d)).length+1) [] [] a t d aoz aoA h5 h;rw[this];simp
end Go.Proofs.YtcmfcpjnhephaaaGreatDoor.Av
