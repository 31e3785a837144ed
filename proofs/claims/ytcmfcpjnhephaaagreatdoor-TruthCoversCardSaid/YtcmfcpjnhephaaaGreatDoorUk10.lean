/- Joined texts of the walk, made small by a program. -/
import Derived.Test.YtcmfcpjnhephaaaGreatDoorUk7
import Derived.Test.YtcmfcpjnhephaaaGreatDoorUk9
import Derived.Test.YtcmfcpjnhephaaaGreatDoorUk5
import Derived.Sort.Walk0
import Derived.Test.YtcmfcpjnhephaaaGreatDoorUk6
import Derived.Lib.ValidLaws
import Derived.Test.YtcmfcpjnhephaaaGreatDoorUk8
set_option linter.unusedSimpArgs false
set_option linter.unusedVariables false
namespace Go.Proofs.YtcmfcpjnhephaaaGreatDoor.Av
open Go
variable {d:List Rdn}{cap:Option Nat}{r:Rdn}{s v:List UInt8}{syn:Int}
variable {L:List Blk}{K:alp}
set_option maxHeartbeats 8000000
set_option maxRecDepth 100000
theorem SP(sep x:List UInt8):∀xs:List (List UInt8),Lib.join (xs++[x]) sep=if xs=[]then x else Lib.join xs sep++sep++x
 |[]=>by simp[Lib.join,List.intercalate]
 |[y]=>by simp[Lib.join,List.intercalate]
 |y::z::l=>by have ih:=SP sep x (z::l);rw[if_neg aoK]at ih⊢;have e1:Lib.join (y::z::l++[x]) sep=y++(sep++Lib.join (z::l++[x]) sep):=(by simp[Lib.join,List.intercalate]);have e2:Lib.join (y::z::l) sep=y++(sep++Lib.join (z::l) sep):=(by simp[Lib.join,List.intercalate]);rw[e1,ih,e2];simp
theorem Ym(hn:d.length<=1000)(hr:∀r∈d,r.length<=1000/\∀a∈r,a.1.length<=10000/\a.2.length<=10000)(h:K (.str (eK false d)) L):
  alo 168 [.sl (d.map cL) d.length cap] L K:=by
 replace h:=hid h;have hat:=hid (λk=>@Pi d k);replace hr:=hid hr;refine aln Uy ?_;refine ah (λn T' L'=>∃(i:Nat) (acc:List UInt8) (Z:List Blk),n=d.length-i/\i<=d.length/\acc.length<=i*50000000/\Hid (acc=Lib.join ((d.take i).map (dG false)) [44])/\T'=[(10,.int .i64 (i:Int)),(9,.int .i64 d.length),(8,.sl (d.map cL) d.length cap),(3,.str acc)]/\L'=L++Z) aoN ⟨0,[],[],rfl,alw _,aoK,hid (by simp[Lib.join]),rfl,aoK⟩ ?_;rintro _ _ _ ⟨i,acc,X,rfl,hi,hal,hacc,rfl,rfl⟩;by_cases hlt:i<d.length
 .have g1:(i:Int)<(d.length:Int):=aoJ;have g2:=alm i aoJ;have e2:=hat.o i hlt;have hrm:d.getD i []∈d:=(by rw[alR,alH hlt];exact amu _);have hrl:=hr.o _ hrm;obtain⟨r,hri⟩:=alj (d.getD i []);have htk:d.take (i+1)=d.take i++[r]:=(by rw[alN hlt,<- hri];simp[hlt]);rw[hri]at e2 hrl;clear hri hrm;obtain⟨hrl1,hrl2⟩:=hrl;replace hrl2:=hid hrl2;obtain⟨B,hB⟩:=alj ((if 0<i then acc++[44]else acc));have hBl:B.length<=i*50000000+1:=by rw[<- hB];split;exact alQ (Nat.le_of_eq aoK) (Nat.add_le_add_right hal 1);exact alQ hal (aoq _ _)
  have hfin:B++dG false r=Lib.join ((d.take (i+1)).map (dG false)) [44]:=by rw[htk,alW,List.map_singleton,SP,<- hacc.o,<- hB];by_cases h0:0<i;rw[if_pos h0,if_neg];intro e;rcases List.take_eq_nil_iff.1 (aoA.1 e)with e|e;omega;rw[e]at hlt;simp at hlt;have:i=0:=aoJ;subst this;simp at hal;simp[hal]
  replace hfin:=hid hfin;replace hB:=hid hB;replace htk:=hid htk;have hb0:(i:Int)<=1000:=aoJ;have hab:((acc.length+1:Nat):Int)<=9223372036854775807:=aoJ
  iterate 12 first
   |refine bd ?_
   | (first|refine aV aoL ?_|refine aB aoL ?_|refine aE ?_|refine bJ ?_|refine bg (fun _=>?_)|refine ax ?_|refine aY ?_)
     simp(config:={maxSteps:=2000000}) only[Kon,push_cast,reduceIte,Nat.reduceEqDiff,Nat.reduceAdd,Nat.reduceMul,Nat.reduceSub,Nat.reduceLT,Nat.reduceLeDiff,Int.reduceLT,Int.reduceLE,Int.reduceAdd,Int.reduceSub,Int.reduceNeg,Int.reduceToNat,Int.reduceEq,reduceCtorEq, *]
   | (first|refine aO aoL ?_|refine aP ?_|refine aD ?_|refine aW ?_|refine bq (aw ?_))
     simp only[push_cast,reduceIte,Nat.reduceEqDiff,Nat.reduceAdd,Nat.reduceMul,Nat.reduceSub,Nat.reduceLT,Nat.reduceLeDiff,Int.reduceLT,Int.reduceLE,Int.reduceAdd,Int.reduceSub,Int.reduceNeg,Int.reduceToNat,Int.reduceEq,reduceCtorEq, *]
   |exact bh
   |first|apply bj|apply aR|apply bm|apply aS|apply bo|apply aT
   |refine aH ?_
   |refine aC ?_
   |first|refine aF rfl ?_|refine aG rfl ?_|refine ao rfl ?_ ?_|refine aJ rfl (λ_=>?_) (λ_=>?_)|refine aI rfl (λ_=>?_) (λ_=>?_)
   |((first|refine an (λ_=>?_) (λ_=>?_)|refine au (λ_=>?_) (λ_=>?_))<;>try simp(config:={maxSteps:=2000000}) only[Kon,push_cast,reduceIte,Nat.reduceEqDiff,Nat.reduceAdd,Nat.reduceMul,Nat.reduceSub,Nat.reduceLT,Nat.reduceLeDiff,Int.reduceLT,Int.reduceLE,Int.reduceAdd,Int.reduceSub,Int.reduceNeg,Int.reduceToNat,Int.reduceEq,reduceCtorEq, *])
   |refine And.intro trivial ?_
   |refine And.intro aoJ ?_
   |refine aL rfl (λ_=>?_) (λ_=>?_)
   |refine And.intro ?_ ?_
  refine Lg (λT2 L2=>T2=[(3,.str B),(5,cL r),(10,.int .i64 (i:Int)),(9,.int .i64 d.length),(8,.sl (d.map cL) d.length cap)]/\L2=L++X) ?_ ?_;by_cases h0:0<i;have k0:(0:Int)<(i:Int):=aoJ;have hB':=hB.o;rw[if_pos h0]at hB';subst hB';clear h0;refine wk ?_;exact iT _ _ aoM ⟨rfl,rfl⟩;have k0:¬(0:Int)<(i:Int):=aoJ;have hB':=hB.o;rw[if_neg h0]at hB';subst hB';clear h0;refine wk ?_;exact iT _ _ aoM ⟨rfl,rfl⟩;rintro _ _ ⟨rfl,rfl⟩ -;refine wk ?_;refine ah (λn T' L'=>∃(k:Nat) (acc2:List UInt8) (Z:List Blk),n=r.length-k/\k<=r.length/\acc2.length<=i*50000000+1+k*40002/\X.length<=Z.length/\Hid (acc2=B++Lib.join ((r.take k).map (avT false)) [43])/\T'=[(21,.int .i64 (k:Int)),(20,.int .i64 r.length),(19,cL r),(10,.int .i64 (i:Int)),(9,.int .i64 d.length),(8,.sl (d.map cL) d.length cap),(3,.str acc2)]/\L'=L++Z) aoN ⟨0,B,X,rfl,alw _,aoJ,alr _,hid (by simp[Lib.join]),rfl,rfl⟩ ?_;rintro _ _ _ ⟨k,acc2,Z,rfl,hk,hal2,hXZ,hacc2,rfl,rfl⟩;replace hXZ:=hid hXZ;by_cases hkl:k<r.length
  .have g3:(k:Int)<(r.length:Int):=aoJ;have g4:=alm k aoJ;have e3:=gy hkl;have e4:k*2+2<=(bb r).length:=(by rw[dW];omega);obtain⟨⟨ty,va⟩,ha⟩:∃a,r.getD k ([],[])=a:=⟨_,rfl⟩;have ham:(ty,va)∈r:=(by rw[<- ha];simp[hkl]);have htk2:r.take (k+1)=r.take k++[(ty,va)]:=(by rw[alN hkl,<- ha];simp[hkl]);rw[ha]at e3;simp only[sD]at e3;have hva:=hrl2.o _ ham;simp only at hva;have hva':va.length<=100000:=aoJ;have hwl:=PV va.length va 0;obtain⟨wv,hwv⟩:=alj (fa va);have hwl2:wv.length<=30000:=(by rw[<- hwv];unfold fa;omega);have hty:=hva.1;obtain⟨B2,hB2⟩:=alj ((if 0<k then acc2++[43]else acc2));have hB2l:B2.length<=i*50000000+1+k*40002+1:=by rw[<- hB2];split;exact alQ (Nat.le_of_eq aoK) (Nat.add_le_add_right hal2 1);exact alQ hal2 (aoq _ _)
   have hnew:B2++ty++[61]++wv=B++Lib.join ((r.take (k+1)).map (avT false)) [43]:=by rw[htk2,alW,List.map_singleton,SP,<- hB2];have e0:avT false (ty,va)=ty++[61]++wv:=(by simp[avT,hwv]);by_cases h0:0<k;rw[if_pos h0,if_neg,hacc2.o,e0];simp;intro e;rcases List.take_eq_nil_iff.1 (aoA.1 e)with e|e;omega;rw[e]at hkl;simp at hkl;have:k=0:=aoJ;subst this;have:=hacc2.o;simp only[amX,amS]at this;rw[if_neg aoJ,this,e0];simp[Lib.join]
   replace hnew:=hid hnew;have hBn:(B2++ty++[61]++wv).length=B2.length+ty.length+1+wv.length:=(by simp only[alJ,alA,amg]);have hBn2:(B2++ty++[61]++wv).length<=i*50000000+1+(k+1)*40002:=(by rw[hBn];omega);replace hB2:=hid hB2;clear hwl ha ham hva htk2;have hkb:k<1000:=aoJ;have b0:((acc2.length+1:Nat):Int)<=9223372036854775807:=aoJ;have b1:((B2.length+ty.length:Nat):Int)<=9223372036854775807:=aoJ;have b2:((B2.length+ty.length+1:Nat):Int)<=9223372036854775807:=aoJ;have b3:((B2.length+ty.length+1+wv.length:Nat):Int)<=9223372036854775807:=aoJ;simp only[Int.natCast_add,Int.cast_ofNat_Int]at b0 b1 b2 b3
   iterate 12 first
    |refine bd ?_
    | (first|refine aV aoL ?_|refine aB aoL ?_|refine aE ?_|refine bJ ?_|refine bg (fun _=>?_)|refine ax ?_|refine aY ?_)
      simp(config:={maxSteps:=2000000}) only[Kon,push_cast,reduceIte,Nat.reduceEqDiff,Nat.reduceAdd,Nat.reduceMul,Nat.reduceSub,Nat.reduceLT,Nat.reduceLeDiff,Int.reduceLT,Int.reduceLE,Int.reduceAdd,Int.reduceSub,Int.reduceNeg,Int.reduceToNat,Int.reduceEq,reduceCtorEq, *]
    | (first|refine aO aoL ?_|refine aP ?_|refine aD ?_|refine aW ?_|refine bq (aw ?_))
      simp only[push_cast,reduceIte,Nat.reduceEqDiff,Nat.reduceAdd,Nat.reduceMul,Nat.reduceSub,Nat.reduceLT,Nat.reduceLeDiff,Int.reduceLT,Int.reduceLE,Int.reduceAdd,Int.reduceSub,Int.reduceNeg,Int.reduceToNat,Int.reduceEq,reduceCtorEq, *]
    |exact bh
    |first|apply bj|apply aR|apply bm|apply aS|apply bo|apply aT
    |refine aH ?_
    |refine aC ?_
    |first|refine aF rfl ?_|refine aG rfl ?_|refine ao rfl ?_ ?_|refine aJ rfl (λ_=>?_) (λ_=>?_)|refine aI rfl (λ_=>?_) (λ_=>?_)
    |((first|refine an (λ_=>?_) (λ_=>?_)|refine au (λ_=>?_) (λ_=>?_))<;>try simp(config:={maxSteps:=2000000}) only[Kon,push_cast,reduceIte,Nat.reduceEqDiff,Nat.reduceAdd,Nat.reduceMul,Nat.reduceSub,Nat.reduceLT,Nat.reduceLeDiff,Int.reduceLT,Int.reduceLE,Int.reduceAdd,Int.reduceSub,Int.reduceNeg,Int.reduceToNat,Int.reduceEq,reduceCtorEq, *])
    |refine And.intro trivial ?_
    |refine And.intro aoJ ?_
    |refine aL rfl (λ_=>?_) (λ_=>?_)
    |refine And.intro ?_ ?_
   refine Lg (λT2 L2=>T2=[(3,.str B2),(7,.ptr (L.length+Z.length) 0),(21,.int .i64 (k:Int)),(20,.int .i64 r.length),(19,cL r),(10,.int .i64 (i:Int)),(9,.int .i64 d.length),(8,.sl (d.map cL) d.length cap)]/\L2=L++(Z++[.cells [.str ty,.str va]])) ?_ ?_;by_cases h0:0<k;have k0:(0:Int)<(k:Int):=aoJ;have hB':=hB2.o;rw[if_pos h0]at hB';subst hB';clear h0;refine wk ?_;exact iT _ _ aoM ⟨rfl,rfl⟩;have k0:¬(0:Int)<(k:Int):=aoJ;have hB':=hB2.o;rw[if_neg h0]at hB';subst hB';clear h0;refine wk ?_;exact iT _ _ aoM ⟨rfl,rfl⟩;rintro _ _ ⟨rfl,rfl⟩ -;have kk1:=@aoQ _ _ _ _ (oy hva');refine wk ?_;exact aoO aoJ (CutL (b:=by have:=hXZ.o;simp;omega)) ⟨k+1,B2++ty++[61]++wv,_,rfl,hkl,hBn2,by have:=hXZ.o;simp;omega,hnew,rfl,rfl⟩
  have hke:k=r.length:=aoJ;subst hke;have g3:¬(r.length:Int)<(r.length:Int):=aoJ;have hfl:acc2.length<=(i+1)*50000000:=by rw[anA];clear hal hBl hab;generalize i*50000000=M at hal2⊢;omega
  have e:=hacc2.o;rw[alF,show Lib.join (r.map (avT false)) [43]=dG false r by simp[dG],hfin.o]at e;replace e:=hid e;refine wk ?_;exact aoO aoJ aoM ⟨i+1,acc2,_,rfl,hlt,hfl,e,rfl,rfl⟩
 have hke:i=d.length:=aoJ;subst hke;have g1:¬(d.length:Int)<(d.length:Int):=aoJ;have e:=hacc.o;rw[alF]at e;have h':=h.o;simp only[eK]at h';rw[<- e]at h';replace h':=hid h';clear hacc e;refine wk ?_;exact ab rfl h'.o
def P3(r:Rdn):Nat:=(r.map λa=>min a.2.length 5000).sum
def Ul(d:List Rdn):Nat:=(d.map P3).sum
theorem aeW(n:Nat):∀(s:List UInt8) (i:Nat),s.length<=(wrL n i s).length
 |[],_=>aoK
 | c::s,i=>by
   have h1:=aeW n s (i+1);have h2:1<=(wrB i n c).length:=by
    unfold wrB;split
    .simp
    .split<;>simp
   simp only[wrL,alJ,alA];omega
theorem YF(sep:List UInt8):∀xs:List (List UInt8),(xs.map List.length).sum<=(Lib.join xs sep).length
 |[]=>by simp[Lib.join]
 |[x]=>by simp[Lib.join,List.intercalate]
 |x::y::l=>by have h1:=YF sep (y::l);have e:Lib.join (x::y::l) sep=x++(sep++Lib.join (y::l) sep):=(by simp[Lib.join,List.intercalate]);rw[e];simp only[alD,amT,alJ]at h1⊢;omega
theorem ah9(r:Rdn):P3 r<=(dG false r).length:=by
 have h1:P3 r<=((r.map (avT false)).map List.length).sum:=by
  induction r with
  |nil=>simp[P3]
  | cons a r ih =>
    have h2:=aeW a.2.length a.2 0;have h3:min a.2.length 5000<=(avT false a).length:=by simp only[avT,alG,if_false,alJ,fa];omega
    simp only[P3,alD,amT]at ih⊢;omega
 have h2:=YF [43] (r.map (avT false));simp only[dG,alG,if_false];omega
theorem acm(d:List Rdn):Ul d<=(eK false d).length:=by
 have h1:Ul d<=((d.map (dG false)).map List.length).sum:=by
  induction d with
  |nil=>simp[Ul]
  | cons a r ih =>
    have h2:=ah9 a;simp only[Ul,alD,amT]at ih⊢;omega
 have h2:=YF [44] (d.map (dG false));simp only[eK];omega
theorem Yx:∀{l:List Nat}{x:Nat},x∈l->x<=l.sum
 |[],_,h=>by cases h
 | y::l,x,h=>by
   rw[amT];rcases alu.1 h with rfl|h
   .omega
   .have:=Yx h;omega
theorem Zs(h:Ul d<=4096):∀r∈d,∀a∈r,a.2.length<=4096:=λr hr a ha=>by
 have h1:P3 r<=Ul d:=by unfold Ul;exact Yx (List.mem_map_of_mem hr)
 have h2:min a.2.length 5000<=P3 r:=by unfold P3;exact Yx (List.mem_map_of_mem (f:=λa:Ava=>min a.2.length 5000) ha)
 omega
theorem ZU(h:∀r∈d,∀a∈r,a.2.length<=4096):RR d=false:=by unfold RR J9;rw[ane];intro r hr;simp only[am1,ane,decide_eq_true_eq];intro a ha;have:=h r hr a ha;omega
theorem aic{typ:List UInt8}{n:Nat}(hr:r.length=n)(hn:n<=8)(h1:∀a∈r,a.1.length<=32)(h2:typ.length<=32)(h:K (.bool (mH r typ)) L):
  alo 165 [.sl (bb r) n cap,.str typ] L K:=by
 subst hr;exact afq aoJ (λa ha=>by have:=h1 a ha;omega) aoJ h
theorem adw(hn:d.length<=1100000)(hr:∀r∈d,r.length<=1100000/\∀a∈r,(a.1.length:Int)<=140737488351232)(h:K (ug (prS d)) L):alo 167 [.sl (d.map cL) d.length cap] L K:=by
 obtain⟨R,hR⟩:=alj (prS d);rw[hR]at h;replace h:=hid h;have hat:=hid (λk=>@Pi d k);replace hr:=hid hr;have hbad:mI 0 d≠0->R=([],mI 0 d):=λe=>by rw[<- hR,prS,if_pos e]
 replace hbad:=hid hbad;replace hR:=hid hR;refine aln Ta ?_;refine ah (λn T' L'=>∃(i:Nat) (c:Int) (X:List Blk),n=d.length-i/\i<=d.length/\i<=32/\Hid (c=(Ul (d.take i):Nat)/\c<=40000*i)/\Hid (mI i (d.drop i)=mI 0 d)/\T'=[(11,.int .i64 (i:Int)),(10,.int .i64 d.length),(9,.sl (d.map cL) d.length cap),(4,.int .i64 c),(0,.sl (d.map cL) d.length cap)]/\L'=L++X) aoN ⟨0,0,[],rfl,alw _,aoJ,hid ⟨rfl,aoJ⟩,hid rfl,rfl,aoK⟩ ?_;rintro _ _ _ ⟨i,c,X,rfl,hi,hi32,hc,he,rfl,rfl⟩;by_cases hlt:i<d.length
 .have g1:(i:Int)<(d.length:Int):=aoJ;have g2:=alm i aoJ;have e2:=hat.o i hlt;have hrm:d.getD i []∈d:=(by rw[alR,alH hlt];exact amu _);obtain⟨hrl,hrt⟩:=hr.o (d.getD i []) hrm;obtain⟨r,hri⟩:=alj (d.getD i []);have hdr:d.drop i=r::d.drop (i+1):=(by rw[ama hlt,<- hri];simp[hlt]);have hdt:d.take (i+1)=d.take i++[r]:=(by rw[alN hlt,<- hri];simp[hlt]);rw[hri]at e2 hrl hrt;have he2:=he.o;rw[hdr,mI]at he2;clear hdr hri hrm;replace hrt:=hid hrt;replace hdt:=hid hdt;by_cases h32:i=32;rw[if_pos h32]at he2;have h':=h.o;rw[hbad.o (by rw[<- he2];decide),<- he2]at h';replace h':=hid h';have k1:(i:Int)=32:=aoJ;have g1':(32:Int)<(d.length:Int):=aoJ;clear h32 he2;refine wk ?_;exact ab rfl h'.o;rw[if_neg h32]at he2;have k1:¬(i:Int)=32:=aoJ;by_cases hr0:r=[];rw[if_pos hr0]at he2;subst hr0;have h':=h.o;rw[hbad.o (by rw[<- he2];decide),<- he2]at h';replace h':=hid h';clear h32 he2;refine wk ?_;exact ab rfl h'.o;rw[if_neg hr0]at he2;have k2:¬(r.length:Int)=0:=(by have:=amH.2 hr0;omega);have herr:∀e:Int,ek [] r=e->e≠0->K (.tup [.str [],.int .i64 e]) L:=λe a1 a2=>by rw[if_pos (by rw[a1];exact a2),a1]at he2;have h':=h.o;rwa[hbad.o (by rw[<- he2];exact a2),<- he2]at h'
  replace herr:=hid herr;replace he2:=hid he2;clear h32;refine wk ?_;refine ah (λn T' L'=>∃(k:Nat) (c':Int) (Y:List Blk),n=r.length-k/\k<=r.length/\k<=8/\Hid (c'=c+(P3 (r.take k):Nat)/\0<=c'/\c'<=40000*i+5000*k)/\Hid (ek (r.take k) (r.drop k)=ek [] r/\∀a∈r.take k,a.1.length<=32)/\T'=[(23,.int .i64 (k:Int)),(22,.int .i64 r.length),(21,cL r),(6,cL r),(11,.int .i64 (i:Int)),(10,.int .i64 d.length),(9,.sl (d.map cL) d.length cap),(4,.int .i64 c'),(0,.sl (d.map cL) d.length cap)]/\L'=L++(X++Y)) aoN ⟨0,c,[],rfl,alw _,aoJ,hid ⟨by simp[P3],by have:=hc.o;omega,by have:=hc.o;omega⟩,hid ⟨rfl,aoK⟩,rfl,aoK⟩ ?_;rintro _ _ _ ⟨k,c',Y,rfl,hk,hk8,hc',hrow,rfl,rfl⟩;by_cases hkl:k<r.length
  .have g3:(k:Int)<(r.length:Int):=aoJ;have g4:=alm k aoJ;have e3:=gy hkl;have e4:k*2+2<=(bb r).length:=(by rw[dW];omega);obtain⟨⟨ty,va⟩,ha⟩:∃a,r.getD k ([],[])=a:=⟨_,rfl⟩;have ham:(ty,va)∈r:=(by rw[<- ha];simp[hkl]);have hdk:r.drop k=(ty,va)::r.drop (k+1):=(by rw[ama hkl,<- ha];simp[hkl]);have htk:r.take (k+1)=r.take k++[(ty,va)]:=(by rw[alN hkl,<- ha];simp[hkl]);rw[ha]at e3;simp only[sD]at e3;have hty1:=hrt.o _ ham;simp only at hty1;obtain⟨hr1,hr2⟩:=hrow.o;rw[hdk,ek]at hr1;have hlk:(r.take k).length=k:=(by simp;omega);rw[hlk]at hr1;clear hdk ha hrow ham;have e5:(bb r).take (k*2)=bb (r.take k):=Tp;have g5:(k:Int)<=(r.length:Int):=aoJ;replace hr1:=hid hr1;replace hr2:=hid hr2;replace htk:=hid htk;have e6:=hid hlk;clear hlk
   repeat' first
    |refine bd ?_
    | (first|refine aV aoL ?_|refine aB aoL ?_|refine aE ?_|refine bJ ?_|refine bg (fun _=>?_)|refine ax ?_|refine aY ?_)
      refine sm ?_
    | (first|refine aO aoL ?_|refine aP ?_|refine aD ?_|refine aW ?_|refine bq (aw ?_))
      refine sl ?_
    |exact bh
    |first|apply bj|apply aR|apply bm|apply aS|apply bo|apply aT
    |refine aH ?_
    |refine aC ?_
    |first|refine aF rfl ?_|refine aG rfl ?_|refine ao rfl ?_ ?_|refine aJ rfl (λ_=>?_) (λ_=>?_)|refine aI rfl (λ_=>?_) (λ_=>?_)
    |((first|refine an (λ_=>?_) (λ_=>?_)|refine au (λ_=>?_) (λ_=>?_))<;>try refine sm ?_)
    |refine And.intro trivial ?_
    |refine And.intro aoJ ?_
    |refine aL rfl (λ_=>?_) (λ_=>?_)
    |refine And.intro ?_ ?_
   rename_i h8;have h':=hid (herr.o 9 (by rw[<- hr1.o,if_pos aoJ]) (by decide));exact ab rfl h'.o;rename_i h8;have hr3:=hr1.o;rw[if_neg aoJ]at hr3;replace hr3:=hid hr3;refine Zt hty1 ?_;cases hty:gh ty with
   | false =>
     have h':=hid (herr.o 20 (by rw[<- hr3.o,if_pos hty]) (by decide));clear hr3;refine aoR ?_;exact ab rfl h'.o
   | true =>
     have hr4:=hr3.o;rw[if_neg (by rw[hty];simp)]at hr4;replace hr4:=hid hr4;have htl:=uf hty;clear hr3;refine aoR ?_;refine aA (aic e6.o aoJ hr2.o htl ⟨rfl,rfl⟩) ?_;cases hha:mH (r.take k) ty with
     | true =>
       have h':=hid (herr.o 21 (by rw[<- hr4.o,if_pos hha]) (by decide));refine aoR ?_;exact ab rfl h'.o
     | false =>
       have hr5:=hr4.o;rw[if_neg (by rw[hha];simp),<- htk.o]at hr5;replace hr5:=hid hr5;clear hr4;obtain⟨z,hz⟩:∃z:Int,(if(5000:Int)<(va.length:Int)then 5000 else(va.length:Int))=z:=⟨_,rfl⟩;have hz2:z=((min va.length 5000:Nat):Int):=(by rw[<- hz];split<;>omega);have hzw:IntKind.i64.wrap (c'+z)=c'+z:=by have:=hc'.o;exact ad aoJ aoJ
       replace hz2:=hid hz2;refine aoR ?_;refine aoO aoJ aoM ⟨k+1,c'+z,Y++[.cells [.str ty,.str va]],rfl,hkl,aoJ,hid ?_,hid ⟨hr5.o,λa ha=>?_⟩,rfl,aoK⟩
       .have:=hc'.o;have e:P3 (r.take (k+1))=P3 (r.take k)+min va.length 5000:=(by rw[htk.o];simp[P3]);have:=hz2.o;omega
       rw[htk.o]at ha;rcases alv.1 ha with h|h
       .exact hr2.o a h
       .rw[alM.1 h];exact htl
  have hke:k=r.length:=aoJ;subst hke;have g3:¬(r.length:Int)<(r.length:Int):=aoJ;have hz:=hrow.o.1;rw[al6,ek]at hz;have he3:=he2.o;rw[<- hz]at he3;simp only[ne_eq,not_true_eq_false,if_false]at he3;replace he3:=hid he3;have hcn:=hc'.o;rw[alF]at hcn;replace hcn:=hid hcn;clear hz;refine wk ?_;refine aoO aoJ aoN ⟨i+1,c',X++Y,rfl,hlt,aoJ,hid ?_,hid he3.o,rfl,rfl⟩;have e:Ul (d.take (i+1))=Ul (d.take i)+P3 r:=(by rw[hdt.o];simp[Ul]);have:=hcn.o;have:=hc.o;omega
 have hke:i=d.length:=aoJ;subst hke;have g1:¬(d.length:Int)<(d.length:Int):=aoJ;have hch:=he.o;rw[al6,mI]at hch;have hcc:=hc.o.1;rw[alF]at hcc;have hR':=hR.o;rw[prS,if_neg (by rw[<- hch];simp)]at hR';have hge:=acm d;by_cases hbig:4096<Ul d;have k1:(4096:Int)<c:=aoJ;have h':=h.o;rw[<- hR']at h';have e:(if RR d=true then(([]:List UInt8),(5:Int))else if 4096<(eK false d).length then([],5)else(eK false d,0))=([],5):=by split;rfl;rw[if_pos aoJ]
 rw[e]at h';replace h':=hid h';clear hbig hge hcc e hR' hch;refine wk ?_;exact ab rfl h'.o;have k1:¬(4096:Int)<c:=aoJ;have hlo:=Zs (d:=d) aoJ;obtain⟨hd32,hd8⟩:=US d 0 hch.symm aoJ;rw[ZU hlo,if_neg aoK]at hR';replace hlo:=hid hlo;replace hd8:=hid hd8;have hbn:=hid (show ∀r∈d,r.length<=1000/\∀a∈r,a.1.length<=10000/\a.2.length<=10000 from λr hr=>⟨by have:=(hd8.o r hr).1;omega,λa ha=>⟨by have:=(hd8.o r hr).2 a ha;omega,by have:=hlo.o r hr a ha;omega⟩⟩);by_cases hlg:4096<(eK false d).length;have k2:(4096:Int)<((eK false d).length:Int):=aoJ;have h':=h.o;rw[<- hR',if_pos hlg]at h';replace h':=hid h';clear hbig hge hcc hR' hch hlg;have kk1:=@aoQ _ _ _ _ (Ym (cap:=cap) aoJ hbn.o);refine wk ?_;exact ab rfl h'.o;have k2:¬(4096:Int)<((eK false d).length:Int):=aoJ;have h':=h.o;rw[<- hR',if_neg hlg]at h';replace h':=hid h';clear hbig hge hcc hR' hch hlg;have kk1:=@aoQ _ _ _ _ (Ym (cap:=cap) aoJ hbn.o);refine wk ?_;exact ab rfl h'.o
def tK(a:Ava):Ava:=(af a.1,bH a.2)
abbrev xr(a:Ava):List UInt8:=avT false a
def xT(l:Rdn)(x:Ava):Nat->Nat
 |0=>0
 |n+1=>if xr x<xr (l.getD n ([],[]))then xT l x n else n+1
def Kc(l:Rdn)(x:Ava):Rdn:=l.take (xT l x l.length)++[x]++l.drop (xT l x l.length)
def fY(r:Rdn):Rdn:=r.foldl (λl a=>Kc l (tK a)) []
def ml(d:List Rdn):List Rdn:=d.map fY
theorem Yr(l:Rdn)(x:Ava):∀n,xT l x n<=n
 |0=>alr _
 |n+1=>by have:=Yr l x n;unfold xT;split<;>omega
theorem Z6(l:Rdn)(x:Ava):(Kc l x).length=l.length+1:=by have:=Yr l x l.length;simp[Kc];omega
theorem ZC{k:Nat}(h:k<r.length):fY (r.take (k+1))=Kc (fY (r.take k)) (tK (r.getD k ([],[]))):=by unfold fY;rw[alN h,anu];simp[h]
theorem VM(r:Rdn):∀l:Rdn,(r.foldl (λl a=>Kc l (tK a)) l).length=l.length+r.length:=by
 induction r with
 |nil=>simp
 |cons a r ih=>intro l;rw[ami,ih,Z6];simp;omega
theorem xU(r:Rdn):(fY r).length=r.length:=by simp[fY,VM]
theorem aez{k:Nat}:(bb r).drop (k*2)=bb (r.drop k):=by
 induction r generalizing k with
 |nil=>simp[bb]
 | cons a r ih =>
   cases k with
   |zero=>simp[bb]
   | succ k =>
     have:=@ih k;simp only[bb]at this;rw[show(k+1)*2=k*2+1+1 by omega];simp[bb,sD,this]
theorem Yc(r q:Rdn):bb (r++q)=bb r++bb q:=by simp[bb]
theorem acv(l:Rdn)(x:Ava):∀(n j:Nat),xT l x n<=j->j<n->xr x<xr (l.getD j ([],[]))
 |0,_,_,h=>aoJ
 | n+1,j,h1,h2=>by
   unfold xT at h1;split at h1
   .rename_i hk;rcases alK j n with e|e
    .exact acv l x n j h1 e
    .have:j=n:=aoJ;subst this;exact hk
   .omega
theorem acw(l:Rdn)(x:Ava):∀n,xT l x n=0\/¬xr x<xr (l.getD (xT l x n-1) ([],[]))
 |0=>.inl rfl
 | n+1=>by
   unfold xT;split
   .exact acw l x n
   .rename_i hk;exact .inr (by simpa using hk)
def Ye(l:Rdn):Prop:=l.Pairwise λa b=>xr a<=xr b
theorem abz{l:Rdn}{x:Ava}(hs:Ye l):Ye (Kc l x):=by
 have hge:=acv l x l.length;have hat:=acw l x l.length;have hle:=Yr l x l.length;unfold Kc;obtain⟨p,hp⟩:=alj (xT l x l.length);rw[hp]at hge hat hle⊢;have hs2:Ye (l.take p++l.drop p):=by rw[am9];exact hs
 obtain⟨h1,h2,h3⟩:=List.pairwise_append.1 hs2;have ha:∀a∈l.take p,xr a<=xr x:=λa ha=>by
  rcases hat with e|e;subst e;simp at ha;have hp1:p-1<l.length:=by rcases amN p with z|z;subst z;simp at ha;omega
  refine List.le_trans ?_ (amR.1 e);obtain⟨i,hi,rfl⟩:=amJ.1 ha;simp only[anl]at hi;rw[List.getElem_take];have hg:l.getD (p-1) ([],[])=l[p-1]:=(by simp[hp1]);rw[hg];rcases alK i (p-1)with q|q;exact(aol.1 hs) i (p-1) aoJ hp1 q;have:i=p-1:=aoJ;subst this;exact amR.1 (amz _)
 have hb:∀b∈l.drop p,xr x<=xr b:=λb hb=>by obtain⟨i,hi,rfl⟩:=amJ.1 hb;simp only[ank]at hi;rw[List.getElem_drop];have:=hge (p+i) aoJ aoJ;have hg:l.getD (p+i) ([],[])=l[p+i]:=(by simp[show p+i<l.length by omega]);rw[hg]at this;exact List.le_of_lt this
 unfold Ye;rw[alI,List.pairwise_append];refine⟨h1,?_,?_⟩;simp only[aob,al7];exact⟨hb,h2⟩;intro a haa b hbb;simp only[aob,alu]at hbb;rcases hbb with rfl|hbb;exact ha a haa;exact h3 a haa b hbb
theorem Z5(l:Rdn)(x:Ava):(Kc l x).Perm (x::l):=by unfold Kc;rw[alI];refine(List.perm_middle (l₁:=l.take _) (l₂:=l.drop _)).trans ?_;rw[am9]
theorem R4:∀(r l:Rdn),Ye l->Ye (r.foldl (λl a=>Kc l (tK a)) l)/\(r.foldl (λl a=>Kc l (tK a)) l).Perm (l++r.map tK)
 |[],l,h=>by simpa using h
 |a::r,l,h=>by obtain⟨h1,h2⟩:=R4 r (Kc l (tK a)) (abz h);refine⟨h1,h2.trans ?_⟩;refine((Z5 l (tK a)).append_right _).trans ?_;simp only[alD];exact(List.perm_middle (l₁:=l)).symm
theorem acR(a:Ava):avT true a=xr (tK a):=by simp[avT,tK]
theorem aba(r:Rdn):(fY r).map xr=dY (r.map (avT true)):=by
 obtain⟨h1,h2⟩:=R4 r [] List.Pairwise.nil;refine aoo (le:=λx y=>x<=y) (λa b _ _=>aoj) ?_ ?_ ?_;rw[an2];exact h1;have:=aoz (le:=λx y:List UInt8=>decide (x<=y)) (λa b c h1 h2=>by
  simp only[decide_eq_true_eq]at *;exact List.le_trans h1 h2) (λa b=>by
  simp only[al9,decide_eq_true_eq];exact List.le_total a b) (r.map (avT true))
 exact this.imp λh=>by simpa using h
 refine(h2.map xr).trans ?_;unfold dY;refine List.Perm.trans ?_ (anK _ _).symm;rw[al2,al0];rw[show(xr∘tK)=avT true from funext λa=>(acR a).symm]
theorem adH(r:Rdn):dG false (fY r)=dG true r:=by have:=aba r;simp only[dG,alG,if_false,if_true];rw[<- this]
theorem Vk(d:List Rdn):eK false (ml d)=eK true d:=by unfold eK ml;rw[al0];rw[show(dG false∘fY)=dG true from funext adH]
theorem aiC{p:Ava->Prop}{l:Rdn}{x:Ava}(h:∀a∈l,p a)(hx:p x):∀a∈Kc l x,p a:=λa ha=>by rcases alu.1 ((Z5 l x).mem_iff.1 ha)with rfl|h1;exact hx;exact h a h1
theorem Wr:∀r:Rdn,(bb r).all AV.one=true
 |[]=>rfl
 |a::r=>by have:=Wr r;simp only[bb]at this;simp[bb,sD,AV.one,this]
theorem adf{xs:List AV}{i:Nat}{a b:AV}(h:(xs.drop i).take 2=[a,b]):xs.getD i .undef=a/\xs.getD (i+1) .undef=b:=by have h0:=congrArg (·[0]?) h;have h1:=congrArg (·[1]?) h;simp[List.getElem?_take,amo]at h0 h1;simp[alR,h0,h1]
theorem afj(hn:d.length<=1000)(hr:∀r∈d,r.length<=1000/\∀a∈r,a.1.length<=10000/\a.2.length<=10000)(h:K (.sl ((ml d).map cL) d.length none) L):
  alo 169 [.sl (d.map cL) d.length cap] L K:=by
 replace h:=hid h;have hat:=hid (λk=>@Pi d k);replace hr:=hid hr;refine aln S9 ?_;refine bF (l:=[]) (n:=0) 3 1 rfl (alU 1).symm ?_;refine ah (λn T' L'=>∃(i:Nat) (out:List Rdn) (Z:List Blk),n=d.length-i/\i<=d.length/\Hid (out=(d.take i).map fY)/\L'[L.length]?=some (.spare i 1)/\T'=[(14,.int .i64 (i:Int)),(13,.int .i64 d.length),(12,.sl (d.map cL) d.length cap),(3,.gsl (out.map cL) i L.length 1)]/\L'=L++Z) aoN ⟨0,[],[.spare 0 1],rfl,alw _,hid rfl,aoK,rfl,rfl⟩ ?_;rintro _ _ _ ⟨i,out,X,rfl,hi,hout,ho,rfl,rfl⟩;by_cases hlt:i<d.length
 .have g1:(i:Int)<(d.length:Int):=aoJ;have g2:=alm i aoJ;have e2:=hat.o i hlt;have hrm:d.getD i []∈d:=(by rw[alR,alH hlt];exact amu _);have hrl:=hr.o _ hrm;obtain⟨r,hri⟩:=alj (d.getD i []);have htk:d.take (i+1)=d.take i++[r]:=(by rw[alN hlt,<- hri];simp[hlt]);rw[hri]at e2 hrl;clear hri hrm;obtain⟨hrl1,hrl2⟩:=hrl;replace hrl2:=hid hrl2;replace htk:=hid htk;refine wk ?_;refine ah (λn T' L'=>∃(k:Nat) (l:Rdn) (v:AV) (Z:List Blk),n=r.length-k/\k<=r.length/\Hid (l=fY (r.take k)/\akl L.length l v L'/\∀a∈l,a.1.length<=10000/\a.2.length<=10000)/\L'[L.length]?=some (.spare i 1)/\X.length<=Z.length/\T'=[(20,.int .i64 (k:Int)),(19,.int .i64 r.length),(18,cL r),(6,v),(14,.int .i64 (i:Int)),(13,.int .i64 d.length),(12,.sl (d.map cL) d.length cap),(3,.gsl (out.map cL) i L.length 1)]/\L'=L++Z) (CutS (b:=by have:=(alq.1 ho).1;simp at this⊢)) ⟨0,[],_,X,rfl,alw _,hid ⟨rfl,.inl ⟨rfl,rfl,rfl⟩,aoK⟩,ho,alr _,rfl,rfl⟩ ?_;clear ho;rintro _ _ _ ⟨k,l,v,X1,rfl,hk,hI,ho,hXZ,rfl,rfl⟩;obtain⟨hl,hv,hlen⟩:=hI.o;clear hI;have hB:L.length<(L++X1).length:=(alq.1 ho).1;refine Zd 6 2 L.length rfl hB hv λp Y hBi hpi=>?_
  rw[alI]at hpi⊢;have ho2:(L++(X1++Y))[L.length]?=some (.spare i 1):=(by rw[<- alI,aly hB];exact ho);have hXZ2:X.length<=(X1++Y).length:=(by simp;omega);generalize X1++Y=Z at hpi ho2 hXZ2⊢;clear ho hB hv hXZ X1 Y;replace hXZ2:=hid hXZ2;have hll:l.length=k:=(by rw[hl,xU];simp;omega);rw[hll]at hpi⊢;have hpl:=(alq.1 hpi).1;have hol:=(alq.1 ho2).1;rw[alJ]at hpl hol;replace hlen:=hid hlen;replace hl:=hid hl;replace hpl:=hid hpl;replace hol:=hid hol;by_cases hkl:k<r.length
  .have g3:(k:Int)<(r.length:Int):=aoJ;have g4:=alm k aoJ;have e3:=gy hkl;have e4:k*2+2<=(bb r).length:=(by rw[dW];omega);obtain⟨⟨ty,va⟩,ha⟩:∃a,r.getD k ([],[])=a:=⟨_,rfl⟩;have ham:(ty,va)∈r:=(by rw[<- ha];simp[hkl]);have hnew:=ZC hkl;rw[ha]at e3 hnew;simp only[sD]at e3;have hva:=hrl2.o _ ham;simp only at hva;have hva2:(va.length:Int)<=100000:=aoJ;have hty2:(ty.length:Int)<=100000:=aoJ;obtain⟨fx,hfx⟩:=alj (af ty);obtain⟨px,hpx⟩:=alj (bH va);have hfl:fx.length<=10000:=(by rw[<- hfx];simp[af];omega);have hpxl:px.length<=10000:=(by rw[<- hpx];have:=rr va;omega);have hpav:tK (ty,va)=(fx,px):=(by simp[tK,hfx,hpx]);rw[hpav,<- hl.o]at hnew;replace hnew:=hid hnew;clear ha ham hpav
   iterate 24 first
    |refine bd ?_
    | (first|refine aV aoL ?_|refine aB aoL ?_|refine aE ?_|refine bJ ?_|refine bg (fun _=>?_)|refine ax ?_|refine aY ?_|refine oK hty2 ?_|refine xO hva2 ?_|refine aU (oK hty2 ⟨rfl,rfl⟩) (oK hty2 ⟨rfl,rfl⟩) ?_|refine aU (xO hva2 ⟨rfl,rfl⟩) (xO hva2 ⟨rfl,rfl⟩) ?_|refine aA (oK hty2 ⟨rfl,rfl⟩) ?_|refine aA (xO hva2 ⟨rfl,rfl⟩) ?_)
      simp(config:={maxSteps:=2000000}) only[Kon,push_cast,reduceIte,Nat.reduceEqDiff,Nat.reduceAdd,Nat.reduceMul,Nat.reduceSub,Nat.reduceLT,Nat.reduceLeDiff,Int.reduceLT,Int.reduceLE,Int.reduceAdd,Int.reduceSub,Int.reduceNeg,Int.reduceToNat,Int.reduceEq,reduceCtorEq, *]
    | (first|refine aO aoL ?_|refine aP ?_|refine aD ?_|refine aW ?_|refine bq (aw ?_))
      simp only[push_cast,reduceIte,Nat.reduceEqDiff,Nat.reduceAdd,Nat.reduceMul,Nat.reduceSub,Nat.reduceLT,Nat.reduceLeDiff,Int.reduceLT,Int.reduceLE,Int.reduceAdd,Int.reduceSub,Int.reduceNeg,Int.reduceToNat,Int.reduceEq,reduceCtorEq, *]
    |exact bh
    |first|apply bj|apply aR|apply bm|apply aS|apply bo|apply aT
    |refine aH ?_
    |refine aC ?_
    |first|refine aF rfl ?_|refine aG rfl ?_|refine ao rfl ?_ ?_|refine aJ rfl (λ_=>?_) (λ_=>?_)|refine aI rfl (λ_=>?_) (λ_=>?_)
    |((first|refine an (λ_=>?_) (λ_=>?_)|refine au (λ_=>?_) (λ_=>?_))<;>try simp(config:={maxSteps:=2000000}) only[Kon,push_cast,reduceIte,Nat.reduceEqDiff,Nat.reduceAdd,Nat.reduceMul,Nat.reduceSub,Nat.reduceLT,Nat.reduceLeDiff,Int.reduceLT,Int.reduceLE,Int.reduceAdd,Int.reduceSub,Int.reduceNeg,Int.reduceToNat,Int.reduceEq,reduceCtorEq, *])
    |refine And.intro trivial ?_
    |refine And.intro aoJ ?_
    |refine aL rfl (λ_=>?_) (λ_=>?_)
    |refine And.intro ?_ ?_
   have hnp:l.getD k ([],[])=([],[]):=(by simp[hll]);obtain⟨wx,hwx⟩:=alj (fa px);have hkx:xr (fx,px)=fx++61::wx:=(by simp[avT,hwx]);have hwxl:wx.length<=30000:=(by rw[<- hwx];have:=KP px;omega);have hpx2:px.length<=100000:=aoJ;replace hkx:=hid hkx;clear hnp;refine Lg (λT2 L2=>∃z:Nat,z<=k/\Hid (z=xT l (fx,px) k)/\T2=[(10,.int .i64 (z:Int)),(9,.ptr (L.length+(Z.length+1)) 0),(6,.gsl (bb l) k p 2),(20,.int .i64 (k:Int)),(19,.int .i64 r.length),(18,cL r),(14,.int .i64 (i:Int)),(13,.int .i64 d.length),(12,.sl (d.map cL) d.length cap),(3,.gsl (out.map cL) i L.length 1)]/\L2=L++(Z++[.cells [.str ty,.str va],.cells [.str fx,.str px]])) ?_ ?_;refine wk ?_;refine ah (λn T' L'=>∃q:Nat,q=n/\q<=k/\Hid (xT l (fx,px) q=xT l (fx,px) k)/\T'=[(10,.int .i64 (q:Int)),(9,.ptr (L.length+(Z.length+1)) 0),(6,.gsl (bb l) k p 2),(20,.int .i64 (k:Int)),(19,.int .i64 r.length),(18,cL r),(14,.int .i64 (i:Int)),(13,.int .i64 d.length),(12,.sl (d.map cL) d.length cap),(3,.gsl (out.map cL) i L.length 1)]/\L'=L++(Z++[.cells [.str ty,.str va],.cells [.str fx,.str px]])) aoN ⟨k,rfl,alr _,hid rfl,rfl,rfl⟩ ?_;rintro _ _ _ ⟨q,rfl,hqk,hq,rfl,rfl⟩;rcases q with _|q;have h0:=hid hq.o.symm;have k0:¬(0:Int)<((0:Nat):Int):=aoJ;have kk1:=@aoQ _ _ _ _ (oy hpx2);refine wk ?_;exact iT _ _ aoM ⟨0,aoJ,hid h0.o.symm,rfl,rfl⟩;have k0:(0:Int)<((q+1:Nat):Int):=aoJ;have k1:IntKind.i64.wrap (((q+1:Nat):Int)-1)=(q:Int):=(by rw[ad aoJ aoJ];omega);have k4:(q:Int)<(k:Int):=aoJ;have e5:=gy (r:=l) (k:=q) aoJ;have e6:q*2+2<=(bb l).length:=by rw[dW];omega
   obtain⟨⟨t1,v1⟩,hav⟩:∃a,l.getD q ([],[])=a:=⟨_,rfl⟩;rw[hav]at e5;simp only[sD]at e5;obtain⟨e7,e8⟩:=adf e5;obtain⟨w1,hw1⟩:=alj (fa v1);have hv1:=hlen.o (t1,v1) (by rw[<- hav];simp[show q<l.length by omega]);simp only at hv1;have hv1':v1.length<=100000:=aoJ;have hw1l:w1.length<=30000:=(by rw[<- hw1];have:=KP v1;omega);have hk1:xr (l.getD q ([],[]))=t1++61::w1:=(by rw[hav];simp[avT,hw1]);have c1:((t1.length+1:Nat):Int)<=9223372036854775807:=aoJ;have c2:((t1.length+1+w1.length:Nat):Int)<=9223372036854775807:=aoJ;have c3:((fx.length+1:Nat):Int)<=9223372036854775807:=aoJ;have c4:((fx.length+1+wx.length:Nat):Int)<=9223372036854775807:=aoJ;simp only[Int.natCast_add,Int.cast_ofNat_Int]at c1 c2 c3 c4;replace hk1:=hid hk1;simp only[Int.natCast_add,Int.cast_ofNat_Int]at k0 k1;have hq':=hid hq.o;clear hq hav;by_cases hc:xr (fx,px)<xr (l.getD q ([],[]));have hb:(Op.bytesLess (t1++61::w1) (fx++61::wx) ||decide (t1++61::w1=fx++61::wx))=false:=by rw[hkx.o,hk1.o]at hc;rw[bytesLess_eq];simp only[an0,decide_eq_false_iff_not];exact⟨λe=>amz _ (anv e hc),λe=>by rw[e]at hc;exact amz _ hc⟩
   have hq2:xT l (fx,px) q=xT l (fx,px) k:=(by rw[<- hq'.o,xT,if_pos hc]);replace hq2:=hid hq2;clear hc;have kk1:=@aoQ _ _ _ _ (oy hpx2);have kk2:=@aoQ _ _ _ _ (oy hv1');refine wk ?_;exact aoO aoJ aoM ⟨q,rfl,aoJ,hq2,rfl,rfl⟩;have hb:(Op.bytesLess (t1++61::w1) (fx++61::wx) ||decide (t1++61::w1=fx++61::wx))=true:=by rw[hkx.o,hk1.o]at hc;rw[bytesLess_eq];simp only[al9,decide_eq_true_eq];have:=amR.1 hc;rcases anL.1 this with e|e;exact .inl e;exact .inr e
   have hq2:q+1=xT l (fx,px) k:=(by rw[<- hq'.o,xT,if_neg hc]);replace hq2:=hid hq2;clear hc;have kk1:=@aoQ _ _ _ _ (oy hpx2);have kk2:=@aoQ _ _ _ _ (oy hv1');refine wk ?_;exact iT _ _ aoM ⟨q+1,aoJ,hq2,rfl,rfl⟩;rintro _ _ ⟨z,hzk,hz,rfl,rfl⟩ -;have z0:(0:Int)<=(z:Int):=aoJ;have z1:(z:Int)<=(k:Int):=aoJ;have s1:(bb l).take (z*2)=bb (l.take z):=Tp;have s2:((bb l).drop (z*2)).take ((k-z)*2)=bb (l.drop z):=by rw[aez,ams];rw[dW,ank,hll];omega
   have s3:AV.frzL (bb (l.take z))=bb (l.take z):=jH _;have s4:AV.frzL (bb (l.drop z))=bb (l.drop z):=jH _;have s5:(bb (l.take z)).length=z*2:=(by rw[dW,anl];omega);have s6:(bb (l.drop z)).length=(k-z)*2:=(by rw[dW,ank,hll]);have s7:z+1+(k-z)=k+1:=aoJ;have s8:=Wr (l.take z);have s9:=Wr (l.drop z);have q1:z*32<=140737488355328:=aoJ;have q2:z<=140737488355328:=aoJ;have q3:(z+1)*32<=140737488355328:=aoJ;have q4:z+1<=140737488355328:=aoJ;have q5:(k+1)*32<=140737488355328:=aoJ;have q6:k+1<=140737488355328:=aoJ
   iterate 3 first
    |refine bd ?_
    | (first|refine aV aoL ?_|refine aB aoL ?_|refine aE ?_|refine bJ ?_|refine bg (fun _=>?_)|refine ax ?_|refine aY ?_)
      simp(config:={maxSteps:=2000000}) only[Kon,push_cast,reduceIte,Nat.reduceEqDiff,Nat.reduceAdd,Nat.reduceMul,Nat.reduceSub,Nat.reduceLT,Nat.reduceLeDiff,Int.reduceLT,Int.reduceLE,Int.reduceAdd,Int.reduceSub,Int.reduceNeg,Int.reduceToNat,Int.reduceEq,reduceCtorEq, *]
    | (first|refine aO aoL ?_|refine aP ?_|refine aD ?_|refine aW ?_|refine bq (aw ?_))
      simp only[push_cast,reduceIte,Nat.reduceEqDiff,Nat.reduceAdd,Nat.reduceMul,Nat.reduceSub,Nat.reduceLT,Nat.reduceLeDiff,Int.reduceLT,Int.reduceLE,Int.reduceAdd,Int.reduceSub,Int.reduceNeg,Int.reduceToNat,Int.reduceEq,reduceCtorEq, *]
    |exact bh
    |first|apply bj|apply aR|apply bm|apply aS|apply bo|apply aT
    |refine aH ?_
    |refine aC ?_
    |first|refine aF rfl ?_|refine aG rfl ?_|refine ao rfl ?_ ?_|refine aJ rfl (λ_=>?_) (λ_=>?_)|refine aI rfl (λ_=>?_) (λ_=>?_)
    |((first|refine an (λ_=>?_) (λ_=>?_)|refine au (λ_=>?_) (λ_=>?_))<;>try simp(config:={maxSteps:=2000000}) only[Kon,push_cast,reduceIte,Nat.reduceEqDiff,Nat.reduceAdd,Nat.reduceMul,Nat.reduceSub,Nat.reduceLT,Nat.reduceLeDiff,Int.reduceLT,Int.reduceLE,Int.reduceAdd,Int.reduceSub,Int.reduceNeg,Int.reduceToNat,Int.reduceEq,reduceCtorEq, *])
    |refine And.intro trivial ?_
    |refine And.intro aoJ ?_
    |refine aL rfl (λ_=>?_) (λ_=>?_)
    |refine And.intro ?_ ?_
   refine bF (l:=[]) (n:=0) 11 2 rfl (alU 2).symm ?_;refine wk ?_;have hcell:bb (l.take z)++AV.str fx::AV.str px::bb (l.drop z)=bb (Kc l (fx,px)):=by rw[Kc,hll,<- hz.o,Yc,Yc];simp[bb,sD]
   have hlen2:(Kc l (fx,px)).length=k+1:=(by rw[Z6,hll]);rw[hcell];refine aoO aoJ (CutL (b:=?_)) ⟨k+1,Kc l (fx,px),_,_,rfl,hkl,hid ⟨hnew.o.symm,.inr ⟨L.length+(Z.length+2),aoJ,by rw[hlen2],?_⟩,aiC hlen.o ⟨hfl,hpxl⟩⟩,?_,?_,rfl,rfl⟩;have:=hXZ2.o;simp;omega;rw[oM,oM,hlen2];rfl;rw[<- alI,aly (alq.1 ho2).1];exact ho2;have:=hXZ2.o;simp;omega
  have hke:k=r.length:=aoJ;subst hke;have g3:¬(r.length:Int)<(r.length:Int):=aoJ;have q3:(i+1)*24<=140737488355328:=aoJ;have q4:i+1<=140737488355328:=aoJ;have e5:AV.frzL (bb l)=bb l:=jH _;have e6:out.map cL++[AV.sl (bb l) r.length none]=(out++[l]).map cL:=by rw[alW];simp[hll]
  have e7:out++[l]=(d.take (i+1)).map fY:=by rw[htk.o,alW,<- hout.o,hl.o,alF];rfl
  have s4:∀(W:List Blk) A,(L++W).set L.length A=L++W.set 0 A:=λW A=>by rw[amd _ _ (alr _),amK]
  have f1:(L++Z.set 0 (.spare (i+1) 1))[L.length]?=some (.spare (i+1) 1):=by rw[<- s4,alO,if_pos rfl,if_pos (alq.1 ho2).1]
  replace e7:=hid e7;replace f1:=hid f1;replace e6:=hid e6;refine wk ?_;rw[e6.o];refine aoO aoJ (CutL (b:=?_)) ⟨i+1,out++[l],_,rfl,hlt,e7,f1.o,rfl,rfl⟩;have:=hol.o;simp;omega
 have hke:i=d.length:=aoJ;subst hke;have g1:¬(d.length:Int)<(d.length:Int):=aoJ;have e:=hout.o;rw[alF]at e;have h':=h.o;rw[show(ml d)=out from e.symm]at h';replace h':=hid h';clear hout e;refine wk ?_;refine bu (ab ?_ ?_);simp only[AV.frz,AV.frzL,uk,AV.refs,AV.refsL,KZ,amr];simp only[AV.frz,AV.frzL,uk];exact h'.o
theorem abc(d:List Rdn):(ml d).length=d.length:=by simp[ml]
theorem abb(h:∀a∈r,a.1.length<=10000/\a.2.length<=10000):∀a∈fY r,a.1.length<=10000/\a.2.length<=10000:=λa ha=>by have hp:=(R4 r [] List.Pairwise.nil).2;have hm:=hp.mem_iff.1 ha;rw[al2]at hm;obtain⟨b,hb,rfl⟩:=alt.1 hm;obtain⟨h1,h2⟩:=h b hb;have h3:=rr b.2;simp only[tK,af,al5];omega
theorem afm(hn:d.length<=1100000)(hr:∀r∈d,r.length<=1100000/\∀a∈r,(a.1.length:Int)<=140737488351232)(h:K (ug (Vs d)) L):
  alo 132 [.sl (d.map cL) d.length cap] L K:=by
 unfold Vs ug at h;refine aln UA ?_;refine adw hn hr ?_;unfold ug;obtain⟨⟨ps,pe⟩,hp⟩:∃p,prS d=p:=⟨_,rfl⟩;rw[hp]at h⊢;simp only at h⊢;by_cases h0:pe=0;subst h0;obtain⟨q1,q2⟩:=afD (by rw[hp]);rw[if_neg aoK]at h;have hb:∀r∈d,r.length<=1000/\∀a∈r,a.1.length<=10000/\a.2.length<=10000:=λr hr=>⟨by have:=(q2 r hr).1;omega,λa ha=>⟨by have:=((q2 r hr).2 a ha).1;omega,by have:=((q2 r hr).2 a ha).2;omega⟩⟩
 have hb2:∀r∈ml d,r.length<=1000/\∀a∈r,a.1.length<=10000/\a.2.length<=10000:=λr hr=>by obtain⟨r0,hr0,rfl⟩:=alt.1 hr;exact⟨by rw[xU];exact(hb r0 hr0).1,abb (hb r0 hr0).2⟩
 have hpl:=hid (abc d);rw[<- Vk]at h;replace h:=hid h;replace hb:=hid hb;replace hb2:=hid hb2;clear hp hr q2;refine sk ?_;have kk1:=@aoQ _ _ _ _ (afj (cap:=cap) aoJ hb.o);refine wk ?_;rw[<- hpl.o];refine Ym (by rw[hpl.o];omega) hb2.o ?_;refine aoR ?_;exact aa h.o;rw[if_pos h0]at h;replace h:=hid h;clear hp hr;refine aoR ?_;exact aa h.o
theorem aia(hn:d.length<=1000000)(hr:∀r∈d,r.length<=1000000/\∀a∈r,(a.1.length:Int)<=100000)(h:K (ug (Vs d)) L):
 alo 132 [.sl (d.map cL) d.length cap] L K:=afm aoJ (λr hm=>⟨by have:=(hr r hm).1;omega,λa ha=>by have:=(hr r hm).2 a ha;omega⟩) h
theorem Vp:∀(f:Nat) (out:List Rdn) (now:Rdn) (s:List UInt8),(∀a∈now,a.1.length<=32)->(∀r∈out,∀a∈r,a.1.length<=32)->∀r∈(sA f out now s).1,∀a∈r,a.1.length<=32
 |0,_,_,_,_,_=>by simp[sA]
 | f+1,out,now,s,h1,h2=>by
   rw[sA];split
   .simp
   split
   .simp
   split
   .simp
   rename_i hty;have hty':=uf (by simpa using hty);have hrow:∀v,∀a∈now++[(_,v)],a.1.length<=32:=λv a ha=>by
    rcases alv.1 ha with h|h
    .exact h1 a h
    .rw[alM.1 h];exact hty'
   have hout:∀v,∀r∈out++[now++[(_,v)]],∀a∈r,a.1.length<=32:=λv r hr=>by
    rcases alv.1 hr with h|h
    .exact h2 r h
    .rw[alM.1 h];exact hrow v
   split
   .simp
   split
   .simp
   split
   .simp
   split
   .exact hout _
   split
   .exact Vp f _ _ _ aoK (hout _)
   .exact Vp f _ _ _ (hrow _) h2
theorem afK(s:List UInt8):∀r∈(xh s).1,∀a∈r,a.1.length<=32:=by unfold xh;split;simp;split;simp;exact Vp _ _ _ _ aoK aoK
theorem afo(h:K (ug (Kb s)) L):alo 92 [.str s] L K:=by unfold Kb at h;refine aln Wg ?_;refine afk ?_;obtain⟨q1,q2⟩:=acA s;have q3:=afK s;obtain⟨⟨pd,pe⟩,hp⟩:∃p,xh s=p:=⟨_,rfl⟩;rw[hp]at h q1 q2 q3⊢;simp only[abf]at h q1 q2 q3⊢;clear hp;by_cases h0:pe=0;subst h0;rw[if_neg aoK]at h;replace h:=hid h;replace q2:=hid q2;replace q3:=hid q3;refine aoR ?_;refine aia aoJ (λr hr=>⟨by have:=q2.o r hr;omega,λa ha=>by have:=q3.o r hr a ha;omega⟩) ?_;have h':=h.o;unfold ug at h'⊢;replace h':=hid h';refine aoR ?_;exact aa h'.o;rw[if_pos h0]at h;unfold ug at h;replace h:=hid h;clear q1 q2 q3;refine aoR ?_;exact aa h.o
def qA(b:Nat):Nat×Nat:=if 240<=b then(4,b-240)else if 224<=b then(3,b-224)else if 192<=b then(2,b-192)else(1,b)
def PW(n c:Nat):Bool:=decide (¬(n=2/\c<128\/n=3/\c<2048\/n=4/\c<65536\/1114111<c\/55296<=c/\c<57344))
def Pa:Nat->List UInt8->Nat->Option Nat
 |0,_,c=>some c
 |_+1,[],_=>none
 |k+1,x::t,c=>if 128<=x.toNat/\x.toNat<192 then Pa k t (c*64+x.toNat-128)else none
def Uk:Nat->List UInt8->Bool
 |_,[]=>true
 |0,_::_=>true
 | f+1,b::t=>if 128<=b.toNat/\b.toNat<192 then false else if t.length+1<(qA b.toNat).1 then false else
   match Pa ((qA b.toNat).1-1) t (qA b.toNat).2 with
   |none=>false
   |some c=>PW (qA b.toNat).1 c&&Uk f (t.drop ((qA b.toNat).1-1))
theorem acl(hs:s.length<=1100000)(h:K (.bool (Uk s.length s)) L):alo 89 [.str s] L K:=by
 obtain⟨R,hR⟩:=alj (Uk s.length s);rw[hR]at h;replace h:=hid h;refine aln Wd ?_;refine ah (λn T' L'=>∃(f:Nat) (u:List UInt8),f=n/\u.length<=1100000/\Hid (u.length<=f/\Uk f u=R)/\T'=[(0,.str u)]/\L=L') (CutS (b:=alr _)) ⟨s.length,s,rfl,hs,hid ⟨alr _,hR⟩,rfl,rfl⟩ ?_;clear hR hs;rintro _ _ _ ⟨f,u,rfl,hu,hI,rfl,rfl⟩;rcases u with _|⟨b,t⟩;have h':=h.o;rw[<- hI.o.2,show Uk f []=true by cases f<;>rfl]at h';replace h':=hid h';have e0:([]:List UInt8).length=0:=rfl;refine wk ?_;exact aa h'.o;obtain⟨u,hut⟩:=alj (b::t);obtain⟨f,rfl⟩:∃g,f=g+1:=⟨f-1,by have:=hI.o.1;simp at this;omega⟩;have hb0:u.getD 0 0=b:=by rw[<- hut];rfl
 have hul:u.length=t.length+1:=by rw[<- hut];rfl
 have hI2:=hI.o.2;have hfl:=hI.o.1;rw[Uk]at hI2;rw[hut]at hu hfl⊢;obtain⟨x,hx⟩:=alj (b.toNat);have hx256:x<256:=by rw[<- hx];exact b.toNat_lt
 rw[hx]at hI2;have hpos:(0:Int)<(u.length:Int):=aoJ;have w0:IntKind.i64.wrap (x:Int)=(x:Int):=ad aoJ aoJ;have hxi:(b.toNat:Int)=(x:Int):=aoJ;have hbad:R=false->Fin L (.bool false) L K:=λe=>aa (by have h':=h.o;rwa[e]at h')
 replace hbad:=hid hbad;have hdr:∀i,u.drop (i+1)=t.drop i:=λi=>by rw[<- hut];rfl
 replace hut:=hid hut;replace hul:=hid hul;clear hx hI;by_cases hmid:128<=x/\x<192;rw[if_pos hmid]at hI2;have c1:¬(240:Int)<=(x:Int):=aoJ;have c2:¬(224:Int)<=(x:Int):=aoJ;have c3:¬(192:Int)<=(x:Int):=aoJ;have c4:(128:Int)<=(x:Int):=aoJ;have e:=hid hI2.symm;clear hmid hI2;refine wk ?_;exact hbad.o e.o;rw[if_neg hmid]at hI2;obtain⟨⟨n,c0⟩,hn⟩:∃p,qA x=p:=⟨_,rfl⟩;rw[hn]at hI2;simp only at hI2;have hn14:1<=n/\n<=4/\c0<256:=by
  unfold qA at hn
  repeat' split at hn
  all_goals (cases hn;omega)
 obtain⟨hn1,hn4,hc0⟩:=hn14;replace hI2:=hid hI2
 iterate 13 first
  |refine bd ?_
  | (first|refine aV aoL ?_|refine aB aoL ?_|refine aE ?_|refine bJ ?_|refine bg (fun _=>?_)|refine ax ?_|refine aY ?_)
    simp(config:={maxSteps:=2000000}) only[Kon,push_cast,reduceIte,Nat.reduceEqDiff,Nat.reduceAdd,Nat.reduceMul,Nat.reduceSub,Nat.reduceLT,Nat.reduceLeDiff,Int.reduceLT,Int.reduceLE,Int.reduceAdd,Int.reduceSub,Int.reduceNeg,Int.reduceToNat,Int.reduceEq,reduceCtorEq, *]
  | (first|refine aO aoL ?_|refine aP ?_|refine aD ?_|refine aW ?_|refine bq (aw ?_))
    simp only[push_cast,reduceIte,Nat.reduceEqDiff,Nat.reduceAdd,Nat.reduceMul,Nat.reduceSub,Nat.reduceLT,Nat.reduceLeDiff,Int.reduceLT,Int.reduceLE,Int.reduceAdd,Int.reduceSub,Int.reduceNeg,Int.reduceToNat,Int.reduceEq,reduceCtorEq, *]
  |exact bh
  |first|apply bj|apply aR|apply bm|apply aS|apply bo|apply aT
  |refine aH ?_
  |refine aC ?_
  |first|refine aF rfl ?_|refine aG rfl ?_|refine ao rfl ?_ ?_|refine aJ rfl (λ_=>?_) (λ_=>?_)|refine aI rfl (λ_=>?_) (λ_=>?_)
  |((first|refine an (λ_=>?_) (λ_=>?_)|refine au (λ_=>?_) (λ_=>?_))<;>try simp(config:={maxSteps:=2000000}) only[Kon,push_cast,reduceIte,Nat.reduceEqDiff,Nat.reduceAdd,Nat.reduceMul,Nat.reduceSub,Nat.reduceLT,Nat.reduceLeDiff,Int.reduceLT,Int.reduceLE,Int.reduceAdd,Int.reduceSub,Int.reduceNeg,Int.reduceToNat,Int.reduceEq,reduceCtorEq, *])
  |refine And.intro trivial ?_
  |refine And.intro aoJ ?_
  |refine aL rfl (λ_=>?_) (λ_=>?_)
  |refine And.intro ?_ ?_
 refine Lg (λT2 L2=>T2=[(4,.int .i64 (n:Int)),(3,.int .i64 (c0:Int)),(0,.str u)]/\L=L2) ?_ ?_;unfold qA at hn;by_cases q1:240<=x;rw[if_pos q1]at hn;cases hn;have c1:(240:Int)<=(x:Int):=aoJ;have w1:IntKind.i64.wrap ((x:Int)-240)=((x-240:Nat):Int):=by rw[ad aoJ aoJ];omega
 obtain⟨d,hd⟩:=alj (x-240);rw[hd]at w1⊢;clear q1 hd hmid;refine wk ?_;exact iT _ _ aoM ⟨rfl,rfl⟩;rw[if_neg q1]at hn;have c1:¬(240:Int)<=(x:Int):=aoJ;by_cases q2:224<=x;rw[if_pos q2]at hn;cases hn;have c2:(224:Int)<=(x:Int):=aoJ;have w1:IntKind.i64.wrap ((x:Int)-224)=((x-224:Nat):Int):=by rw[ad aoJ aoJ];omega
 obtain⟨d,hd⟩:=alj (x-224);rw[hd]at w1⊢;clear q1 q2 hd hmid;refine wk ?_;exact iT _ _ aoM ⟨rfl,rfl⟩;rw[if_neg q2]at hn;have c2:¬(224:Int)<=(x:Int):=aoJ;by_cases q3:192<=x;rw[if_pos q3]at hn;cases hn;have c3:(192:Int)<=(x:Int):=aoJ;have w1:IntKind.i64.wrap ((x:Int)-192)=((x-192:Nat):Int):=by rw[ad aoJ aoJ];omega
 obtain⟨d,hd⟩:=alj (x-192);rw[hd]at w1⊢;clear q1 q2 q3 hd hmid;refine wk ?_;exact iT _ _ aoM ⟨rfl,rfl⟩;rw[if_neg q3]at hn;cases hn;have c3:¬(192:Int)<=(x:Int):=aoJ;have c4:¬(128:Int)<=(x:Int):=aoJ;clear q1 q2 q3 hmid;refine wk ?_;exact iT _ _ aoM ⟨rfl,rfl⟩;rintro _ _ ⟨rfl,rfl⟩ -;clear hn hmid hxi w0;by_cases hsh:t.length+1<n;have hI3:=hI2.o;rw[if_pos hsh]at hI3;have k1:(u.length:Int)<(n:Int):=by have:=hul.o;omega
 have e:=hid hI3.symm;clear hsh hI3;refine wk ?_;exact hbad.o e.o;have hI3:=hI2.o;rw[if_neg hsh]at hI3;have k1:¬(u.length:Int)<(n:Int):=by have:=hul.o;omega
 have hnu:n<=u.length:=by have:=hul.o;omega
 obtain⟨o,ho⟩:=alj (Pa (n-1) t c0);rw[ho]at hI3;replace hI3:=hid hI3;clear hI2;refine wk ?_;refine ah (λm T' L'=>∃(i c:Nat),m=n-i/\1<=i/\i<=n/\c<256*64^(i-1)/\Hid (Pa (n-i) (u.drop i) c=o)/\T'=[(5,.int .i64 (i:Int)),(4,.int .i64 (n:Int)),(3,.int .i64 (c:Int)),(0,.str u)]/\L=L') (CutS (b:=alr _)) ⟨1,c0,rfl,alr _,hn1,by simpa using hc0,hid (by rw[hdr 0];exact ho),rfl,rfl⟩ ?_;clear ho;rintro _ _ _ ⟨i,c,rfl,hi1,hin,hc,hO,rfl,rfl⟩;have hc4:c<67108864:=by refine amV hc ?_;have:i=1\/i=2\/i=3\/i=4:=aoJ;rcases this with rfl|rfl|rfl|rfl<;>decide
 by_cases hlt:i<n;have g1:(i:Int)<(n:Int):=aoJ;have g2:(i:Int)<(u.length:Int):=aoJ;have g3:=alm i aoJ;obtain⟨y,hy⟩:=alj (u.getD i 0);obtain⟨z,hz⟩:=alj (y.toNat);have hz256:z<256:=by rw[<- hz];exact y.toNat_lt
 have hzi:(y.toNat:Int)=(z:Int):=aoJ;have hO2:=hO.o;rw[ot (show i<u.length by omega),hy,show n-i=(n-(i+1))+1 by omega,Pa,hz]at hO2;have w1:IntKind.i64.wrap (z:Int)=(z:Int):=ad aoJ aoJ;clear hz;by_cases hcn:128<=z/\z<192;rw[if_pos hcn]at hO2;have k2:¬(z:Int)<128:=aoJ;have k3:¬(192:Int)<=(z:Int):=aoJ;have w2:IntKind.i64.wrap ((c:Int)*64)=(c:Int)*64:=ad aoJ aoJ;have w3:IntKind.i64.wrap ((c:Int)*64+(z:Int))=(c:Int)*64+(z:Int):=ad aoJ aoJ;have w4:IntKind.i64.wrap ((c:Int)*64+(z:Int)-128)=((c*64+z-128:Nat):Int):=by rw[ad aoJ aoJ];omega
 have hcc:c*64+z-128<256*64^(i+1-1):=by have:i=1\/i=2\/i=3:=aoJ;rcases this with rfl|rfl|rfl<;>simp at hc⊢<;>omega
 obtain⟨c',hc'⟩:=alj (c*64+z-128);rw[hc']at w4 hO2 hcc;replace hO2:=hid hO2;clear hcn hc';refine wk ?_;exact aoO aoJ aoM ⟨i+1,c',rfl,aoJ,hlt,hcc,hO2,rfl,rfl⟩;rw[if_neg hcn]at hO2;have hI4:=hI3.o;rw[<- hO2]at hI4;have e:=hid hI4.symm;by_cases k2:(z:Int)<128;clear hcn hO2 hI4;refine wk ?_;exact hbad.o e.o;have k3:(192:Int)<=(z:Int):=aoJ;clear hcn hO2 hI4;refine wk ?_;exact hbad.o e.o
 .have hke:i=n:=aoJ;subst hke;have g1:¬(i:Int)<(i:Int):=aoJ;have hO2:=hO.o;rw[amK,Pa]at hO2;have hI4:=hI3.o;rw[<- hO2]at hI4;simp only[PW]at hI4;have e1:((i:Int)).toNat=i:=aoJ;have g2:(i:Int)<=(u.length:Int):=aoJ;have e2:(u.drop i).take (u.length-i)=u.drop i:=ams aoK;have e3:u.drop i=t.drop (i-1):=(by rw[<- hdr (i-1),show i-1+1=i by omega]);have hb2:(i=2/\c<128\/i=3/\c<2048\/i=4/\c<65536\/1114111<c\/55296<=c/\c<57344)->R=false:=λe=>by rw[decide_eq_false (λhn=>hn e),amL]at hI4;exact hI4.symm
  have hg2:¬(i=2/\c<128\/i=3/\c<2048\/i=4/\c<65536\/1114111<c\/55296<=c/\c<57344)->Uk f (u.drop i)=R:=λe=>by rw[decide_eq_true e,aml]at hI4;rw[e3];exact hI4
  replace hb2:=hid hb2;replace hg2:=hid hg2;replace e3:=hid e3;clear hI4 hO2 hI3
  repeat' first
   |refine bd ?_
   | (first|refine aV aoL ?_|refine aB aoL ?_|refine aE ?_|refine bJ ?_|refine bg (fun _=>?_)|refine ax ?_|refine aY ?_)
     simp(config:={maxSteps:=2000000}) only[Kon,push_cast,reduceIte,Nat.reduceEqDiff,Nat.reduceAdd,Nat.reduceMul,Nat.reduceSub,Nat.reduceLT,Nat.reduceLeDiff,Int.reduceLT,Int.reduceLE,Int.reduceAdd,Int.reduceSub,Int.reduceNeg,Int.reduceToNat,Int.reduceEq,reduceCtorEq, *]
   | (first|refine aO aoL ?_|refine aP ?_|refine aD ?_|refine aW ?_|refine bq (aw ?_))
     simp only[push_cast,reduceIte,Nat.reduceEqDiff,Nat.reduceAdd,Nat.reduceMul,Nat.reduceSub,Nat.reduceLT,Nat.reduceLeDiff,Int.reduceLT,Int.reduceLE,Int.reduceAdd,Int.reduceSub,Int.reduceNeg,Int.reduceToNat,Int.reduceEq,reduceCtorEq, *]
   |exact bh
   |first|apply bj|apply aR|apply bm|apply aS|apply bo|apply aT
   |refine aH ?_
   |refine aC ?_
   |first|refine aF rfl ?_|refine aG rfl ?_|refine ao rfl ?_ ?_|refine aJ rfl (λ_=>?_) (λ_=>?_)|refine aI rfl (λ_=>?_) (λ_=>?_)
   |((first|refine an (λ_=>?_) (λ_=>?_)|refine au (λ_=>?_) (λ_=>?_))<;>try simp(config:={maxSteps:=2000000}) only[Kon,push_cast,reduceIte,Nat.reduceEqDiff,Nat.reduceAdd,Nat.reduceMul,Nat.reduceSub,Nat.reduceLT,Nat.reduceLeDiff,Int.reduceLT,Int.reduceLE,Int.reduceAdd,Int.reduceSub,Int.reduceNeg,Int.reduceToNat,Int.reduceEq,reduceCtorEq, *])
   |refine And.intro trivial ?_
   |refine And.intro aoJ ?_
   |refine aL rfl (λ_=>?_) (λ_=>?_)
   |refine And.intro ?_ ?_
  rename_i hx;exact hbad.o (hb2.o aoJ);rename_i hx;refine aoO aoJ (CutL (b:=alr _)) ⟨f,u.drop i,rfl,?_,hid ⟨?_,hg2.o aoJ⟩,rfl,rfl⟩;simp;omega;simp;omega
def Cn(x:Nat):Prop:=128<=x/\x<192
instance (x:Nat):Decidable (Cn x):=by unfold Cn;infer_instance
def KI(n b0 b1:Nat):Prop:=n<2\/¬Cn b1\/(b0-192)*64+b1-128<128
def Sm(n b0 b1 b2:Nat):Prop:=n<3\/¬Cn b1\/¬Cn b2\/((b0-224)*64+b1-128)*64+b2-128<2048\/55296<=((b0-224)*64+b1-128)*64+b2-128/\((b0-224)*64+b1-128)*64+b2-128<57344
def Lm(n b0 b1 b2 b3:Nat):Prop:=n<4\/¬Cn b1\/¬Cn b2\/¬Cn b3\/(((b0-240)*64+b1-128)*64+b2-128)*64+b3-128<65536\/1114111<(((b0-240)*64+b1-128)*64+b2-128)*64+b3-128
instance (n b0 b1:Nat):Decidable (KI n b0 b1):=by unfold KI;infer_instance
instance (n b0 b1 b2:Nat):Decidable (Sm n b0 b1 b2):=by unfold Sm;infer_instance
instance (n b0 b1 b2 b3:Nat):Decidable (Lm n b0 b1 b2 b3):=by unfold Lm;infer_instance
def jL(n b0 b1 b2 b3:Nat):Nat :=
 if b0<128 then 1 else if b0<192 then 0
 else if b0<224 then(if KI n b0 b1 then 0 else 2)
 else if b0<240 then(if Sm n b0 b1 b2 then 0 else 3)
 else(if Lm n b0 b1 b2 b3 then 0 else 4)
set_option maxRecDepth 100000 in
set_option maxHeartbeats 4000000 in
theorem Zk(n b0 b1 b2 b3:Nat)(h0:b0<256)(h1:b1<256)(h2:b2<256)(h3:b3<256):
  (jL n b0 b1 b2 b3=0/\Lib.decodeN n b0 b1 b2 b3=(65533,1))\/(1<=jL n b0 b1 b2 b3/\(Lib.decodeN n b0 b1 b2 b3).2=jL n b0 b1 b2 b3/\¬((Lib.decodeN n b0 b1 b2 b3).1=65533/\(Lib.decodeN n b0 b1 b2 b3).2=1)):=by
 unfold jL Lib.decodeN;by_cases c1:b0<128;rw[if_pos c1,if_pos c1];right;exact⟨aoJ,rfl,λh=>by have h1:b0=65533:=h.1;omega⟩;rw[if_neg c1,if_neg c1];by_cases c2:b0<192;rw[if_pos c2,if_neg aoJ,if_neg aoJ,if_neg aoJ];exact .inl ⟨rfl,rfl⟩;rw[if_neg c2];by_cases c3:b0<224;rw[if_pos c3];by_cases hA:KI n b0 b1;rw[if_pos hA];refine .inl ⟨rfl,?_⟩;unfold KI Cn at hA;by_cases hc:b0/32=6/\(1<n/\b1/64=2);rw[if_pos hc,if_neg aoJ];rw[if_neg hc,if_neg aoJ,if_neg aoJ];rw[if_neg hA];unfold KI Cn at hA;rw[if_pos aoJ,if_pos aoJ];exact .inr ⟨aoJ,rfl,λh=>by have h2:(2:Nat)=1:=h.2;omega⟩;rw[if_neg c3];by_cases c4:b0<240;rw[if_pos c4,if_neg (show ¬(b0/32=6/\(1<n/\b1/64=2))by omega)];by_cases hA:Sm n b0 b1 b2;rw[if_pos hA];refine .inl ⟨rfl,?_⟩;unfold Sm Cn at hA;by_cases hc:b0/16=14/\(1<n/\b1/64=2)/\(2<n/\b2/64=2);rw[if_pos hc,if_neg aoJ];rw[if_neg hc,if_neg aoJ];rw[if_neg hA];unfold Sm Cn at hA;rw[if_pos aoJ,if_pos aoJ];exact .inr ⟨aoJ,rfl,λh=>by have h2:(3:Nat)=1:=h.2;omega⟩;rw[if_neg c4,if_neg (show ¬(b0/32=6/\(1<n/\b1/64=2))by omega),if_neg (show ¬(b0/16=14/\(1<n/\b1/64=2)/\(2<n/\b2/64=2))by omega)];by_cases hA:Lm n b0 b1 b2 b3;rw[if_pos hA];refine .inl ⟨rfl,?_⟩;unfold Lm Cn at hA;by_cases hc:b0/8=30/\(1<n/\b1/64=2)/\(2<n/\b2/64=2)/\(3<n/\b3/64=2);rw[if_pos hc,if_neg aoJ];rw[if_neg hc];rw[if_neg hA];unfold Lm Cn at hA;rw[if_pos aoJ,if_pos aoJ];exact .inr ⟨aoJ,rfl,λh=>by have h2:(4:Nat)=1:=h.2;omega⟩
theorem Zj(b:UInt8)(t:List UInt8)(f:Nat):Uk (f+1) (b::t)=if jL (t.length+1) b.toNat (t.getD 0 0).toNat (t.getD 1 0).toNat (t.getD 2 0).toNat=0 then false else Uk f ((b::t).drop (jL (t.length+1) b.toNat (t.getD 0 0).toNat (t.getD 1 0).toNat (t.getD 2 0).toNat)):=by
 have hb:=b.toNat_lt;rw[Uk];obtain⟨x,hx⟩:=alj (b.toNat);rw[hx]at hb⊢;unfold jL;by_cases c1:x<128;have e1:¬(128<=x/\x<192):=aoJ;have hh:qA x=(1,x):=by unfold qA;rw[if_neg aoJ,if_neg aoJ,if_neg aoJ]
 rw[hh,if_neg e1,if_pos c1];simp only[Pa,amK,ans];rw[if_neg aoJ,if_neg aoJ,show PW 1 x=true from decide_eq_true aoJ];rfl;by_cases c2:x<192;simp[c1,c2,show 128<=x by omega];have e1:¬(128<=x/\x<192):=aoJ;rw[if_neg e1,if_neg c1,if_neg c2];by_cases c3:x<224;have hh:qA x=(2,x-192):=by unfold qA;rw[if_neg aoJ,if_neg aoJ,if_pos aoJ]
 rw[if_pos c3,hh];simp only[show 2-1=1 from rfl];rcases t with _|⟨y,t⟩;simp[KI];simp only[alA,amy,Pa];rw[if_neg aoJ];by_cases hA:KI (t.length+1+1) x y.toNat;simp only[if_pos hA,if_true];by_cases hy:128<=y.toNat/\y.toNat<192;simp only[if_pos hy];unfold KI Cn at hA;rw[show PW 2 ((x-192)*64+y.toNat-128)=false from decide_eq_false aoJ];rfl;simp only[if_neg hy];simp only[if_neg hA];unfold KI Cn at hA;simp only[if_pos (show 128<=y.toNat/\y.toNat<192 by omega),Nat.reduceEqDiff,if_false];rw[show PW 2 ((x-192)*64+y.toNat-128)=true from decide_eq_true aoJ];rfl;rw[if_neg c3];by_cases c4:x<240;have hh:qA x=(3,x-224):=by unfold qA;rw[if_neg aoJ,if_pos aoJ]
 rw[if_pos c4,hh];simp only[show 3-1=2 from rfl];rcases t with _|⟨y,_|⟨z,t⟩⟩;simp[Sm];simp[Sm];simp only[alA,amy,ana,Pa];rw[if_neg aoJ];by_cases hA:Sm (t.length+1+1+1) x y.toNat z.toNat;simp only[if_pos hA,if_true];by_cases hy:128<=y.toNat/\y.toNat<192;by_cases hz:128<=z.toNat/\z.toNat<192;simp only[if_pos hy,if_pos hz];unfold Sm Cn at hA;rw[show PW 3 (((x-224)*64+y.toNat-128)*64+z.toNat-128)=false from decide_eq_false aoJ];rfl;simp only[if_pos hy,if_neg hz];simp only[if_neg hy];simp only[if_neg hA];unfold Sm Cn at hA;simp only[if_pos (show 128<=y.toNat/\y.toNat<192 by omega),if_pos (show 128<=z.toNat/\z.toNat<192 by omega),Nat.reduceEqDiff,if_false];rw[show PW 3 (((x-224)*64+y.toNat-128)*64+z.toNat-128)=true from decide_eq_true aoJ];rfl;have hh:qA x=(4,x-240):=by unfold qA;rw[if_pos aoJ]
 rw[if_neg c4,hh];simp only[show 4-1=3 from rfl];rcases t with _|⟨y,_|⟨z,_|⟨w,t⟩⟩⟩;simp[Lm];simp[Lm];simp[Lm];simp only[alA,amy,ana,Pa];rw[if_neg aoJ];by_cases hA:Lm (t.length+1+1+1+1) x y.toNat z.toNat w.toNat;simp only[if_pos hA,if_true];by_cases hy:128<=y.toNat/\y.toNat<192;by_cases hz:128<=z.toNat/\z.toNat<192;by_cases hw:128<=w.toNat/\w.toNat<192;simp only[if_pos hy,if_pos hz,if_pos hw];unfold Lm Cn at hA;rw[show PW 4 ((((x-240)*64+y.toNat-128)*64+z.toNat-128)*64+w.toNat-128)=false from decide_eq_false aoJ];rfl;simp only[if_pos hy,if_pos hz,if_neg hw];simp only[if_pos hy,if_neg hz];simp only[if_neg hy];simp only[if_neg hA];unfold Lm Cn at hA;simp only[if_pos (show 128<=y.toNat/\y.toNat<192 by omega),if_pos (show 128<=z.toNat/\z.toNat<192 by omega),if_pos (show 128<=w.toNat/\w.toNat<192 by omega),Nat.reduceEqDiff,if_false];rw[show PW 4 ((((x-240)*64+y.toNat-128)*64+z.toNat-128)*64+w.toNat-128)=true from decide_eq_true aoJ];rfl
theorem KU:∀(f:Nat) (l:List UInt8),l.length<=f->Uk f l=Lib.validD l
 |_,[],_=>by simp[Uk,Lib.validD_nil]
 |0,_::_,h=>by simp at h
 | f+1,b::t,h=>by
   rw[Zj,Lib.validD_step _ aoK,Lib.decodeL_N];simp only[alA,amy,ana];rcases Zk (t.length+1) b.toNat (t.getD 0 0).toNat (t.getD 1 0).toNat (t.getD 2 0).toNat b.toNat_lt (t.getD 0 0).toNat_lt (t.getD 1 0).toNat_lt (t.getD 2 0).toNat_lt with⟨h1,h2⟩|⟨h1,h2,h3⟩
   .rw[h1,h2];simp
   .rw[if_neg aoJ,if_neg h3,h2];refine KU f _ ?_;rw[ank];simp only[alA]at h⊢;omega
def Ll(s:List UInt8):Bool:=s.all fy&&decide (0<s.length)
theorem eB{s:List UInt8}(hs:s.length<=1100000){L:List Blk}{K:alp}(h:K (.bool (Ll s)) L):alo 130 [.str s] L K:=by
 have no:s.all fy=false->K (.bool false) L:=λe=>by have h':=h;rwa[Ll,e,amL]at h'
 replace no:=hid no;replace h:=hid h;refine aln Sk ?_;refine ah (λn T' L'=>∃i:Nat,n=s.length-i/\i<=s.length/\Hid ((s.take i).all fy=true)/\T'=[(3,.int .i64 (i:Int)),(0,.str s)]/\L=L') (CutS (b:=alr _)) ⟨0,rfl,alw _,hid rfl,rfl,rfl⟩ ?_;rintro _ _ _ ⟨i,rfl,hi,hall,rfl,rfl⟩;by_cases hlt:i<s.length
 .have g1:(i:Int)<(s.length:Int):=aoJ;have g2:=alm i aoJ;obtain⟨c,hc⟩:=alj (s.getD i 0);have hm:c∈s:=(by rw[<- hc];simp[hlt]);have htk:s.take (i+1)=s.take i++[c]:=(by rw[alN hlt,<- hc];simp[hlt]);have bad:=hid λ(e:fy c=false)=>no.o (List.all_eq_false.2 ⟨c,hm,by rw[e];simp⟩)
  have good:=hid λ(e:fy c=true)=>show(s.take (i+1)).all fy=true by rw[htk,an1,hall.o];simp[e]
  clear hm htk
  repeat' first
   |refine bd ?_
   | (first|refine aV aoL ?_|refine aB aoL ?_|refine aE ?_|refine bJ ?_|refine bg (fun _=>?_)|refine ax ?_|refine aY ?_)
     refine sm ?_
   | (first|refine aO aoL ?_|refine aP ?_|refine aD ?_|refine aW ?_|refine bq (aw ?_))
     refine sl ?_
   |exact bh
   |first|apply bj|apply aR|apply bm|apply aS|apply bo|apply aT
   |refine aH ?_
   |refine aC ?_
   |first|refine aF rfl ?_|refine aG rfl ?_|refine ao rfl ?_ ?_|refine aJ rfl (λ_=>?_) (λ_=>?_)|refine aI rfl (λ_=>?_) (λ_=>?_)
   |((first|refine an (λ_=>?_) (λ_=>?_)|refine au (λ_=>?_) (λ_=>?_))<;>try refine sm ?_)
   |refine And.intro trivial ?_
   |refine And.intro aoJ ?_
   |refine aL rfl (λ_=>?_) (λ_=>?_)
   |refine And.intro ?_ ?_
  rename_i hx;refine aa (bad.o ?_);simp only[fy,anJ,decide_eq_false_iff_not];omega;rename_i hx;refine aoO aoJ (CutL (b:=alr _)) ⟨i+1,rfl,aoJ,hid (good.o ?_),rfl,rfl⟩;simp only[fy,alx,decide_eq_true_eq];omega
 have hke:i=s.length:=aoJ;subst hke;have g1:¬(s.length:Int)<(s.length:Int):=aoJ;have hda:=hall.o;rw[alF]at hda;have h':=h.o;rw[Ll,hda,aml,show decide (0<s.length)=decide ((0:Int)<(s.length:Int))by simp]at h';replace h':=hid h';clear hda;refine wk ?_;exact aa h'.o
def Yv(s:List UInt8):Nat:=s.foldl (λn c=>10*n+(c.toNat-48)) 0
theorem ajj(hs:s.length<=4)(hd:∀c∈s,fy c=true)(h:K (.int .i64 (Yv s:Nat)) L):alo 133 [.str s] L K:=by
 replace h:=hid h;replace hd:=hid hd;refine aln We ?_;refine ah (λm T' L'=>∃(i n:Nat),m=s.length-i/\i<=s.length/\n<10^i/\Hid (n=Yv (s.take i))/\T'=[(4,.int .i64 (i:Int)),(3,.int .i64 (n:Int)),(0,.str s)]/\L=L') (CutS (b:=alr _)) ⟨0,0,rfl,alw _,by decide,hid rfl,rfl,rfl⟩ ?_;rintro _ _ _ ⟨i,n,rfl,hi,hn,hI,rfl,rfl⟩;by_cases hlt:i<s.length;have g1:(i:Int)<(s.length:Int):=aoJ;have g2:=alm i aoJ;obtain⟨c,hc⟩:=alj (s.getD i 0);have hm:=hd.o c (by rw[<- hc];simp[hlt]);simp only[fy,alx,decide_eq_true_eq]at hm;have htk:s.take (i+1)=s.take i++[c]:=by rw[alN hlt,<- hc];simp[hlt]
 obtain⟨x,hx⟩:∃x:Nat,c.toNat=48+x:=⟨c.toNat-48,aoJ⟩;have hx9:x<=9:=aoJ;have hxi:(c.toNat:Int)=48+(x:Int):=aoJ;have hn4:n<1000:=by refine amV hn ?_;have:i=0\/i=1\/i=2\/i=3:=aoJ;rcases this with rfl|rfl|rfl|rfl<;>decide
 have hnx:Yv (s.take (i+1))=10*n+x:=by rw[htk,Yv,anu,<- Yv,<- hI.o];simp only[ami,anx];omega
 have w1:IntKind.u8.wrap (48+(x:Int)-48)=(x:Int):=by rw[cV aoJ aoJ];omega
 have w2:IntKind.i64.wrap (x:Int)=(x:Int):=ad aoJ aoJ;have w3:IntKind.i64.wrap (10*(n:Int))=10*(n:Int):=ad aoJ aoJ;have w4:IntKind.i64.wrap (10*(n:Int)+(x:Int))=10*(n:Int)+(x:Int):=ad aoJ aoJ;have hnn:10*n+x<10^(i+1):=by rw[an6];omega
 replace hnx:=hid hnx;clear hm htk hx;refine wk ?_;exact aoO aoJ (CutL (b:=alr _)) ⟨i+1,10*n+x,rfl,aoJ,hnn,hid hnx.o.symm,rfl,rfl⟩;have hke:i=s.length:=aoJ;subst hke;have g1:¬(s.length:Int)<(s.length:Int):=aoJ;have e:=hI.o;rw[alF]at e;have h':=h.o;rw[<- e]at h';replace h':=hid h';clear e hI;refine wk ?_;exact aa h'.o
abbrev af2:List UInt8:=[57,50,50,51,51,55,50,48,51,54,56,53,52,55,55,53,56,48,55]
abbrev af3:List UInt8:=[57,50,50,51,51,55,50,48,51,54,56,53,52,55,55,53,56,48,56]
def ZL(w most:List UInt8):Bool:=Ll w && !decide (w.getD 0 0=48)&&(decide (w.length<19) ||decide (w.length=19)&&(Op.bytesLess w most ||decide (w=most)))
def afR(v:List UInt8):Bool:=if v=[48]then true else match v with
 |[]=>false
 |c::t=>if c=45 then ZL t af3 else ZL (c::t) af2
theorem T5{w most:List UInt8}(hw:w.length<=1100000):ZL w most=(if Ll w=true then(!decide (w.getD 0 0=48)&&(decide (w.length<19) ||decide (w.length=19)&&(Op.bytesLess w most ||decide (w=most))))else false):=by unfold ZL;cases Ll w<;>rfl
theorem Xh(hv:v.length<=1100000)(h:K (.bool (afR v)) L):alo 91 [.str v] L K:=by
 unfold afR at h;refine ac Si (by simp[sj]) ?_;simp only[sj,am];by_cases h0:v=[48];rw[if_pos h0]at h;replace h:=hid h;refine wk ?_;exact aa h.o;rw[if_neg h0]at h;have dg:∀w:List UInt8,Ll w=true->(0:Int)<(w.length:Int):=λw e=>by simp only[Ll,alx,decide_eq_true_eq]at e;omega
 rcases v with _|⟨c,t⟩;simp only at h;replace h:=hid h;have e0:Ll []=false:=rfl;have e1:([]:List UInt8).length=0:=rfl;have kk1:=@aoQ _ _ _ _ (eB hv);refine wk ?_;exact aa h.o;simp only at h;have hl:(c::t).length=t.length+1:=rfl;have hc0:(c::t).getD 0 0=c:=rfl;have hd1:(c::t).drop 1=t:=rfl;simp only[alA]at hv;have htl:t.length<=1100000:=aoJ;have q7:t.take (((t.length:Int)+1).toNat-1)=t:=by rw[show((t.length:Int)+1).toNat-1=t.length by omega,alF]
 have q8:(0:Int)<(t.length:Int)+1:=aoJ;by_cases h45:c=45
 .rw[if_pos h45,T5 htl]at h;subst h45;have k1:((45:UInt8).toNat:Int)=45:=rfl;cases hd:Ll t with
  | false =>
    rw[hd,if_neg aoK]at h;replace h:=hid h;have kk1:=@aoQ _ _ _ _ (eB htl);refine wk ?_;exact aa h.o
  | true =>
    rw[hd,if_pos rfl]at h;obtain⟨x,hx⟩:=alj (t.getD 0 0);rw[hx,show decide (x=48)=decide ((x.toNat:Int)=48)by rw[decide_eq_decide];exact(bz x 48).symm,show decide (t.length<19)=decide ((t.length:Int)<19)by simp;omega,show decide (t.length=19)=decide ((t.length:Int)=19)by rw[decide_eq_decide];omega]at h;replace h:=hid h;have g1:=dg t hd
    repeat' first
     |refine bd ?_
     | (first|refine aV aoL ?_|refine aB aoL ?_|refine aE ?_|refine bJ ?_|refine bg (fun _=>?_)|refine ax ?_|refine aY ?_|refine eB htl ?_|refine aU (eB htl ⟨rfl,rfl⟩) (eB htl ⟨rfl,rfl⟩) ?_|refine aA (eB htl ⟨rfl,rfl⟩) ?_)
       refine sm ?_
     | (first|refine aO aoL ?_|refine aP ?_|refine aD ?_|refine aW ?_|refine bq (aw ?_))
       refine sl ?_
     |exact bh
     |first|apply bj|apply aR|apply bm|apply aS|apply bo|apply aT
     |refine aH ?_
     |refine aC ?_
     |first|refine aF rfl ?_|refine aG rfl ?_|refine ao rfl ?_ ?_|refine aJ rfl (λ_=>?_) (λ_=>?_)|refine aI rfl (λ_=>?_) (λ_=>?_)
     |((first|refine an (λ_=>?_) (λ_=>?_)|refine au (λ_=>?_) (λ_=>?_))<;>try refine sm ?_)
     |refine And.intro trivial ?_
     |refine And.intro aoJ ?_
     |refine aL rfl (λ_=>?_) (λ_=>?_)
     |refine And.intro ?_ ?_
    exact aa h.o
 .rw[if_neg h45,T5 (by simp;omega)]at h;have k1:¬(c.toNat:Int)=45:=λe=>h45 ((bz c 45).1 e)
  obtain⟨v,hv2⟩:=alj (c::t);rw[hv2]at h hl hc0 h0⊢;have hvl:v.length<=1100000:=aoJ;have g0:(0:Int)<(v.length:Int):=aoJ;replace hv2:=hid hv2;clear hd1 hl q7 q8;cases hd:Ll v with
  | false =>
    rw[hd,if_neg aoK]at h;replace h:=hid h;have kk1:=@aoQ _ _ _ _ (eB hvl);refine wk ?_;exact aa h.o
  | true =>
    rw[hd,if_pos rfl]at h;rw[hc0,show decide (c=48)=decide ((c.toNat:Int)=48)by rw[decide_eq_decide];exact(bz c 48).symm,show decide (v.length<19)=decide ((v.length:Int)<19)by simp;omega,show decide (v.length=19)=decide ((v.length:Int)=19)by rw[decide_eq_decide];omega]at h;replace h:=hid h
    repeat' first
     |refine bd ?_
     | (first|refine aV aoL ?_|refine aB aoL ?_|refine aE ?_|refine bJ ?_|refine bg (fun _=>?_)|refine ax ?_|refine aY ?_|refine eB hvl ?_|refine aU (eB hvl ⟨rfl,rfl⟩) (eB hvl ⟨rfl,rfl⟩) ?_|refine aA (eB hvl ⟨rfl,rfl⟩) ?_)
       refine sm ?_
     | (first|refine aO aoL ?_|refine aP ?_|refine aD ?_|refine aW ?_|refine bq (aw ?_))
       refine sl ?_
     |exact bh
     |first|apply bj|apply aR|apply bm|apply aS|apply bo|apply aT
     |refine aH ?_
     |refine aC ?_
     |first|refine aF rfl ?_|refine aG rfl ?_|refine ao rfl ?_ ?_|refine aJ rfl (λ_=>?_) (λ_=>?_)|refine aI rfl (λ_=>?_) (λ_=>?_)
     |((first|refine an (λ_=>?_) (λ_=>?_)|refine au (λ_=>?_) (λ_=>?_))<;>try refine sm ?_)
     |refine And.intro trivial ?_
     |refine And.intro aoJ ?_
     |refine aL rfl (λ_=>?_) (λ_=>?_)
     |refine And.intro ?_ ?_
    exact aa h.o
def dV(n:Nat)(s:List UInt8):Nat:=s.foldl (λn c=>10*n+(c.toNat-48)) n
theorem UR{c:UInt8}(h:fy c=true):∃d,d<=9/\c.toNat=48+d:=by simp only[fy,alx,decide_eq_true_eq]at h;exact⟨c.toNat-48,aoJ,aoJ⟩
theorem xi:∀(s:List UInt8) (n:Nat),dV n s=n*10^s.length+dV 0 s
 |[],n=>by simp[dV]
 |c::s,n=>by have h1:=xi s (10*n+(c.toNat-48));have h2:=xi s (10*0+(c.toNat-48));simp only[dV,ami]at h1 h2⊢;rw[h1,h2,alA,an6];rw[Nat.mul_zero,amG,amq,Nat.mul_comm (10^s.length) 10,<- Nat.mul_assoc,Nat.mul_comm n 10];omega
theorem J5:∀(s:List UInt8),(∀c∈s,fy c=true)->dV 0 s<10^s.length
 |[],_=>by simp[dV]
 | c::s,h=>by
   have ih:=J5 s λd hd=>h d (amB _ hd)
   obtain⟨d,hd,hc⟩:=UR (h c aoK);have e:=xi s (10*0+(c.toNat-48));simp only[dV,ami]at e ih⊢;rw[e,alA,an6,hc];have:(10*0+(48+d-48))*10^s.length<=9*10^s.length:=amw _ aoJ;omega
theorem SH:∀(a b:List UInt8),(∀c∈a,fy c=true)->(∀c∈b,fy c=true)->a.length=b.length->(a<b↔dV 0 a<dV 0 b)
 |[],[],_,_,_=>by simp[dV]
 |[],_::_,_,_,h=>by simp at h
 |_::_,[],_,_,h=>by simp at h
 | x::a,y::b,ha,hb,hl=>by
   simp only[alA,Nat.add_right_cancel_iff]at hl;have ha':=λc hc=>ha c (amB _ hc)
   have hb':=λc hc=>hb c (amB _ hc)
   have ih:=SH a b ha' hb' hl;have la:=J5 a ha';have lb:=J5 b hb';obtain⟨d,hd,hx⟩:=UR (ha x aoK);obtain⟨e,he,hy⟩:=UR (hb y aoK);have ea:dV 0 (x::a)=d*10^a.length+dV 0 a:=by have:=xi a (10*0+(x.toNat-48));rw[hx,show 10*0+(48+d-48)=d by omega]at this;rw[<- this];simp only[dV,ami,hx];congr 1;omega
   have eb:dV 0 (y::b)=e*10^b.length+dV 0 b:=by have:=xi b (10*0+(y.toNat-48));rw[hy,show 10*0+(48+e-48)=e by omega]at this;rw[<- this];simp only[dV,ami,hy];congr 1;omega
   rw[ea,eb,List.cons_lt_cons_iff,ih,hl];rw[hl]at la;have hxy:x<y↔d<e:=by show x.toNat<y.toNat↔_;omega
   have hxe:x=y↔d=e:=(by rw[<- anc];omega);rw[hxy,hxe];obtain⟨p,hp⟩:=alj (10^b.length);rw[hp]at la lb⊢;rcases Nat.lt_trichotomy d e with h|h|h
   .have:(d+1)*p<=e*p:=amw _ h;rw[amq]at this;constructor
    .intro _;omega
    .intro _;exact .inl h
   .subst h;constructor
    .rintro(h|⟨_,h⟩)
     .omega
     .omega
    .intro h;exact .inr ⟨rfl,aoJ⟩
   .have:(e+1)*p<=d*p:=amw _ h;rw[amq]at this;constructor
    .rintro(h|⟨h,_⟩)<;>omega
    .intro h;omega
theorem aiP:∀u:Nat,dV 0 (Lib.decDigits u)=u/\(∀c∈Lib.decDigits u,fy c=true)/\u<10^(Lib.decDigits u).length/\(1<=u->10^((Lib.decDigits u).length-1)<=u):=by
 intro u;induction u using Nat.strongRecOn with
 | _ u ih =>
   by_cases h10:u<10
   .have hd:(UInt8.ofNat (48+u)).toNat=48+u:=u8n aoJ;rw[Lib.decDigits,dif_pos h10];refine⟨?_,?_,?_,?_⟩
    .simp only[dV,ami,anx,hd];omega
    .intro c hc;rw[alM.1 hc];simp only[fy,hd,alx,decide_eq_true_eq];omega
    .simpa using h10
    .intro h;simpa using h
   .obtain⟨i1,i2,i3,i4⟩:=ih (u/10) aoJ;have hd:(UInt8.ofNat (48+u%10)).toNat=48+u%10:=u8n aoJ;rw[Lib.decDigits,dif_neg h10];refine⟨?_,?_,?_,?_⟩
    .unfold dV at i1⊢;rw[anu,i1];simp only[ami,anx,hd];omega
    .intro c hc;rcases alv.1 hc with h|h
     .exact i2 c h
     .rw[alM.1 h];simp only[fy,hd,alx,decide_eq_true_eq];omega
    .rw[alJ,aoy,an6];omega
    .intro _;have:=i4 aoJ;rw[alJ,aoy,Nat.add_sub_cancel];obtain⟨c,r,e,_⟩:=xA (u/10);have hl:1<=(Lib.decDigits (u/10)).length:=(by rw[e];simp);obtain⟨k,hk⟩:∃k,(Lib.decDigits (u/10)).length=k+1:=⟨(Lib.decDigits (u/10)).length-1,aoJ⟩;rw[hk]at this⊢;rw[Nat.add_sub_cancel]at this;rw[an6];omega
theorem aj9:∀(n:Nat) (w:List UInt8),w.length=n->(∀c∈w,fy c=true)->w≠[]->w.getD 0 0≠48->1<=dV 0 w/\Lib.decDigits (dV 0 w)=w:=by
 intro n;induction n with
 |zero=>intro w hl _ hne;exact absurd (al1.1 hl) hne
 | succ n ih =>
   intro w hl hd hne h48;obtain⟨t,c,rfl⟩:∃t c,w=t++[c]:=⟨w.dropLast,w.getLast hne,(List.dropLast_concat_getLast hne).symm⟩;obtain⟨d,hd9,hc⟩:=UR (hd c aoK);have hcc:UInt8.ofNat (48+d)=c:=(by rw[<- hc];simp);have ev:dV 0 (t++[c])=10*dV 0 t+d:=by simp only[dV,anu,ami,anx,hc];omega
   rcases t with _|⟨x,t⟩
   .have:d≠0:=λe=>h48 (by simp only[al2,amy];exact anc.1 (by rw[hc,e];rfl))
    have e0:dV 0 ([]:List UInt8)=0:=rfl;rw[ev,e0];refine⟨aoJ,?_⟩;rw[Lib.decDigits,dif_pos aoJ,show 48+(10*0+d)=48+d by omega,hcc];rfl
   .obtain⟨j1,j2⟩:=ih (x::t) (by simpa using hl) (λc hc=>hd c (amZ _ hc)) aoK (by simpa using h48);rw[ev];refine⟨aoJ,?_⟩;rw[Lib.decDigits,dif_neg aoJ,show(10*dV 0 (x::t)+d)/10=dV 0 (x::t)by omega,show(10*dV 0 (x::t)+d)%10=d by omega,j2,hcc]
theorem ZK{w most:List UInt8}{M:Nat}(hm:dV 0 most=M)(hml:most.length=19)(hmd:∀c∈most,fy c=true)(hM:10^18<=M):ZL w most=true↔∃u,1<=u/\u<=M/\w=Lib.decDigits u:=by
 have hM19:M<10^19:=by rw[<- hm,<- hml];exact J5 most hmd
 have le19:∀w:List UInt8,(∀c∈w,fy c=true)->w.length=19->((Op.bytesLess w most ||decide (w=most))=true↔dV 0 w<=M):=λw hw hl=>by rw[bytesLess_eq];simp only[al9,decide_eq_true_eq];have h1:=SH w most hw hmd (by rw[hl,hml]);have h2:=SH most w hmd hw (by rw[hl,hml]);rw[hm]at h1 h2;rw[h1];constructor;rintro(h|rfl);omega;omega;intro h;rcases alK (dV 0 w) M with h3|h3;exact .inl h3;refine .inr (aoj (amR.1 λh4=>?_) (amR.1 λh4=>?_));have:=h2.1 h4;omega;have:=h1.1 h4;omega
 unfold ZL Ll;simp only[alx,al9,al4,decide_eq_false_iff_not,decide_eq_true_eq,alC];constructor;rintro⟨⟨⟨hd,hpos⟩,h48⟩,hlen⟩;obtain⟨h1,h2⟩:=aj9 _ w rfl hd (by rintro rfl;simp at hpos) h48;refine⟨dV 0 w,h1,?_,h2.symm⟩;rcases hlen with hlt|⟨heq,hle⟩;have:=J5 w hd;have h3:10^w.length<=10^18:=Nat.pow_le_pow_right (by decide) aoJ;omega;have:=(le19 w hd heq).1 (by simpa using hle);exact this;rintro⟨u,h1,h2,rfl⟩;obtain⟨k1,k2,k3,k4⟩:=aiP u;obtain⟨c,r,e,c1,c2,c3⟩:=xA u;have hl19:(Lib.decDigits u).length<=19:=by rcases alK 19 (Lib.decDigits u).length with h|h;have h5:=k4 h1;have h6:10^19<=10^((Lib.decDigits u).length-1):=Nat.pow_le_pow_right (by decide) aoJ;omega;exact h
 refine⟨⟨⟨k2,by rw[e];simp⟩,?_⟩,?_⟩;rw[e];simp only[amy];intro h;have:=c3 (by rw[h];rfl);omega;rcases alK (Lib.decDigits u).length 19 with h|h;exact .inl h;have hl:(Lib.decDigits u).length=19:=aoJ;refine .inr ⟨hl,?_⟩;have:=(le19 _ k2 hl).2 (by rw[k1];exact h2);simpa using this
theorem abi(w:List UInt8):ZL w af2=true↔∃u,1<=u/\u<=9223372036854775807/\w=Lib.decDigits u:=ZK (by decide) (by decide) (by decide) (by decide)
theorem abj(w:List UInt8):ZL w af3=true↔∃u,1<=u/\u<=9223372036854775808/\w=Lib.decDigits u:=ZK (by decide) (by decide) (by decide) (by decide)
theorem afQ(v:List UInt8):afR v=true↔∃m,I64 m/\Lib.itoa m=v:=by
 unfold afR;by_cases h0:v=[48];rw[if_pos h0];refine⟨λ_=>⟨0,by unfold I64;omega,?_⟩,λ_=>rfl⟩;rw[h0,Lib.itoa,if_neg (by decide),Lib.decDigits,dif_pos (by decide)];rfl;rw[if_neg h0];have hz:Lib.itoa 0=[48]:=by rw[Lib.itoa,if_neg (by decide),Lib.decDigits,dif_pos (by decide)];rfl
 rcases v with _|⟨c,t⟩;simp only[alG,false_iff];rintro⟨m,_,e⟩;obtain⟨c,r,e',_⟩:=adW m;rw[e']at e;cases e;simp only;by_cases h45:c=45;rw[if_pos h45,abj];subst h45;constructor;rintro⟨u,h1,h2,rfl⟩;refine⟨-(u:Int),by unfold I64;omega,?_⟩;rw[Lib.itoa,if_pos aoJ,show(-(u:Int)).natAbs=u by omega];rintro⟨m,hm,e⟩;unfold I64 at hm;by_cases hneg:m<0;rw[Lib.itoa,if_pos hneg]at e;exact⟨m.natAbs,aoJ,aoJ,(List.cons.inj e).2.symm⟩;rw[Lib.itoa,if_neg hneg]at e;obtain⟨c,r,e',c1,c2,_⟩:=xA m.toNat;rw[e']at e;have:=(List.cons.inj e).1;rw[this]at c1;exact absurd c1 (by decide);rw[if_neg h45,abi];constructor;rintro⟨u,h1,h2,e⟩;refine⟨(u:Int),by unfold I64;omega,?_⟩;rw[e,Lib.itoa,if_neg aoJ];congr 1;rintro⟨m,hm,e⟩;unfold I64 at hm;by_cases hneg:m<0;rw[Lib.itoa,if_pos hneg]at e;exact absurd (List.cons.inj e).1.symm h45;have hm0:m≠0:=λe0=>h0 (by rw[<- e,e0,hz])
 rw[Lib.itoa,if_neg hneg]at e;exact⟨m.toNat,aoJ,aoJ,e.symm⟩
theorem adL(v:List UInt8):rU v=true↔∃m,I64 m/\Lib.itoa m=v:=by constructor;intro h;unfold rU at h;split at h;rename_i n hn;exact⟨n,TZ hn,by simpa using h⟩;cases h;rintro⟨m,hm,rfl⟩;exact(afP hm).1
theorem ajM(v:List UInt8):afR v=rU v:=by exact Bool.eq_iff_iff.2 ((afQ v).trans (adL v).symm)
theorem alc{i:Nat}(h:i+2<=v.length):Yv ((v.drop i).take 2)=two v i:=by
 have e:(v.drop i).take 2=[v.getD i 0,v.getD (i+1) 0]:=by rw[ot (show i<v.length by omega),ot (show i+1<v.length by omega)];rfl
 rw[e];simp only[Yv,two,dig,ami,anx];omega
theorem alb(h:4<=v.length):Yv (v.take 4)=two v 0*100+two v 2:=by
 have e:v.take 4=[v.getD 0 0,v.getD 1 0,v.getD 2 0,v.getD 3 0]:=by have:=ot (show 0<v.length by omega);rw[ans]at this;rw[this,ot (show 0+1<v.length by omega),ot (show 0+1+1<v.length by omega),ot (show 0+1+1+1<v.length by omega)];rfl
 rw[e];simp only[Yv,two,dig,ami,anx,amG,Nat.reduceAdd];omega
theorem Xi(hv:v.length<=1100000)(h:K (.bool (J6 v)) L):alo 93 [.str v] L K:=by
 have no:J6 v=false->K (.bool false) L:=λe=>by rw[<- e];exact h
 replace no:=hid no;replace h:=hid h;refine ac Sj (by simp[sn]) ?_;simp only[sn,am];by_cases h15:v.length=15;rotate_left;have f1:¬(v.length:Int)=15:=aoJ;have h':=hid (no.o (by simp[J6,h15]));clear h15;refine wk ?_;exact aa h'.o;have f1:(v.length:Int)=15:=aoJ;obtain⟨w,hw⟩:=alj (v.take 14);have hwl:w.length=14:=by rw[<- hw];simp[h15]
 have hwl2:w.length<=1100000:=aoJ;cases hda:w.all fy with
 | false =>
   have h':=hid (no.o (by simp[J6,hw,hda]));have hds:Ll w=false:=(by simp[Ll,hda]);clear hwl h15;have kk1:=@aoQ _ _ _ _ (eB hwl2);refine wk ?_;exact aa h'.o
 |true =>
 have hds:Ll w=true:=by simp[Ll,hda,hwl]
 obtain⟨z,hz⟩:=alj (v.getD 14 0);by_cases h90:z=90;rotate_left;have f2:¬(z.toNat:Int)=90:=λe=>h90 ((bz z 90).1 e)
 have h':=hid (no.o (by simp[J6,<- hz]at h90⊢;simp[h90]));clear h90 hwl h15;have kk1:=@aoQ _ _ _ _ (eB hwl2);refine wk ?_;exact aa h'.o;have f2:(z.toNat:Int)=90:=by rw[h90];rfl
 have hdv:∀i,i<14->fy (v.getD i 0)=true:=λi hi=>by refine alC.1 hda _ ?_;rw[<- hw];have:v.getD i 0=(v.take 14)[i]'(by simp;omega):=(by simp[show i<v.length by omega]);rw[this];exact amu _
 have hmem:∀(i n:Nat),i+n<=14->∀c∈(v.drop i).take n,fy c=true:=λi n hin c hc=>by obtain⟨j,hj,rfl⟩:=amJ.1 hc;simp only[anl,ank]at hj;rw[List.getElem_take,List.getElem_drop];have:=hdv (i+j) aoJ;rwa[show v.getD (i+j) 0=v[i+j]by simp[show i+j<v.length by omega]]at this
 have hdate:J6 v=aau v:=by simp only[J6,h15,hz,h90,hw,hda];simp
 have ct:∀i:Nat,i+2<=14->∀(K:AV->List Blk->Prop),K (.int .i64 (two v i:Nat)) L->alo 133 [.str ((v.drop i).take 2)] L K:=λi hi K h =>
  ajj (by simp;omega) (hmem i 2 hi) (by rw[alc aoJ];exact h)
 have c4:∀(K:AV->List Blk->Prop),K (.int .i64 ((two v 0*100+two v 2:Nat):Int)) L->alo 133 [.str (v.take 4)] L K:=λK h =>
  ajj (by simp;omega) (by have:=hmem 0 4 aoJ;rwa[ans]at this) (by rw[alb aoJ];exact h)
 have b0:=jN (hdv 0 aoJ) (hdv 1 aoJ);have b2:=jN (hdv 2 aoJ) (hdv 3 aoJ);have b4:=jN (hdv 4 aoJ) (hdv 5 aoJ);have b6:=jN (hdv 6 aoJ) (hdv 7 aoJ);have b8:=jN (hdv 8 aoJ) (hdv 9 aoJ);have b10:=jN (hdv 10 aoJ) (hdv 11 aoJ);have b12:=jN (hdv 12 aoJ) (hdv 13 aoJ);have kk1:=@hid _ (λ{K:alp}=>c4 K);have kk3:=@hid _ (λ{K:alp}=>ct 4 aoJ K);have kk4:=@hid _ (λ{K:alp}=>ct 6 aoJ K);have kk5:=@hid _ (λ{K:alp}=>ct 8 aoJ K);have kk6:=@hid _ (λ{K:alp}=>ct 10 aoJ K);have kk7:=@hid _ (λ{K:alp}=>ct 12 aoJ K);have kk2:=@hid _ (λ{K:alp}=>@eB w hwl2 L K);have hfin:=h.o;rw[hdate]at hfin;unfold aau at hfin;obtain⟨Y,hY⟩:=alj (two v 0*100+two v 2);obtain⟨M,hM⟩:=alj (two v 4);obtain⟨D,hD⟩:=alj (two v 6);obtain⟨H,hH⟩:=alj (two v 8);obtain⟨I,hI⟩:=alj (two v 10);obtain⟨S,hS⟩:=alj (two v 12);have hYb:Y<=9999:=aoJ;rw[hY]at hfin kk1;rw[hM]at b4 hfin kk3;rw[hD]at b6 hfin kk4;rw[hH]at b8 hfin kk5;rw[hI]at b10 hfin kk6;rw[hS]at b12 hfin kk7;clear hY hM hD hH hI hS ct c4 hdate hdv hda h15 hwl hv h90 no h hmem b0 b2;have hbad:¬((1<=M/\M<=12)/\1<=D/\H<=23/\I<=59/\S<=59)->K (.bool false) L:=λe=>by rw[decide_eq_false e]at hfin;simpa using hfin
 replace hbad:=hid hbad;replace hfin:=hid hfin;by_cases m1:(M:Int)<1;refine wk ?_;exact aa (hbad.o aoJ);by_cases m2:(12:Int)<(M:Int);refine wk ?_;exact aa (hbad.o aoJ);by_cases m3:(D:Int)<1;refine wk ?_;exact aa (hbad.o aoJ);by_cases m4:(23:Int)<(H:Int);refine wk ?_;exact aa (hbad.o aoJ);by_cases m5:(59:Int)<(I:Int);refine wk ?_;exact aa (hbad.o aoJ);by_cases m6:(59:Int)<(S:Int);refine wk ?_;exact aa (hbad.o aoJ);have hfin2:=hfin.o;rw[show decide ((1<=M/\M<=12)/\1<=D/\H<=23/\I<=59/\S<=59)=true by simp;omega,aml]at hfin2;unfold XA agb at hfin2;obtain⟨r4,hr4⟩:=alj (Y%4);obtain⟨r100,hr100⟩:=alj (Y%100);obtain⟨r400,hr400⟩:=alj (Y%400);rw[hr4,hr100,hr400]at hfin2;have t4:Int.tmod (Y:Int) 4=(r4:Int):=by rw[ant aoJ];omega
 have t100:Int.tmod (Y:Int) 100=(r100:Int):=by rw[ant aoJ];omega
 have t400:Int.tmod (Y:Int) 400=(r400:Int):=by rw[ant aoJ];omega
 replace hfin2:=hid hfin2;clear hr4 hr100 hr400;have days:∀d:Nat,(if M=2/\(decide (r4=0) && !decide (r100=0) ||decide (r400=0))=true then YT M+1 else YT M)=d->K (.bool (decide ((D:Int)<=(d:Int)))) L:=λd e=>by have:=hfin2.o;rw[e]at this;rwa[show decide (D<=d)=decide ((D:Int)<=(d:Int))by simp only[decide_eq_decide];omega]at this
 replace days:=hid days;by_cases q2:(M:Int)=2
 .have e2:M=2:=aoJ;subst e2
  repeat' first
   |refine bd ?_
   | (first|refine aV aoL ?_|refine aB aoL ?_|refine aE ?_|refine bJ ?_|refine bg (fun _=>?_)|refine ax ?_|refine aY ?_|refine kk1.o ?_|refine kk2.o ?_|refine kk3.o ?_|refine kk4.o ?_|refine kk5.o ?_|refine kk6.o ?_|refine kk7.o ?_|refine aU (kk1.o ⟨rfl,rfl⟩) (kk1.o ⟨rfl,rfl⟩) ?_|refine aU (kk2.o ⟨rfl,rfl⟩) (kk2.o ⟨rfl,rfl⟩) ?_|refine aU (kk3.o ⟨rfl,rfl⟩) (kk3.o ⟨rfl,rfl⟩) ?_|refine aU (kk4.o ⟨rfl,rfl⟩) (kk4.o ⟨rfl,rfl⟩) ?_|refine aU (kk5.o ⟨rfl,rfl⟩) (kk5.o ⟨rfl,rfl⟩) ?_|refine aU (kk6.o ⟨rfl,rfl⟩) (kk6.o ⟨rfl,rfl⟩) ?_|refine aU (kk7.o ⟨rfl,rfl⟩) (kk7.o ⟨rfl,rfl⟩) ?_|refine aA (kk1.o ⟨rfl,rfl⟩) ?_|refine aA (kk2.o ⟨rfl,rfl⟩) ?_|refine aA (kk3.o ⟨rfl,rfl⟩) ?_|refine aA (kk4.o ⟨rfl,rfl⟩) ?_|refine aA (kk5.o ⟨rfl,rfl⟩) ?_|refine aA (kk6.o ⟨rfl,rfl⟩) ?_|refine aA (kk7.o ⟨rfl,rfl⟩) ?_)
     refine sm ?_
   | (first|refine aO aoL ?_|refine aP ?_|refine aD ?_|refine aW ?_|refine bq (aw ?_))
     refine sl ?_
   |exact bh
   |first|apply bj|apply aR|apply bm|apply aS|apply bo|apply aT
   |refine aH ?_
   |refine aC ?_
   |first|refine aF rfl ?_|refine aG rfl ?_|refine ao rfl ?_ ?_|refine aJ rfl (λ_=>?_) (λ_=>?_)|refine aI rfl (λ_=>?_) (λ_=>?_)
   |((first|refine an (λ_=>?_) (λ_=>?_)|refine au (λ_=>?_) (λ_=>?_))<;>try refine sm ?_)
   |refine And.intro trivial ?_
   |refine And.intro aoJ ?_
   |refine aL rfl (λ_=>?_) (λ_=>?_)
   |refine And.intro ?_ ?_
  rename_i hx;exact aa (days.o 29 (by rw[if_pos ⟨rfl,by simp;omega⟩];rfl));rename_i hx;exact aa (days.o 28 (by rw[if_neg (λ⟨_,e⟩=>hx (by simp at e;omega))];rfl))
 by_cases q30:M=4\/M=6\/M=9\/M=11;have d30:=hid (days.o 30 (by unfold YT;rw[if_neg aoJ,if_neg aoJ,if_pos aoJ]));rcases q30 with e|e|e|e;have p1:(M:Int)=4:=aoJ;clear e;refine wk ?_;exact aa d30.o;have p1:(M:Int)=6:=aoJ;clear e;refine wk ?_;exact aa d30.o;have p1:(M:Int)=9:=aoJ;clear e;refine wk ?_;exact aa d30.o;have p1:(M:Int)=11:=aoJ;clear e;refine wk ?_;exact aa d30.o;have d31:=hid (days.o 31 (by unfold YT;rw[if_neg aoJ,if_neg aoJ,if_neg aoJ]));have p1:¬(M:Int)=4:=aoJ;have p2:¬(M:Int)=6:=aoJ;have p3:¬(M:Int)=9:=aoJ;have p4:¬(M:Int)=11:=aoJ;clear q30;refine wk ?_;exact aa d31.o
theorem Tv(h:K (iC (bw syn v)) L):alo 45 [.int .i64 syn,.str v] L K:=by
 unfold bw at h;refine ac Ux (by simp[yl]) ?_;simp only[yl,am];by_cases hl:4096<v.length;have f1:(4096:Int)<(v.length:Int):=aoJ;rw[if_pos hl]at h;replace h:=hid h;clear hl;refine wk ?_;exact aa h.o;have f1:¬(4096:Int)<(v.length:Int):=aoJ;rw[if_neg hl]at h;have vl1:v.length<=1100000:=aoJ;have vl2:(v.length:Int)<=100000:=aoJ;have hu:=KU v.length v (alr _);have hnu:=ajM v;unfold tA at h;clear hl;by_cases s1:syn=1;subst s1;rw[if_pos rfl]at h;by_cases hv:v=[];rw[if_pos hv]at h;replace h:=hid h;subst hv;have e0:([]:List UInt8).length=0:=rfl;refine wk ?_;exact aa h.o;rw[if_neg hv]at h;have f2:(0:Int)<(v.length:Int):=by have:=amH.2 hv;omega
 cases hd:Lib.validD v with
 | true =>
   rw[hd,if_pos rfl]at h;replace h:=hid h;rw[hd]at hu;have kk1:=@aoQ _ _ _ _ (xO vl2);have kk2:=@aoQ _ _ _ _ (acl vl1);refine wk ?_;exact aa h.o
 | false =>
   rw[hd,if_neg aoK]at h;replace h:=hid h;rw[hd]at hu;have kk1:=@aoQ _ _ _ _ (xO vl2);have kk2:=@aoQ _ _ _ _ (acl vl1);refine wk ?_;exact aa h.o
 rw[if_neg s1]at h;by_cases s2:syn=2;subst s2;rw[if_pos rfl]at h;by_cases hv:v=[];rw[if_pos hv]at h;replace h:=hid h;subst hv;have e0:([]:List UInt8).length=0:=rfl;refine wk ?_;exact aa h.o;rw[if_neg hv]at h;have f2:(0:Int)<(v.length:Int):=by have:=amH.2 hv;omega
 cases hd:Lib.validD v with
 | true =>
   rw[hd,if_pos rfl]at h;replace h:=hid h;rw[hd]at hu;have kk1:=@aoQ _ _ _ _ (acl vl1);refine wk ?_;exact aa h.o
 | false =>
   rw[hd,if_neg aoK]at h;replace h:=hid h;rw[hd]at hu;have kk1:=@aoQ _ _ _ _ (acl vl1);refine wk ?_;exact aa h.o
 rw[if_neg s2]at h;by_cases s3:syn=3;subst s3;rw[if_pos rfl]at h;replace h:=hid h;clear hu hnu;refine wk ?_;refine ah (λn T' L'=>∃i:Nat,n=v.length-i/\i<=v.length/\Hid (Ln (v.take i)=true)/\T'=[(6,.int .i64 (i:Int)),(1,.str v),(12,.int .i64 3)]/\L=L') (CutS (b:=alr _)) ⟨0,rfl,alw _,hid rfl,rfl,rfl⟩ ?_;rintro _ _ _ ⟨i,rfl,hi,hall,rfl,rfl⟩;by_cases hlt:i<v.length;have g1:(i:Int)<(v.length:Int):=aoJ;have g2:=alm i aoJ;obtain⟨c,hc⟩:=alj (v.getD i 0);have htk:v.take (i+1)=v.take i++[c]:=by rw[alN hlt,<- hc];simp[hlt]
 have hm:c∈v:=by rw[<- hc];simp[hlt]
 by_cases ha:c.toNat<128;have f2:¬(128:Int)<=(c.toNat:Int):=aoJ;have hnext:Ln (v.take (i+1))=true:=by have:=hall.o;unfold Ln at this⊢;rw[htk,an1,this];simp[ha]
 replace hnext:=hid hnext;clear ha htk hm;refine wk ?_;exact aoO aoJ (CutL (b:=alr _)) ⟨i+1,rfl,hlt,hnext,rfl,rfl⟩;have f2:(128:Int)<=(c.toNat:Int):=aoJ;have hbad:Ln v=false:=by rw[<- am1];intro e;have:=alC.1 e c hm;simp at this;omega
 have h':=h.o;rw[hbad,if_neg aoK]at h';replace h':=hid h';clear ha htk hm hbad;refine wk ?_;exact aa h'.o;have hke:i=v.length:=aoJ;subst hke;have g1:¬(v.length:Int)<(v.length:Int):=aoJ;have e:=hall.o;rw[alF]at e;have h':=h.o;rw[e,if_pos rfl]at h';replace h':=hid h';clear e;have kk1:=@aoQ _ _ _ _ (xO vl2);refine wk ?_;exact aa h'.o;rw[if_neg s3]at h;by_cases s4:syn=4;subst s4;rw[if_pos rfl]at h;cases hd:rU v with
 | true =>
   rw[hd,if_pos rfl]at h;replace h:=hid h;rw[hd]at hnu;have kk1:=@aoQ _ _ _ _ (Xh vl1);refine wk ?_;exact aa h.o
 | false =>
   rw[hd,if_neg aoK]at h;replace h:=hid h;rw[hd]at hnu;have kk1:=@aoQ _ _ _ _ (Xh vl1);refine wk ?_;exact aa h.o
 rw[if_neg s4]at h;by_cases s5:syn=5;subst s5;rw[if_pos rfl]at h;clear hu hnu;by_cases t1:v=ahk;rw[if_pos (.inl t1)]at h;replace h:=hid h;subst t1;refine wk ?_;exact aa h.o;by_cases t2:v=ab9;rw[if_pos (.inr t2)]at h;replace h:=hid h;subst t2;have t3:¬([70,65,76,83,69]:List UInt8)=[84,82,85,69]:=by decide
 clear t1;refine wk ?_;exact aa h.o;rw[if_neg (λe=>e.elim t1 t2)]at h;replace h:=hid h;refine wk ?_;exact aa h.o;rw[if_neg s5]at h;clear hu hnu;by_cases s6:syn=6;subst s6;rw[if_pos rfl]at h;obtain⟨⟨k,e⟩,hk⟩:∃p,Kb v=p:=⟨_,rfl⟩;rw[hk]at h;simp only at h;by_cases he:e=0;subst he;rw[if_pos rfl]at h;replace h:=hid h;refine wk ?_;refine afo ?_;rw[hk];simp only[ug];refine aoR ?_;exact aa h.o;rw[if_neg he]at h;replace h:=hid h;refine wk ?_;refine afo ?_;rw[hk];simp only[ug];refine aoR ?_;exact aa h.o;rw[if_neg s6]at h;by_cases s7:syn=7;subst s7;rw[if_pos rfl]at h;replace h:=hid h;refine wk ?_;exact aa h.o;rw[if_neg s7]at h;by_cases s8:syn=8;subst s8;rw[if_pos rfl]at h;cases hd:J6 v with
 | true =>
   rw[hd,if_pos rfl]at h;replace h:=hid h;have kk1:=@aoQ _ _ _ _ (Xi vl1);refine wk ?_;exact aa h.o
 | false =>
   rw[hd,if_neg aoK]at h;replace h:=hid h;have kk1:=@aoQ _ _ _ _ (Xi vl1);refine wk ?_;exact aa h.o
 rw[if_neg s8]at h;replace h:=hid h;refine wk ?_;exact aa h.o
theorem ZG{a b:List UInt8}(h:K (.tup [.int .i64 ((rT syn a b).getD 0),.bool (rT syn a b).isSome]) L):alo 80 [.int .i64 syn,.str a,.str b] L K:=by refine ZF ?_;revert h;rcases rT syn a b with _|c<;>exact λh=>h
theorem aim(h:K (.tup [.str ((bw syn v).getD []),.bool (bw syn v).isSome]) L):alo 48 [.int .i64 syn,.str v] L K:=by refine eg ?_;revert h;rcases bw syn v with _|c<;>exact λh=>h
theorem ack(v:List UInt8)(rest:List UInt8)(hr:rest=[]\/∃c t,rest=c::t/\(c=44\/c=43)):∀(s b:List UInt8) (bl:Bool),b++s=v->(s=[]->bl=false)->gf b bl (wrL v.length b.length s++rest)=some (v,rest,true)
 | [],b,bl,e,h=>by
   rw[alY]at e;subst e;simp only[wrL,al2];rw[h rfl];rcases hr with rfl|⟨c,t,rfl,hc⟩
   .exact oQ
   .exact rq hc
 | c::s,b,bl,e,h=>by
   have ih:=λbl' (h':s=[]->bl'=false)=>ack v rest hr s (b++[c]) bl' (by rw[<- e];simp) h'
   have hbl:(b++[c]).length=b.length+1:=aoK;rw[hbl]at ih;have hvl:v.length=b.length+s.length+1:=(by rw[<- e];simp;omega);rw[wrL,alI];unfold wrB;split
   .rename_i hc;subst hc;show gf b bl (92::48::48::(wrL v.length (b.length+1) s++rest))=_;rw[Gf (by decide)];exact ih false (λ_=>rfl)
   .rename_i hc;split
    .rename_i h2;show gf b bl (92::c::(wrL v.length (b.length+1) s++rest))=_;rw[ue]
     .exact ih false (λ_=>rfl)
     .rcases h2 with⟨_,rfl|rfl⟩|⟨_,rfl⟩|h2
      .decide
      .decide
      .decide
      .simp only[alu,am3,or_false]at h2⊢;rcases h2 with rfl|rfl|rfl|rfl|rfl|rfl|rfl<;>decide
    .rename_i h2;show gf b bl (c::(wrL v.length (b.length+1) s++rest))=_;have h5:¬c∈([34,43,44,59,60,62,92]:List UInt8):=λq=>h2 (.inr (.inr q))
     simp only[alu,am3,or_false,not_or]at h5;rw[ox (λq=>q.elim (λq=>h5.2.2.1 q) (λq=>h5.2.1 q)) (λq=>h5.2.2.2.2.2.2 q)];rw[if_neg]
     .refine ih _ (λhs=>?_);rw[decide_eq_false_iff_not];intro q;refine h2 (.inr (.inl ⟨?_,q⟩));rw[hvl,hs];simp
     .rintro(q|q|⟨q1,q2⟩)
      .exact hc q
      .simp only[alu,am3,or_false]at q;rcases q with q|q|q|q
       .exact h5.1 q
       .exact h5.2.2.2.1 q
       .exact h5.2.2.2.2.1 q
       .exact h5.2.2.2.2.2.1 q
      .exact h2 (.inl ⟨by rw[q1];rfl,q2⟩)
theorem Pd(v:List UInt8){rest:List UInt8}(hr:rest=[]\/∃c t,rest=c::t/\(c=44\/c=43)):gf [] false (fa v++rest)=some (v,rest,true):=
 ack v rest hr v [] false rfl (λ_=>rfl)
theorem aaw:∀(t r:List UInt8),(∀c∈t,c≠61)->mu (t++61::r)=some (t,r)
 |[],r,_=>by simp[mu]
 |c::t,r,h=>by rw[al3,mu,if_neg (h c aoK),aaw t r (λx hx=>h x (by simp[hx]))]
theorem ae4{t:List UInt8}(h:gh t=true):∀c∈t,c≠61:=by intro c hc e;simp only[gh,alx,alC]at h;have:=h.2 c hc;rw[e]at this;exact absurd this (by decide)
theorem VC(x sep:List UInt8)(xs:List (List UInt8)):Lib.join (x::xs) sep=x++xs.flatMap (λy=>sep++y):=by
 induction xs generalizing x with
 |nil=>simp[Lib.join,List.intercalate]
 | cons y l ih =>
   have e:Lib.join (x::y::l) sep=x++(sep++Lib.join (y::l) sep):=(by simp[Lib.join,List.intercalate]);rw[e,ih];simp
def oF(t:Rdn):List UInt8:=t.flatMap λa=>43::avT false a
def oz(d:List Rdn):List UInt8:=d.flatMap λr=>44::dG false r
theorem Xg(a:Ava)(t:Rdn):dG false (a::t)=avT false a++oF t:=by simp only[dG,alG,if_false,alD,VC,oF];simp[List.flatMap_map]
theorem ade(r:Rdn)(d:List Rdn):eK false (r::d)=dG false r++oz d:=by simp only[eK,alD,VC,oz];simp[List.flatMap_map]
theorem Vq:∀(f:Nat) (out:List Rdn) (now:Rdn) (a:Ava) (t:Rdn) (d:List Rdn),(avT false a++(oF t++oz d)).length<f->out.length<32->ek now (a::t)=0->mI (out.length+1) d=0 ->
  sA f out now (avT false a++(oF t++oz d))=(out++[now++a::t]++d,0)
 |0,_,_,_,_,_,h,_,_,_=>aoJ
 | f+1,out,now,(ty,v),t,d,hf,ho,hc,hd=>by
   unfold ek at hc;split at hc
   .cases hc
   rename_i hn8;split at hc
   .cases hc
   rename_i hty;split at hc
   .cases hc
   rename_i hha;simp only[Bool.not_eq_false]at hty;have e1:avT false (ty,v)++(oF t++oz d)=ty++61::(fa v++(oF t++oz d)):=(by simp[avT]);rw[e1]at hf⊢;rw[sA,if_neg aoJ,aaw _ _ (ae4 hty)];simp only;rw[if_neg (by simp[hty]),if_neg hha];rcases t with _|⟨a2,t⟩
   .rcases d with _|⟨r,d⟩
    .rw[show oF []++oz []=([]:List UInt8)from rfl];rw[Pd v (.inl rfl)];simp
    .rw[show oF []++oz (r::d)=44::(dG false r++oz d)by simp[oF,oz]]at hf⊢;rw[Pd v (.inr ⟨44,_,rfl,.inl rfl⟩)];simp only[amC,if_false,if_true];unfold mI at hd;split at hd
     .cases hd
     rename_i h32;split at hd
     .cases hd
     rename_i hr0;split at hd
     .rename_i h5;exact absurd hd h5
     rename_i h5;simp only[ne_eq,anN]at h5;rcases r with _|⟨a2,t⟩
     .exact absurd rfl hr0
     have ih:=Vq f (out++[now++[(ty,v)]]) [] a2 t d;rw[Xg,alI]at hf⊢;rw[ih (by simp only[alJ,alA]at hf⊢;omega) (by simp;omega) h5 (by simpa using hd)];simp
   .rw[show oF (a2::t)++oz d=43::(avT false a2++(oF t++oz d))by simp[oF]]at hf⊢;rw[Pd v (.inr ⟨43,_,rfl,.inr rfl⟩)];simp only[amC,if_false,show ¬((43:UInt8)=44)by decide];have ih:=Vq f out (now++[(ty,v)]) a2 t d;rw[ih (by simp only[alJ,alA]at hf⊢;omega) ho hc hd];simp
theorem afL(h:mI 0 d=0)(hl:(eK false d).length<=4096):xh (eK false d)=(d,0):=by unfold xh;rw[if_neg aoJ];rcases d with _|⟨r,d⟩;simp[eK,Lib.join];unfold mI at h;split at h;cases h;split at h;cases h;rename_i hr0;split at h;rename_i h5;exact absurd h h5;rename_i h5;simp only[ne_eq,anN]at h5;rcases r with _|⟨a,t⟩;exact absurd rfl hr0;rw[ade,Xg,alI];rw[if_neg (by simp[avT])];have:=Vq ((avT false a++(oF t++oz d)).length+1) [] [] a t d aoJ aoK h5 h;rw[this];simp
end Go.Proofs.YtcmfcpjnhephaaaGreatDoor.Av
