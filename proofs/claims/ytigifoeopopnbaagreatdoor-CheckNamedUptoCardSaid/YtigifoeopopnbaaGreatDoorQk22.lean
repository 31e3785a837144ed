/- Joined texts of the walk, made small by a program. -/
import Derived.Test.YtigifoeopopnbaaGreatDoorQk21
import Derived.Test.YtigifoeopopnbaaGreatDoorQk6
import Derived.Test.YtigifoeopopnbaaGreatDoorQk4
import Derived.Maps.RangeRun
import Derived.Test.YtigifoeopopnbaaGreatDoorQk10
set_option linter.unusedSimpArgs false
set_option linter.unusedVariables false
namespace Go.Proofs.YtigifoeopopnbaaGreatDoor.Av
open Go
variable {L:List Blk} {K:aef}
set_option maxHeartbeats 8000000
set_option maxRecDepth 100000
theorem TT {cs:List Cls} (hd:jB cs) (n:List UInt8):(atN (cs.map (·.1)) n 0=-1/\fH cs n=none)\/∃ k:Nat,k<cs.length/\atN (cs.map (·.1)) n 0=(k:Int)/\fH cs n=some (cs.getD k cC):=by
 rcases RH (n:=n) (l:=cs.map (·.1)) (i:=0) with h|h
 ·refine .inl ⟨h,agL.2 fun c hc=>?_⟩;have:=N0 (n:=n) (l:=cs.map (·.1)) (i:=0) (by omega) c.1 (aey.2 ⟨c,hc,rfl⟩);simpa using this
 ·obtain ⟨k,hk⟩:=Int.eq_ofNat_of_zero_le (show 0<=atN (cs.map (·.1)) n 0 by omega);obtain ⟨a1,a2⟩:=Ww (n:=n) (l:=cs.map (·.1)) (i:=0) (k:=k) (by simpa using hk);have hkl:k<cs.length:=by simpa using a1
  refine .inr ⟨k,hkl,hk,TM hd hkl ?_⟩;rw [<- a2];simp [hkl]
theorem Ut {cs:List Cls} {capC:Option Nat} {t2:List AV} {n2:Nat} {cap2:Option Nat} {n:List UInt8} (hc:ue cs) (hn:am n) (h:K (.sl ((chN cs n).map AV.str) (chN cs n).length none) L) :
  aee 55 [.agg [.sl t2 n2 cap2,.sl (bE cs) cs.length capC],.str n] L K:=by
 obtain ⟨S,hS⟩:=aea (AV.sl t2 n2 cap2);have kC:Hid (∀ (m:List UInt8),am m->∀ {L:List Blk} {K:aef},K (.int .i64 (atN (cs.map (·.1)) m 0)) L->aee 54 [.sl (bE cs) cs.length capC,.str m] L K):=hid (by intro m hm L K q;exact TP (by have:=hc.l;omega) (fun c hm=>(hc.r c hm).1) hm q);have hg:=hid (fun (k:Nat) (q:k<cs.length) (j:Nat) (p:j<5)=>NP q p);have hlen:=kK cs;rw [hS];obtain ⟨C2,hC2⟩:=aea (bE cs);rw [hC2] at kC hg hlen ⊢;have hlc:=hc.l;have hcn:=hid (show chM cs cs.length n=mH cs n from rfl);obtain ⟨z0,hz0⟩:=aea (atN (cs.map (·.1)) n 0);have kk1:Hid (Ctr Tryz.prog 54 [.sl C2 cs.length capC,.str n] (.int .i64 z0)):=@hid _ (by intro L K q;exact kC.out n hn (by rw [hz0];exact q));have hso:S.one=true:=by rw [<- hS];rfl
 replace h:=hid h;replace hz0:=hid hz0;replace hc:=hid hc;clear hS hC2;refine aed Oz ?_;refine cz (l:=[]) (n:=0) 5 1 rfl (aeX 1).symm ?_;have hI0:Hid (∃ w:List (List UInt8),([]:List AV)=w.map AV.str/\w.length=0/\w++(chM cs cs.length n).map (·.1)=chN cs n):=hid ⟨[],rfl,rfl,by rw [hcn.out];rfl⟩;clear kk1 hcn;refine ai (fun z T' L'=>∃ (j:Nat) (m:List UInt8) (Cn:List AV) (κ:Int),j+z=cs.length/\Hid (∃ w:List (List UInt8),Cn=w.map AV.str/\w.length=j/\w++(chM cs z m).map (·.1)=chN cs n)/\Hid (atN (cs.map (·.1)) m 0=κ)/\T'=[(6,.int .i64 κ),(5,.gsl Cn j (L.length+1) 1),(2,.ptr L.length 0)]/\L'=L++[.cells [S,.sl C2 cs.length capC],.spare j 1]) (CutL (b:=by simp)) ⟨0,n,[],z0,by omega,hI0,hz0,rfl,by simp⟩ ?_;clear hI0 hz0;rintro z _ _ ⟨j,m,Cn,κ,hz,hI,hJ,rfl,rfl⟩;have hend:∀ (X:List Blk),(chM cs z m).map (·.1)=[]->Fin L (AV.gsl Cn j (L.length+1) 1) (L++X) K:=fun X e=>by
  obtain ⟨w,h1,h2,h3⟩:=hI.out;rw [e,aeJ] at h3;refine aZ ?_;rw [h1,<- h2,h3];simp only [AV.frz,cy];refine ab ?_ h.out;simp only [AV.refs,bV]
 rcases TT hc.out.d m with ⟨a1,a2⟩|⟨k,hk,a1,a2⟩
 ·obtain rfl:κ=-1:=hJ.out.symm.trans a1;have hf:=hid fun X=>hend X (by
   cases z with
   | zero=>rfl
   | succ z=>rw [chM,a2];rfl)
  clear hend hI hJ a1 a2;refine wk ?_;exact hf.out _
 obtain rfl:κ=(k:Int):=hJ.out.symm.trans a1;have g0:(0:Int)<=(k:Int):=by omega
 cases z with
 | zero =>
   have hf:=hid fun X=>hend X rfl
   have g1:¬ (j:Int)<(cs.length:Int):=by omega
   clear hend hI hJ a1 a2;refine wk ?_;exact hf.out _
 | succ z =>
 have g1:(j:Int)<(cs.length:Int):=by omega
 obtain ⟨w,hw1,hw2,hw3⟩:=hI.out;rw [chM,a2] at hw3;simp only at hw3;have e0:=hg.out k hk 0 (by omega);have e1:=hg.out k hk 1 (by omega);have e2:k * 5<C2.length:=by omega
 have e3:k * 5+1<C2.length:=by omega
 have g3:(k:Int)<(cs.length:Int):=by omega
 have hcr:=hc.out.r (cs.getD k cC) (by simp [hk]);obtain ⟨⟨c1,c2,c3,c4,c5⟩,hcc⟩:∃ c,cs.getD k cC=c:=⟨_,rfl⟩;rw [hcc] at e0 e1 hw3 hcr;simp only [clC,afd,aft,afS] at e0 e1;simp only at hw3 hcr;have hsz:j * 16+16<=140737488355328:=by omega
 clear hend hI hJ a1 a2 hcc;by_cases h2:c2=[]
 ·subst h2;rw [if_pos rfl] at hw3;have hf:=hid (show Fin L (AV.gsl (Cn++[.str c1]) (j+1) (L.length+1) 1) (L++[.cells [S,.sl C2 cs.length capC],.spare (j+1) 1]) K by
   refine aZ ?_;have e1:Cn++[.str c1]=(chN cs n).map AV.str:=by rw [<- hw3,hw1];simp
   have e2:j+1=(chN cs n).length:=by rw [<- hw3];simp [hw2]
   rw [e1];simp only [AV.frz,cy];rw [e2];refine ab ?_ h.out;simp only [AV.refs,bV])
  clear hw1 hw2 hw3 kC;refine wk ?_;exact hf.out
 ·rw [if_neg h2] at hw3;have hI2:Hid (∃ w:List (List UInt8),Cn++[.str c1]=w.map AV.str/\w.length=j+1/\w++(chM cs z c2).map (·.1)=chN cs n):=hid ⟨w++[c1],by rw [hw1];simp,by simp [hw2],by rw [<- hw3];simp⟩;obtain ⟨κ2,hκ⟩:=aea (atN (cs.map (·.1)) c2 0);have kk1:Hid (Ctr Tryz.prog 54 [.sl C2 cs.length capC,.str c2] (.int .i64 κ2)):=@hid _ (by intro L K q;exact kC.out c2 hcr.2.1 (by rw [hκ];exact q));replace hκ:=hid hκ;clear hw1 hw2 hw3 kC hcr;refine wk ?_;exact ag z _ _ (by omega) (CutL (b:=by simp)) ⟨j+1,c2,_,κ2,by omega,hI2,hκ,rfl,rfl⟩
theorem Ul {xs:List (List UInt8)} {cap:Option Nat} {s:List UInt8} (hn:xs.length<=1000000000000) (h:K (.sl ((oK xs s).map AV.str) (oK xs s).length none) L) :
  aee 56 [.sl (xs.map AV.str) xs.length cap,.str s] L K:=by
 replace h:=hid h;have hg:=hid (fun k (q:k<xs.length)=>DI q);have hl:(xs.map AV.str).length=xs.length:=by simp
 obtain ⟨X,hX⟩:=aea (xs.map AV.str);rw [hX] at hg hl ⊢;replace hX:=hid hX;refine af Rr (by simp [HO]) ?_;simp only [HO,aq]
 iterate 6 first
  | refine aY ?_
  | (first|refine aO (by kernel_rfl) ?_|refine aA (by kernel_rfl) ?_|refine aB ?_|refine bw ?_|refine a6 (fun _=>?_)|refine ax ?_|refine aR ?_)
    simp (config:={ maxSteps:=2000000 }) only [Kon,push_cast,reduceIte,Nat.reduceEqDiff,Nat.reduceAdd,Nat.reduceMul,Nat.reduceSub,Nat.reduceLT,Nat.reduceLeDiff,Int.reduceLT,Int.reduceLE,Int.reduceAdd,Int.reduceSub,Int.reduceNeg,Int.reduceToNat,Int.reduceEq,reduceCtorEq, *]
  | (first|refine aK (by kernel_rfl) ?_|refine aP ?_|refine H5 ?_|refine aQ ?_|refine bd (aw ?_))
    simp only [push_cast,reduceIte,Nat.reduceEqDiff,Nat.reduceAdd,Nat.reduceMul,Nat.reduceSub,Nat.reduceLT,Nat.reduceLeDiff,Int.reduceLT,Int.reduceLE,Int.reduceAdd,Int.reduceSub,Int.reduceNeg,Int.reduceToNat,Int.reduceEq,reduceCtorEq, *]
  | exact a7
  | first|apply a8|apply aL|apply ba|apply aM|apply bc|apply aN
  | refine aE ?_
  | refine H4 ?_
  | first|refine aC rfl ?_|refine aD rfl ?_|refine ap rfl ?_ ?_|refine aG rfl (fun _=>?_) (fun _=>?_)|refine aF rfl (fun _=>?_) (fun _=>?_)
  | ((first|refine ao (fun _=>?_) (fun _=>?_)|refine au (fun _=>?_) (fun _=>?_))<;>try simp (config:={ maxSteps:=2000000 }) only [Kon,push_cast,reduceIte,Nat.reduceEqDiff,Nat.reduceAdd,Nat.reduceMul,Nat.reduceSub,Nat.reduceLT,Nat.reduceLeDiff,Int.reduceLT,Int.reduceLE,Int.reduceAdd,Int.reduceSub,Int.reduceNeg,Int.reduceToNat,Int.reduceEq,reduceCtorEq, *])
  | refine And.intro trivial ?_
  | refine And.intro (by omega) ?_
  | refine aI rfl (fun _=>?_) (fun _=>?_)
  | refine And.intro ?_ ?_
 refine cz (l:=[]) (n:=0) 5 1 rfl (aeX 1).symm ?_;refine wk ?_;refine ai (fun n T' L'=>∃ (k m:Nat) (C:List AV) (d:Bool),n=xs.length - k/\k<=xs.length/\m<=k+d.toNat/\Hid (∃ w:List (List UInt8),C=w.map AV.str/\w.length=m/\mF s xs=w++(if d=true then xs.drop k else mF s (xs.drop k)))/\Hid (∀ j,j<k->xs.getD j []≠s)/\T'=[(11,.int .i64 (k:Int)),(10,.int .i64 xs.length),(9,.sl X xs.length cap),(6,.bool d),(5,.gsl C m L.length 1),(0,.sl X xs.length cap),(1,.str s)]/\L'=L++[.spare m 1]) (CutS (b:=by simp)) ⟨0,0,[],false,rfl,aej _,by simp,hid ⟨[],rfl,rfl,by simp⟩,hid (by simp),rfl,by simp⟩ ?_;rintro _ _ _ ⟨k,m,C,d,rfl,hk,hm,hI,hr,rfl,rfl⟩;have hm1:m<=k+1:=by cases d<;>simp at hm<;>omega
 have hsz:m * 16+16<=140737488355328:=by omega
 have hsz2:(m+1) * 16+16<=140737488355328:=by omega
 by_cases hlt:k<xs.length
 ·have g1:(k:Int)<(xs.length:Int):=by omega
  have g2:=aec k (by omega);have e3:=hg.out k hlt;have e4:k<X.length:=by omega
  obtain ⟨x,hx⟩:=aea (xs.getD k []);have hdr:xs.drop k=x::xs.drop (k+1):=by rw [aeH hlt,<- hx];simp [hlt]
  rw [hx] at e3;by_cases hq:x=s
  ·have e:oK xs s=xs:=by unfold oK;rw [if_pos (by rw [<- hq,<- hx];simp [hlt])]
   rw [e,hX.out] at h;replace hx:=hid hx;subst hq;clear e hI hdr;refine wk ?_;refine aZ ?_;have e5:(AV.sl X xs.length cap).frz=.sl X xs.length none:=by rw [<- hX.out];simp only [AV.frz,cy]
   rw [e5];refine ab ?_ h.out;rw [<- hX.out];simp only [AV.refs,bV]
  ·have hr2:Hid (∀ j,j<k+1->xs.getD j []≠s):=hid (fun j hj=>by
    rcases aer j k with h|h
    ·exact hr.out j h
    ·have:j=k:=by omega
     subst this;rw [hx];exact hq)
   obtain ⟨w,hw1,hw2,hw3⟩:=hI.out;rw [hdr] at hw3;clear hx hr hdr hI;cases d with
   | true =>
     rw [if_pos rfl] at hw3;have hI2:Hid (∃ w:List (List UInt8),C++[.str x]=w.map AV.str/\w.length=m+1/\mF s xs=w++(if true=true then xs.drop (k+1) else mF s (xs.drop (k+1)))):=hid ⟨w++[x],by rw [hw1];simp,by simp [hw2],by rw [hw3];simp⟩;clear hw1 hw2 hw3;refine wk ?_;exact ag _ _ _ (by omega) (CutL (b:=by simp)) ⟨k+1,m+1,_,true,rfl,hlt,by simp at hm ⊢;omega,hI2,hr2,rfl,rfl⟩
   | false =>
     rw [if_neg (by decide),mF] at hw3;by_cases hlx:s<x
     ·rw [if_pos hlx] at hw3;have hb:Op.bytesLess s x=true:=by rw [bytesLess_eq];exact decide_eq_true hlx
      have hI2:Hid (∃ w:List (List UInt8),C++[.str s]++[.str x]=w.map AV.str/\w.length=m+1+1/\mF s xs=w++(if true=true then xs.drop (k+1) else mF s (xs.drop (k+1)))):=hid ⟨w++[s,x],by rw [hw1];simp,by simp [hw2],by rw [hw3];simp⟩;clear hw1 hw2 hw3 hlx;refine wk ?_;exact ag _ _ _ (by omega) (CutL (b:=by simp)) ⟨k+1,m+1+1,_,true,rfl,hlt,by simp at hm ⊢;omega,hI2,hr2,rfl,rfl⟩
     ·rw [if_neg hlx] at hw3;have hb:Op.bytesLess s x=false:=by rw [bytesLess_eq];exact decide_eq_false hlx
      have hI2:Hid (∃ w:List (List UInt8),C++[.str x]=w.map AV.str/\w.length=m+1/\mF s xs=w++(if false=true then xs.drop (k+1) else mF s (xs.drop (k+1)))):=hid ⟨w++[x],by rw [hw1];simp,by simp [hw2],by rw [hw3];simp⟩;clear hw1 hw2 hw3 hlx;refine wk ?_;exact ag _ _ _ (by omega) (CutL (b:=by simp)) ⟨k+1,m+1,_,false,rfl,hlt,by simp at hm ⊢;omega,hI2,hr2,rfl,rfl⟩
 ·have hke:k=xs.length:=by omega
  subst hke;have g1:¬ (xs.length:Int)<(xs.length:Int):=by omega
  have hns:s ∉ xs:=fun hs=>by
   obtain ⟨j,hj,e⟩:=aeU.1 hs;exact hr.out j hj (by simp [hj,e])
  have e:oK xs s=mF s xs:=by unfold oK;rw [if_neg hns]
  obtain ⟨w,hw1,hw2,hw3⟩:=hI.out;rw [aeC] at hw3;rw [e] at h;clear hI hr hns e;cases d with
  | true =>
    rw [if_pos rfl,aeJ] at hw3;have hf:=hid (show Fin L (AV.gsl C m L.length 1) (L++[.spare m 1]) K by
     refine aZ ?_;rw [hw1,<- hw2,<- hw3];simp only [AV.frz,cy];refine ab ?_ h.out;simp only [AV.refs,bV])
    clear hw1 hw2 hw3 h;refine wk ?_;exact hf.out
  | false =>
    rw [if_neg (by decide),mF] at hw3;have hf:=hid (show Fin L (AV.gsl (C++[.str s]) (m+1) L.length 1) (L++[.spare (m+1) 1]) K by
     refine aZ ?_;have e1:C++[.str s]=(mF s xs).map AV.str:=by rw [hw3,hw1];simp
     have e2:m+1=(mF s xs).length:=by rw [hw3];simp [hw2]
     rw [e1];simp only [AV.frz,cy];rw [e2];refine ab ?_ h.out;simp only [AV.refs,bV])
    clear hw1 hw2 hw3 h;refine wk ?_;exact hf.out
theorem US (s:List UInt8):∀ l:List (List UInt8),(mF s l).length=l.length+1
 | []=>rfl
 | x::t=>by
   rw [mF];split
   ·rfl
   ·rw [aet,US s t,aet]
theorem Uu (l:List (List UInt8)) (s:List UInt8):(oK l s).length<=l.length+1:=by
 unfold oK;split
 ·omega
 ·rw [US];exact aeg _
def pc (M A R:List (List UInt8)):Prop:=R.foldl oK A=M/\A.length+R.length<=1000000000000
theorem pc.step {M A R:List (List UInt8)} {x:List UInt8} (h:pc M A (x::R)):pc M (oK A x) R:=by
 have:=Uu A x;have h2:=h.2;simp only [aet] at h2;exact ⟨h.1,by omega⟩
theorem Im (cs:List Cls):∀ (f:Nat) (n:List UInt8),(chM cs f n).length<=f
 | 0,n=>by simp [chM]
 | f+1,n=>by
   rw [chM];split
   ·simp
   ·split
    ·simp
    ·rename_i c _ _
     have:=Im cs f c.2.1;simp only [aet];omega
theorem Q7 {α β:Type} {B:Nat} {f:α->List β}:∀ {l:List α},(∀ a∈l,(f a).length<=B)->(l.flatMap f).length<=l.length * B
 | [],_=>by simp
 | a::l,h=>by
   have h1:=h a (by simp);have h2:=Q7 (l:=l) fun b hb=>h b (by simp [hb])
   rw [ae4,aeF,aet,agh];omega
theorem If {cs:List Cls} (hc:ue cs) {ns:List (List UInt8)} (hn:ns.length<=9000):(mB cs ns).length<=1000000000000/\(Hx cs ns).length<=1000000000000:=by
 have hch:∀ n,(mH cs n).length<=40:=fun n=>aeM (Im cs _ n) hc.l
 have key:∀ f:Cls->List (List UInt8),(∀ c∈cs,(f c).length<=2000000)->(ns.flatMap fun n=>(mH cs n).flatMap f).length<=1000000000000:=fun f hf=>by
  have:=Q7 (l:=ns) (B:=80000000) (f:=fun n=>(mH cs n).flatMap f) fun n hn=>by
   have h1:=Q7 (l:=mH cs n) (B:=2000000) (f:=f) fun c hcm=>hf c (Qg hc.d hcm).1
   have:=hch n;have h3:(mH cs n).length * 2000000<=40 * 2000000:=afh _ this;exact aeM h1 h3
  have h3:ns.length * 80000000<=9000 * 80000000:=afh _ hn;omega
 exact ⟨key _ fun c h=>by rw [aeS];exact (hc.r c h).2.2.1,key _ fun c h=>by rw [aeS];exact (hc.r c h).2.2.2.1⟩
theorem Y3 {cs:List Cls} {capC:Option Nat} {t2:List AV} {n2:Nat} {cap2:Option Nat} {ns:List (List UInt8)} {cap:Option Nat} (hc:ue cs) (hl:ns.length<=9000) (hn:∀ n∈ns,am n) {L:List Blk} {K:aef}
  (h:K (.tup [.sl ((gl cs ns).map AV.str) (gl cs ns).length none,.sl ((oL cs ns).map AV.str) (oL cs ns).length none]) L) :
  aee 31 [.agg [.sl t2 n2 cap2,.sl (bE cs) cs.length capC],.sl (ns.map AV.str) ns.length cap] L K:=by
 obtain ⟨S,hS⟩:=aea (AV.sl t2 n2 cap2);have kC:Hid (∀ (m:List UInt8),am m->∀ {L:List Blk} {K:aef},K (.int .i64 (atN (cs.map (·.1)) m 0)) L->aee 54 [.sl (bE cs) cs.length capC,.str m] L K):=hid (by intro m hm L K q;exact TP (by have:=hc.l;omega) (fun c hm=>(hc.r c hm).1) hm q);have kH:Hid (∀ (m:List UInt8),am m->∀ {L:List Blk} {K:aef},K (.sl ((chN cs m).map AV.str) (chN cs m).length none) L->aee 55 [.agg [S,.sl (bE cs) cs.length capC],.str m] L K):=hid (by intro m hm L K q;rw [<- hS];exact Ut hc hm q);have hg:=hid (fun (k:Nat) (q:k<cs.length)=>Il q);have hlen:=kK cs;rw [hS];obtain ⟨C2,hC2⟩:=aea (bE cs);rw [hC2] at kC kH hg hlen ⊢;have hng:=hid (fun k (q:k<ns.length)=>DI q);have hnl:(ns.map AV.str).length=ns.length:=by simp
 obtain ⟨NS,hNS⟩:=aea (ns.map AV.str);rw [hNS] at hng hnl ⊢;have hml:=If hc hl;have hP0:Hid (pc (gl cs ns) [] (mB cs (ns.drop 0))):=hid ⟨rfl,by simp;exact hml.1⟩;have hQ0:Hid (pc (RU (Hx cs ns)) [] (Hx cs (ns.drop 0))):=hid ⟨rfl,by simp;exact hml.2⟩;have hso:S.one=true:=by rw [<- hS];rfl
 replace h:=hid h;replace hc:=hid hc;replace hn:=hid hn;obtain ⟨MU,hMU⟩:=aea (gl cs ns);obtain ⟨MA,hMA⟩:=aea (RU (Hx cs ns));have hmay:oL cs ns=MA.filter fun x => !MU.contains x:=by unfold oL;rw [hMA,hMU]
 rw [hMU] at hP0 h;rw [hMA] at hQ0;rw [hmay] at h;clear hS hC2 hNS hml hMU hMA hmay;refine aed Ox ?_;refine ai (fun z T' L'=>∃ (i:Nat) (A B:List (List UInt8)) (c6 c7:Option Nat) (X:List Blk),z=ns.length - i/\i<=ns.length/\Hid (pc MU A (mB cs (ns.drop i)))/\Hid (pc MA B (Hx cs (ns.drop i)))/\T'=[(22,.int .i64 (i:Int)),(21,.int .i64 ns.length),(20,.sl NS ns.length cap),(8,.sl [] 0 (some 0)),(7,.sl (B.map AV.str) B.length c7),(6,.sl (A.map AV.str) A.length c6),(2,.ptr L.length 0)]/\L'=L++(.cells [S,.sl C2 cs.length capC]::X)) (CutS (b:=by simp)) ⟨0,[],[],some 0,some 0,[],rfl,aej _,hP0,hQ0,rfl,by simp⟩ ?_;clear hP0 hQ0;rintro _ _ _ ⟨i,A,B,c6,c7,X,rfl,hi,hP,hQ,rfl,rfl⟩;by_cases hlt:i<ns.length
 ·have g1:(i:Int)<(ns.length:Int):=by omega
  have g2:=aec i (by omega);have e3:=hng.out i hlt;have e4:i<NS.length:=by omega
  obtain ⟨n,hx⟩:=aea (ns.getD i []);have hnr:am n:=hn.out n (by rw [<- hx];simp [hlt]);have hdr:ns.drop i=n::ns.drop (i+1):=by rw [aeH hlt,<- hx];simp [hlt]
  rw [hx] at e3;rw [hdr] at hP hQ;obtain ⟨ch,hch⟩:=aea (mH cs n);have hchm:∀ c∈ch,c∈cs/\fH cs c.1=some c:=fun c hcm=>Qg hc.out.d (by rw [hch];exact hcm)
  obtain ⟨RM,hRM⟩:=aea (mB cs (ns.drop (i+1)));obtain ⟨RA,hRA⟩:=aea (Hx cs (ns.drop (i+1)));have kk1:Hid (Ctr Tryz.prog 55 [.agg [S,.sl C2 cs.length capC],.str n] (.sl ((ch.map (·.1)).map AV.str) ch.length none)):=@hid _ (by
   intro L K q;refine kH.out n hnr ?_;unfold chN;rw [hch,aeS];exact q)
  have hP1:Hid (pc MU A (((ch.drop 0).flatMap fun c=>c.2.2.2.1.map aa)++RM)):=hid (by
   have:=hP.out;unfold mB at this hRM;rw [ae4,hRM,hch] at this;exact this)
  have hQ1:Hid (pc MA B (((ch.drop 0).flatMap fun c=>c.2.2.2.2.map aa)++RA)):=hid (by
   have:=hQ.out;unfold Hx at this hRA;rw [ae4,hRA,hch] at this;exact this)
  have hchl:ch.length<=40:=by rw [<- hch];exact aeM (Im cs _ n) hc.out.l
  have hcg:=hid (fun k (q:k<(ch.map (·.1)).length)=>DI q);rw [aeS] at hcg;have hcl2:((ch.map (·.1)).map AV.str).length=ch.length:=by simp
  obtain ⟨CH,hCH⟩:=aea ((ch.map (·.1)).map AV.str);rw [hCH] at hcg hcl2 kk1;replace hchm:=hid hchm;replace hRM:=hid hRM;replace hRA:=hid hRA;clear hP hQ hdr hx hch hCH;refine wk ?_;clear kk1;refine ai (fun z T' L'=>∃ (u:Nat) (A B:List (List UInt8)) (c6 c7:Option Nat) (Z:List Blk),z=ch.length - u/\u<=ch.length/\Hid (pc MU A (((ch.drop u).flatMap fun c=>c.2.2.2.1.map aa)++RM))/\Hid (pc MA B (((ch.drop u).flatMap fun c=>c.2.2.2.2.map aa)++RA))/\Hid (X.length<=Z.length)/\T'=[(30,.int .i64 (u:Int)),(29,.int .i64 ch.length),(28,.sl CH ch.length none),(22,.int .i64 (i:Int)),(21,.int .i64 ns.length),(20,.sl NS ns.length cap),(8,.sl [] 0 (some 0)),(7,.sl (B.map AV.str) B.length c7),(6,.sl (A.map AV.str) A.length c6),(2,.ptr L.length 0)]/\L'=L++(.cells [S,.sl C2 cs.length capC]::Z)) (CutS (b:=by simp)) ⟨0,A,B,c6,c7,X,rfl,aej _,hP1,hQ1,hid (aeg _),rfl,rfl⟩ ?_;clear hP1 hQ1 A B c6 c7;rintro _ _ _ ⟨u,A,B,c6,c7,Z,rfl,hu,hP,hQ,hXZ,rfl,rfl⟩;by_cases hul:u<ch.length;rotate_left
  ·have hue:u=ch.length:=by omega
   subst hue;have g3:¬ (ch.length:Int)<(ch.length:Int):=by omega
   have hP2:Hid (pc MU A (mB cs (ns.drop (i+1)))):=hid (by have:=hP.out;rw [aeC] at this;rw [hRM.out];exact this);have hQ2:Hid (pc MA B (Hx cs (ns.drop (i+1)))):=hid (by have:=hQ.out;rw [aeC] at this;rw [hRA.out];exact this);clear hP hQ hRM hRA hchm hcg;refine wk ?_;exact ag _ _ _ (by omega) (CutL (b:=by have:=hXZ.out;simp<;>omega)) ⟨i+1,A,B,c6,c7,Z,rfl,hlt,hP2,hQ2,rfl,rfl⟩
  have g3:(u:Int)<(ch.length:Int):=by omega
  have g4:=aec u (by omega);have e5:=hcg.out u hul;have e6:u<CH.length:=by omega
  obtain ⟨c,hcc⟩:=aea (ch.getD u cC);have hcm:c∈ch:=by rw [<- hcc];simp [hul]
  have hdu:ch.drop u=c::ch.drop (u+1):=by rw [aeH hul,<- hcc];simp [hul]
  have e7:(ch.map (·.1)).getD u []=c.1:=by rw [<- hcc,aew,aew];simp [hul]
  rw [e7] at e5;rw [hdu] at hP hQ;obtain ⟨hcs1,hcs2⟩:=hchm.out c hcm;have hcr:=hc.out.r c hcs1;rcases TT hc.out.d c.1 with ⟨_,a2⟩|⟨k,hk,a1,a2⟩
  ·rw [a2] at hcs2;cases hcs2
  have hck:cs.getD k cC=c:=by rw [a2] at hcs2;exact Option.some.inj hcs2
  have e8:=hg.out k hk;rw [hck] at e8;have e9:k * 5+5<=C2.length:=by omega
  have g5:(k:Int)<(cs.length:Int):=by omega
  have g6:¬ (k:Int)<0:=by omega
  obtain ⟨c1,c2,c3,c4,c5⟩:=c;simp only [clC,iI] at e8;simp only at e5 a1 hcr hP hQ;have kk1:Hid (Ctr Tryz.prog 54 [.sl C2 cs.length capC,.str c1] (.int .i64 (k:Int))):=@hid _ (by intro L K q;exact kC.out c1 hcr.1 (by rw [a1];exact q));obtain ⟨RM2,hRM2⟩:=aea (((ch.drop (u+1)).flatMap fun c=>c.2.2.2.1.map aa)++RM);obtain ⟨RA2,hRA2⟩:=aea (((ch.drop (u+1)).flatMap fun c=>c.2.2.2.2.map aa)++RA);have hP1:Hid (pc MU A ((c4.drop 0).map aa++RM2)):=hid (by
   have:=hP.out;rw [ae4,aeu,hRM2] at this;exact this)
  have hQ1:Hid (pc MA B ((c5.drop 0).map aa++RA2)):=hid (by
   have:=hQ.out;rw [ae4,aeu,hRA2] at this;exact this)
  have h4g:=hid (fun k (q:k<c4.length)=>DI q);have h5g:=hid (fun k (q:k<c5.length)=>DI q);have h4l:(c4.map AV.str).length=c4.length:=by simp
  have h5l:(c5.map AV.str).length=c5.length:=by simp
  obtain ⟨D4,hD4⟩:=aea (c4.map AV.str);obtain ⟨D5,hD5⟩:=aea (c5.map AV.str);rw [hD4] at h4g h4l e8;rw [hD5] at h5g h5l e8;replace hcr:=hid hcr;replace hRM2:=hid hRM2;replace hRA2:=hid hRA2;have hb4:=hcr.out.2.2.1;have hb5:=hcr.out.2.2.2.1;clear hP hQ hdu hcc hcm hcs1 hcs2 a1 a2 hck hD4 hD5 e7;refine wk ?_;refine ⟨⟨by omega,by omega,aS (kk1.out ⟨rfl,rfl⟩) rfl⟩,?_⟩;refine wk ?_;clear kk1;have hbx:∀ b:Blk,(L++(.cells [S,.sl C2 cs.length capC]::(Z++[b])))[L.length+(Z.length+1)]?=some b:=fun b=>by
   rw [aes (by omega),show L.length+(Z.length+1) - L.length=Z.length+1 by omega,aeN,aes (aeg _)];simp
  refine ai (fun z T' L'=>∃ (q:Nat) (A:List (List UInt8)) (c6:Option Nat),z=c4.length - q/\q<=c4.length/\Hid (pc MU A ((c4.drop q).map aa++RM2))/\T'=[(45,.int .i64 (q:Int)),(44,.int .i64 c4.length),(43,.sl D4 c4.length none),(13,.ptr (L.length+(Z.length+1)) 0),(30,.int .i64 (u:Int)),(29,.int .i64 ch.length),(28,.sl CH ch.length none),(22,.int .i64 (i:Int)),(21,.int .i64 ns.length),(20,.sl NS ns.length cap),(8,.sl [] 0 (some 0)),(7,.sl (B.map AV.str) B.length c7),(6,.sl (A.map AV.str) A.length c6),(2,.ptr L.length 0)]/\L'=L++(.cells [S,.sl C2 cs.length capC]::(Z++[.cells [.str c1,.str c2,.int .i64 c3,.sl D4 c4.length none,.sl D5 c5.length none]]))) (CutS (b:=by simp)) ⟨0,A,c6,rfl,aej _,hP1,rfl,rfl⟩ ?_;clear hP1 A c6;rintro _ _ _ ⟨q,A,c6,rfl,hq,hP,rfl,rfl⟩;by_cases hql:q<c4.length
  ·have g7:(q:Int)<(c4.length:Int):=by omega
   have g8:=aec q (by omega);have e10:=h4g.out q hql;have e11:q<D4.length:=by omega
   obtain ⟨s,hs⟩:=aea (c4.getD q []);have hdq:c4.drop q=s::c4.drop (q+1):=by rw [aeH hql,<- hs];simp [hql]
   have hsr:am s:=hcr.out.2.2.2.2.1 s (by rw [<- hs];simp [hql]);rw [hs] at e10;have hP2:=hP.out;rw [hdq,aeG,aeT] at hP2;obtain ⟨t,ht⟩:=aea (aa s);rw [ht] at hP2;have kk1:Hid (Ctr Tryz.prog 33 [.str s] (.str t)):=@hid _ (by intro L K q;exact bg hsr (by rw [ht];exact q));obtain ⟨A2,hA2⟩:=aea (oK A t);have kk2:Hid (Ctr Tryz.prog 56 [.sl (A.map AV.str) A.length c6,.str t] (.sl (A2.map AV.str) A2.length none)):=@hid _ (by intro L K q;exact Ul (by have:=hP2.2;omega) (by rw [hA2];exact q));have hP3:Hid (pc MU A2 ((c4.drop (q+1)).map aa++RM2)):=hid (by rw [<- hA2];exact hP2.step);clear hP hP2 hdq hs ht hA2 hsr;refine wk ?_;exact ag _ _ _ (by omega) (CutL (b:=by simp)) ⟨q+1,A2,none,rfl,hql,hP3,rfl,rfl⟩
  have hqe:q=c4.length:=by omega
  subst hqe;have g7:¬ (c4.length:Int)<(c4.length:Int):=by omega
  have hP2:Hid (pc MU A (((ch.drop (u+1)).flatMap fun c=>c.2.2.2.1.map aa)++RM)):=hid (by
   have:=hP.out;rw [aeC,afN,aeR] at this;rw [hRM2.out];exact this)
  clear hP;refine wk ?_;refine ai (fun z T' L'=>∃ (q:Nat) (B:List (List UInt8)) (c7:Option Nat),z=c5.length - q/\q<=c5.length/\Hid (pc MA B ((c5.drop q).map aa++RA2))/\T'=[(57,.int .i64 (q:Int)),(56,.int .i64 c5.length),(55,.sl D5 c5.length none),(13,.ptr (L.length+(Z.length+1)) 0),(30,.int .i64 (u:Int)),(29,.int .i64 ch.length),(28,.sl CH ch.length none),(22,.int .i64 (i:Int)),(21,.int .i64 ns.length),(20,.sl NS ns.length cap),(8,.sl [] 0 (some 0)),(7,.sl (B.map AV.str) B.length c7),(6,.sl (A.map AV.str) A.length c6),(2,.ptr L.length 0)]/\L'=L++(.cells [S,.sl C2 cs.length capC]::(Z++[.cells [.str c1,.str c2,.int .i64 c3,.sl D4 c4.length none,.sl D5 c5.length none]]))) (CutS (b:=by simp)) ⟨0,B,c7,rfl,aej _,hQ1,rfl,rfl⟩ ?_;clear hQ1 B c7;rintro _ _ _ ⟨q,B,c7,rfl,hq,hQ,rfl,rfl⟩;by_cases hql:q<c5.length
  ·have g7:(q:Int)<(c5.length:Int):=by omega
   have g8:=aec q (by omega);have e10:=h5g.out q hql;have e11:q<D5.length:=by omega
   obtain ⟨s,hs⟩:=aea (c5.getD q []);have hdq:c5.drop q=s::c5.drop (q+1):=by rw [aeH hql,<- hs];simp [hql]
   have hsr:am s:=hcr.out.2.2.2.2.2 s (by rw [<- hs];simp [hql]);rw [hs] at e10;have hQ2:=hQ.out;rw [hdq,aeG,aeT] at hQ2;obtain ⟨t,ht⟩:=aea (aa s);rw [ht] at hQ2;have kk1:Hid (Ctr Tryz.prog 33 [.str s] (.str t)):=@hid _ (by intro L K q;exact bg hsr (by rw [ht];exact q));obtain ⟨B2,hB2⟩:=aea (oK B t);have kk2:Hid (Ctr Tryz.prog 56 [.sl (B.map AV.str) B.length c7,.str t] (.sl (B2.map AV.str) B2.length none)):=@hid _ (by intro L K q;exact Ul (by have:=hQ2.2;omega) (by rw [hB2];exact q));have hQ3:Hid (pc MA B2 ((c5.drop (q+1)).map aa++RA2)):=hid (by rw [<- hB2];exact hQ2.step);clear hQ hQ2 hdq hs ht hB2 hsr;refine wk ?_;exact ag _ _ _ (by omega) (CutL (b:=by simp)) ⟨q+1,B2,none,rfl,hql,hQ3,rfl,rfl⟩
  have hqe:q=c5.length:=by omega
  subst hqe;have g7:¬ (c5.length:Int)<(c5.length:Int):=by omega
  have hQ2:Hid (pc MA B (((ch.drop (u+1)).flatMap fun c=>c.2.2.2.2.map aa)++RA)):=hid (by
   have:=hQ.out;rw [aeC,afN,aeR] at this;rw [hRA2.out];exact this)
  clear hQ;refine wk ?_;exact ag _ _ _ (by omega) (CutL (b:=by have:=hXZ.out;simp;omega)) ⟨u+1,A,B,c6,c7,_,rfl,hul,hP2,hQ2,hid (by have:=hXZ.out;simp only [aeF,aet,afk];omega),rfl,rfl⟩
 have hie:i=ns.length:=by omega
 subst hie;have g1:¬ (ns.length:Int)<(ns.length:Int):=by omega
 have hP2:=hP.out;rw [aeC] at hP2;have hQ2:=hQ.out;rw [aeC] at hQ2;have hAM:A=MU:=hP2.1;have hBM:B=MA:=hQ2.1;have hAl:=hP2.2;have hBl:=hQ2.2;subst hAM;subst hBM;have hbl:B.length<=1000000000000:=by omega
 have hal:A.length<=1000000000000:=by omega
 have hbg:=hid (fun k (q:k<B.length)=>DI q);have hbl2:(B.map AV.str).length=B.length:=by simp
 have hfb:(AV.sl (B.map AV.str) B.length c7).one=true:=rfl;have kH2:Hid (∀ (s:List UInt8) {L:List Blk} {K:aef},K (.bool (A.contains s)) L->aee 32 [.sl (A.map AV.str) A.length c6,.str s] L K):=hid (by intro s L K q;exact Qa hal q);have hAf:=cy A;clear hP hQ hP2 hQ2 hAl hBl hng hg kC kH;obtain ⟨DB,hDB⟩:=aea (B.map AV.str);obtain ⟨DA,hDA⟩:=aea (A.map AV.str);rw [hDB] at hbg hbl2;rw [hDA] at kH2 hAf h;rw [hDB,hDA];replace hDA:=hid hDA;clear hDB hfb;refine wk ?_;refine cz (l:=[]) (n:=0) 8 1 rfl (aeX 1).symm ?_;refine ai (fun z T' L'=>∃ (q m:Nat) (C:List AV),z=B.length - q/\q<=B.length/\m<=q/\Hid (C=((B.take q).filter fun x => !A.contains x).map AV.str/\m=((B.take q).filter fun x => !A.contains x).length)/\T'=[(70,.int .i64 (q:Int)),(69,.int .i64 B.length),(68,.sl DB B.length c7),(8,.gsl C m (L.length+(X.length+1)) 1),(6,.sl DA A.length c6)]/\L'=L++(.cells [S,.sl C2 cs.length capC]::(X++[.spare m 1]))) (CutL (b:=by simp)) ⟨0,0,[],rfl,aej _,aeg _,hid ⟨rfl,rfl⟩,rfl,by simp⟩ ?_;rintro _ _ _ ⟨q,m,C,rfl,hq,hm,hC,rfl,rfl⟩;have hsz:m * 16+16<=140737488355328:=by omega
 by_cases hql:q<B.length
 ·have g7:(q:Int)<(B.length:Int):=by omega
  have g8:=aec q (by omega);have e10:=hbg.out q hql;have e11:q<DB.length:=by omega
  obtain ⟨s,hs⟩:=aea (B.getD q []);have htk:B.take (q+1)=B.take q++[s]:=by rw [aeL hql,<- hs];simp [hql]
  rw [hs] at e10;obtain ⟨hC1,hC2⟩:=hC.out;obtain ⟨b,hb⟩:=aea (A.contains s);have kk1:Hid (Ctr Tryz.prog 32 [.sl DA A.length c6,.str s] (.bool b)):=@hid _ (by intro L K q;exact kH2.out s (by rw [hb];exact q));cases b with
  | true =>
    have hC3:Hid (C=((B.take (q+1)).filter fun x => !A.contains x).map AV.str/\m=((B.take (q+1)).filter fun x => !A.contains x).length):=hid (by
     have hs0:List.filter (fun x => !A.contains x) [s]=[]:=by rw [agr (by rw [hb];decide)];rfl
     rw [htk,agw,hs0,aeJ];exact ⟨hC1,hC2⟩)
    clear hC hC1 hC2 htk hs hb;refine wk ?_;exact ag _ _ _ (by omega) (CutL (b:=by simp)) ⟨q+1,m,C,rfl,hql,by omega,hC3,rfl,rfl⟩
  | false =>
    have hC3:Hid (C++[.str s]=((B.take (q+1)).filter fun x => !A.contains x).map AV.str/\m+1=((B.take (q+1)).filter fun x => !A.contains x).length):=hid (by
     have hs0:List.filter (fun x => !A.contains x) [s]=[s]:=by rw [ags (by rw [hb];rfl)];rfl
     rw [htk,agw,hs0,ae8,<- hC1,aeF,<- hC2];exact ⟨rfl,rfl⟩)
    clear hC hC1 hC2 htk hs hb;refine wk ?_;exact ag _ _ _ (by omega) (CutL (b:=by simp)) ⟨q+1,m+1,_,rfl,hql,by omega,hC3,rfl,rfl⟩
 ·have hqe:q=B.length:=by omega
  subst hqe;have g7:¬ (B.length:Int)<(B.length:Int):=by omega
  obtain ⟨hC1,hC2⟩:=hC.out;rw [aeE] at hC1 hC2;have hf:=hid (show Fin L (.tup [.sl DA A.length c6,.gsl C m (L.length+(X.length+1)) 1]) (L++(.cells [S,.sl C2 cs.length capC]::(X++[.spare m 1]))) K by
   refine aZ ?_;have e:(AV.tup [.sl DA A.length c6,.gsl C m (L.length+(X.length+1)) 1]).frz=.tup [.sl DA A.length none,.sl ((B.filter fun x => !A.contains x).map AV.str) (B.filter fun x => !A.contains x).length none]:=by
    rw [hC1,hC2];simp only [AV.frz,AV.frzL,cy,hAf]
   rw [e];refine ab ?_ h.out;rw [<- hDA.out];simp only [AV.refs,AV.refsL,bV,afD])
  clear hC hC1 hC2 h;refine wk ?_;exact hf.out
open Go Go.MapKept
section
variable {P:Program} {w0:World} {S0:SB} {E:Env} {L:List Blk} {w:World} {T:Tm} {a:Act} {N:Nat}
theorem ay.mem1:∀ {es:List (AV×AV×Nat)} {rs:List MapEntry} {f:MapEntry},ay E es rs->f∈rs->∃ e∈es,VR E e.1 f.key/\VR E e.2.1 f.val/\e.2.2=f.born
 | [],rs,f,h,hf=>by simp only [ay] at h;subst h;cases hf
 | (k,x,b)::es,rs,f,h,hf=>by
   obtain ⟨g,t,rfl,g1,g2,g3,g4⟩:=h;rcases aex.1 hf with rfl|hf
   ·exact ⟨_,.head _,g1,g2,g3.symm⟩
   ·obtain ⟨e,he,h1⟩:=ay.mem1 g4 hf;exact ⟨e,.tail _ he,h1⟩
theorem ay.mem2:∀ {es:List (AV×AV×Nat)} {rs:List MapEntry} {e:AV×AV×Nat},ay E es rs->e∈es->∃ f∈rs,e.2.2=f.born
 | [],rs,e,h,he=>by cases he
 | (k,x,b)::es,rs,e,h,he=>by
   obtain ⟨g,t,rfl,g1,g2,g3,g4⟩:=h;rcases aex.1 he with rfl|he
   ·exact ⟨g,.head _,g3.symm⟩
   ·obtain ⟨f,hf,h1⟩:=ay.mem2 g4 he;exact ⟨f,.tail _ hf,h1⟩
theorem R0 {t:TypeId} {v:Value} {i j ck since last:Nat} {seen:List Nat} {es:List (AV×AV×Nat)} (hR:Rel w0 S0 E L w) (hi:L[i]?=some (.miter (some j) since seen last)) (hj:L[j]?=some (.map es ck)) (hv:VR E (.ptr i 0) v)
  (hold:∀ e∈es,e.2.2<since) (hsc:since<=last) :
  ∃ r,(match r with|none=>∀ e∈es,seen.contains e.2.2=true|some e=>e∈es/\seen.contains e.2.2=false)/\cB P w0 S0 E (Sz L i j since seen ck r) (KY r) w (Instr.next v false t):=by
 simp only [VR] at hv;obtain ⟨c,hc,rfl⟩:=hv;obtain ⟨c',q,h1,h2,h3,d,h4,rfl⟩:=hR.blk i _ hi;rw [hc] at h1;cases h1;obtain ⟨d',rs,g1,g2,g3⟩:=hR.blk j _ hj;rw [h4] at g1;cases g1;have hlt:c.blk<w.heap.size:=(afl.1 h2).1;have hold':∀ x∈rs.toList,x.born<since:=fun x hx=>by
  obtain ⟨e,he,_,_,h⟩:=g3.mem1 hx;rw [<- h];exact hold e he
 rw [h3];rcases run_next_at (P:=P) w t c.blk d.blk since last ⟨seen⟩ rs ck h2 g2 hold' hsc with ⟨h0,hrun⟩|⟨f,hf,w1,hw,hrun⟩
 ·refine ⟨none,fun e he=>?_,.same hR hrun (by simp [KY,VR,VRL])⟩;obtain ⟨f,hf,hb⟩:=g3.mem2 he;rw [hb];have hz:leftOf rs ⟨seen⟩=#[]:=Array.eq_empty_of_size_eq_zero h0;unfold leftOf at hz;rw [Array.filter_eq_empty_iff] at hz;have:=hz f (by simpa using hf);simpa using this
 ·have hf':f∈rs.toList/\seen.contains f.born=false:=by
   simp only [leftOf,Array.toList_filter,afv] at hf;exact ⟨hf.1,by simpa using hf.2⟩
  obtain ⟨e,he,k1,k2,k3⟩:=g3.mem1 hf'.1;have hR1:Rel w0 S0 E L w1:=by
   rcases hw with rfl|rfl
   ·exact hR
   ·exact hR.grown ⟨fun _ _=>rfl,aeg _,rfl,rfl,rfl⟩
  have hlt1:c.blk<w1.heap.size:=by rcases hw with rfl|rfl<;>exact hlt
  have turn:=hR1.turn (w':={ w1 with heap:=w1.heap.setIfInBounds c.blk (.mapIter (some d.blk) since ((⟨seen⟩:Array Nat).push f.born) ck) }) (k':=.miter (some j) since (seen++[f.born]) ck) hi rfl hc (by simp) (fun b hb=>by simp [agz,Ne.symm hb]) rfl rfl rfl
   ⟨c,some d.blk,hc,by simp [hlt1],h3,d,h4,rfl⟩ (fun _ _ e=>by cases e)
  refine ⟨some e,⟨he,by rw [k3];exact hf'.2⟩,E,.tuple #[.bool true,f.key,f.val],_,hrun,.refl E,?_,?_⟩
  ·simp only [KY,VR,VRL];exact ⟨[.bool true,f.key,f.val],rfl,.bool true,[f.key,f.val],rfl,rfl,f.key,[f.val],rfl,k1,f.val,[],rfl,k2,rfl⟩
  ·simp only [Sz,k3];exact turn
def LOp.isNext:LOp->Bool
 | .mnext _=>true
 | _=>false
theorem V0 {own:Nat} {s d:TypeId} {x:Opd} {lo:LOp} (h:ut P own s d x=some lo):lo.isNext=false:=by
 unfold ut at h
 repeat' split at h
 all_goals (first|(cases h;rfl)|cases h)
theorem XR {op:BinOp} {t:TypeId} {x y:Operand} {lo:LOp} (h:Lf P op t x y=some lo):lo.isNext=false:=by
 unfold Lf at h
 repeat' split at h
 all_goals (first|(cases h;rfl)|cases h)
theorem RW {own:Nat} {b:Builtin} {ts:List TypeId} {xs:List Opd} {lo:LOp} (h:cP P own b ts xs=some lo):lo.isNext=false:=by
 unfold cP at h
 repeat' split at h
 all_goals (first|(cases h;rfl)|cases h|(simp only [aeI] at h;obtain ⟨_,_,rfl⟩:=h;rfl))
theorem VZ {own:Nat} {op:Op} {y:Opd} (h:gJ P own op=some (.mnext y)):∃ x,op=.next x false/\bx x=some y:=by
 cases op
 case next x isS =>
  simp only [gJ] at h;split at h
  ·simp only [aeI] at h;obtain ⟨_,_,h⟩:=h;cases h
  ·rename_i hS
   simp only [aeI,LOp.mnext.injEq] at h;obtain ⟨_,h1,rfl⟩:=h;exact ⟨x,by rw [show isS=false by simpa using hS],h1⟩
 case makeMap t r =>
  cases r with
  | some x=>simp [gJ] at h
  | none =>
    simp only [gJ] at h;split at h<;>cases h
 all_goals (exfalso;simp only [gJ] at h;try (cases h;done))
 case binOp=>have:=XR h;cases this
 case convert x=>simp only [agk] at h;obtain ⟨_,_,h⟩:=h;have:=V0 h;cases this
 case call c =>
  split at h<;>try cases h
  split at h<;>try cases h
  ·simp only [aeI] at h;obtain ⟨_,_,h⟩:=h;cases h
  ·have:=RW h;cases this
 all_goals
  repeat' split at h
  all_goals (first|cases h|(simp only [aeI] at h;obtain ⟨_,_,h⟩:=h;cases h))
theorem Xj {own:Nat->Nat->Nat} {Q:Exit->Tm->List Blk->Prop} {d t i j since last ck:Nat} {rest:List SOp} {mask:List Bool} {seen:List Nat} {es:List (AV×AV×Nat)} (hok:(okS rest && (gds rest).isEmpty)=true) (ht:ar T t=some (.ptr i 0)) (hi:L[i]?=some (.miter (some j) since seen last)) (hj:L[j]?=some (.map es ck))
  (hold:∀ e∈es,e.2.2<since) (hsc:since<=last)
  (h0:(∀ e∈es,seen.contains e.2.2=true)->SL P rest (RR mask (Q .normal)) ((d,.tup [.bool false])::T) L)
  (h1:∀ e∈es,seen.contains e.2.2=false->SL P rest (RR mask (Q .normal)) ((d,.tup [.bool true,e.1,e.2.1])::T) (L.set i (.miter (some j) since (seen++[e.2.2]) ck))) :
  AW P N own (.sreg (.op ⟨some d,.mnext (.tmp t),none⟩::rest) mask) Q T L:=fun c hc ro hro w0 S0 E a w hst=>by
 obtain ⟨id,os,rfl,hlo⟩:=Li hc;rw [aek] at hok;refine wpIn_region ?_;generalize List.range os.size=is at hlo ⊢;cases is with
 | nil=>simp [bO,SOp.flatL,SOp.flat] at hlo
 | cons i0 is =>
   simp only [SOp.flatL,SOp.flat,aeT,aeR,bO] at hlo;split at hlo<;>try cases hlo
   rename_i lo los' e1 e2
   obtain ⟨o,ho,hop,hdst,hd,hg⟩:=gu e1;simp only at hop hdst hg;rcases hg with ⟨g1,_⟩|⟨_,_,_,_,_,_,g4⟩
   ·simp only [wpOpsIn,ho];rw [if_pos (by simp [Region.wanted,g1])];have hop':gJ P (own id i0) o.op=some (.mnext (.tmp t)):=by
     rcases hq:gJ P (own id i0) o.op with _|x
     ·rw [hq] at hop;cases hop
     ·rw [hq] at hop;simp only [aeP] at hop;rw [hop]
    obtain ⟨x,hx,hlx⟩:=VZ hop';obtain ⟨hR,hT,hN,hdf⟩:=hst;have hv:=ah hlx (show evX T (.tmp t)=some (.ptr i 0) from ht) hT;obtain ⟨r,hr,E',v,w',hrun,hle,hvr,hR'⟩:=R0 (P:=P) (t:=o.type) hR hi hj hv hold hsc;have hnd:∀ c,o.op ≠ .defer c:=fun c e=>by rw [hx] at e;cases e
    refine ⟨fun _ _=>trivial,?_⟩;rw [Oper.semAt_plain _ _ _ hnd];have hex:(execOp a.eval o).run P w=.ok (.value v) w':=by
     obtain ⟨od,oop,oty,opos,oafter,oguard⟩:=o;simp only at hx hrun;subst hx;show (do pure (Next.value (<- Instr.next (a.eval x) false oty)):Sem Next).run P w=_
     simp [hrun]
    rw [hex,Oper.uponIn_value];have hst':St w0 S0 N E' (cn (some d) (KY r) T) (Sz L i j since seen ck r) (a.put o.dst v) w':=⟨hR',by rw [hdst];exact (hT.mono hle).putT (fun k hk=>by rw [hN];exact hd k (by rw [hdst];exact hk)) hvr,by rw [QF];exact hN,by rw [La];exact hdf⟩;have hfr:Fr (gds rest) (cn (some d) (KY r) T):=fun k hk=>by
     rw [List.isEmpty_iff.1 hok.2] at hk;cases hk
    have hSL:SL P rest (RR mask (Q .normal)) (cn (some d) (KY r) T) (Sz L i j since seen ck r):=by
     cases r with
     | none=>exact h0 hr
     | some e=>exact h1 e hr.1 hr.2
    refine DJ rest hok.1 e2 hst' hfr hSL fun E'' T' L' a' w'' q2 q3 q4=>⟨w0,S0,E'',sel mask T',L',.refl _ _,hle.trans q2,q3.2,q4.weak (fun t v hv=>Ib q3.1 hv) rfl fun _ _ e=>.inr e⟩
   ·cases g4
end
variable {L:List Blk} {K:aef}
set_option maxHeartbeats 8000000
set_option maxRecDepth 100000
theorem aa6 {xs:List (List UInt8)} {i:Nat} {cp:Option Nat} {rest:List AV} (hx:xs≠[]) (hn:xs.length<=1000000000000) (hL:L[i]?=some (.cells (bt xs++rest))) (h:K (.tup []) (L.set i (.cells (bt (dd xs)++rest)))) :
  aee 74 [.lsl i 0 xs.length cp 1] L K:=fun w0 S0 E w vs hR hv=>by
 simp only [VRL,VR] at hv;obtain ⟨_,_,rfl,⟨c,rc,d,hc,rfl,hd,hle,_,_⟩,rfl⟩:=hv;have hpos:0<xs.length:=afF.2 hx;have hd':d=c.off:=by have:=hd (by omega);omega
 subst hd';obtain ⟨hH,hlt⟩:=K7 hR hL hc;refine .inl ⟨kP Tryz.func74 rfl (by kernel_rfl) _ _,(Tryz.slices_Sort_string c.blk c.off rc xs w hH hlt (by omega)).mono ?_⟩;rintro e w' ⟨rfl,q,os,rfl⟩;have r1:=hR.putStrs hL hc (d:=dd xs) (by simp [dd]) q;refine ⟨E,_,_,_,rfl,.refl E,h,by simp [VR,VRL],r1.grown ?_⟩;exact ⟨fun b hb=>agU hb,by simp [Go.Sort.grow],rfl,rfl,rfl⟩
abbrev Txt:=List UInt8×Nat
def eh (p:Txt):AV×AV×Nat:=(.str p.1,.bool true,p.2)
structure Dy (xs:List Txt) (ck:Nat):Prop where
 keys:(xs.map (·.1)).Nodup
 born:(xs.map (·.2)).Nodup
 lt:∀ p∈xs,p.2<ck
theorem Dy.nil:Dy [] 0:=⟨agP,agP,fun _ h=>by cases h⟩
theorem Dy.add {xs:List Txt} {ck:Nat} (h:Dy xs ck) {t:List UInt8} (ht:t ∉ xs.map (·.1)):Dy (xs++[(t,ck)]) (ck+1):=by
 refine ⟨?_,?_,fun p hp=>?_⟩
 ·rw [ae8,ag1];exact ⟨h.keys,by simp,fun a ha b hb e=>ht (by simp at hb;rw [<- hb,<- e];exact ha)⟩
 ·rw [ae8,ag1];refine ⟨h.born,by simp,fun a ha b hb e=>?_⟩;obtain ⟨p,hp,rfl⟩:=aey.1 ha;have:=h.lt p hp;simp at hb;omega
 ·rcases aeo.1 hp with hp|hp
  ·have:=h.lt p hp;omega
  ·rw [aeO.1 hp];exact Nat.lt_succ_self _
theorem Dy.filter {xs:List Txt} {ck:Nat} (h:Dy xs ck) (q:Txt->Bool):Dy (xs.filter q) ck :=
 ⟨h.keys.sublist (List.filter_sublist.map _),h.born.sublist (List.filter_sublist.map _),fun p hp=>h.lt p (afv.1 hp).1⟩
theorem Qc:∀ {xs:List Txt} {t:List UInt8} (i:Nat),t∈xs.map (·.1)->∃ j,gY (.str t) (xs.map eh) i=some (some (i+j,.bool true))/\UE (.str t) (.bool true) (xs.map eh) j=xs.map eh/\((xs.map (·.1)).Nodup->(xs.map eh).eraseIdx j=(xs.filter fun p=>decide (p.1≠t)).map eh)
 | [],t,i,h=>by cases h
 | (s,b)::xs,t,i,h=>by
   by_cases e:t=s
   ·subst e;refine ⟨0,by simp [eh,gY,HA],by simp [eh,UE],fun hn=>?_⟩;rw [aeG,af3] at hn;have hf:xs.filter (fun p=>decide (p.1≠t))=xs:=agJ.2 fun p hp=>by
     have:p.1≠t:=fun e=>hn.1 (aey.2 ⟨p,hp,e⟩)
     simpa using this
    rw [aeG,List.eraseIdx_zero,List.tail_cons,agr (by simp),hf]
   ·have ht:t∈xs.map (·.1):=by
     rw [aeG,aex] at h;exact h.resolve_left e
    obtain ⟨j,h1,h2,h3⟩:=Qc (i+1) ht;refine ⟨j+1,?_,?_,fun hn=>?_⟩
    ·simp only [aeG,eh,gY,HA,decide_eq_false e];rw [show i+(j+1)=i+1+j by omega];exact h1
    ·simp only [aeG,eh,UE];exact congrArg _ h2
    ·rw [aeG,af3] at hn;rw [aeG,agZ,h3 hn.2,ags (by simpa using fun q=>e q.symm),aeG]
theorem NL:∀ {xs:List Txt} {t:List UInt8} (i:Nat),t ∉ xs.map (·.1)->gY (.str t) (xs.map eh) i=some none
 | [],t,i,h=>rfl
 | (s,b)::xs,t,i,h=>by
   rw [aeG,aex,not_or] at h;simp only [aeG,eh,gY,HA,decide_eq_false h.1];exact NL (i+1) h.2
theorem WZ {xs:List Txt} {p:Txt} {ck:Nat} {seen:List Nat} (hb:(xs.map (·.2)).Nodup) (hp:p∈xs):mat (xs.map eh) ck (seen++[p.2]) ck=some (.str p.1,.bool true,p.2):=by
 have key:∀ xs:List Txt,(xs.map (·.2)).Nodup->p∈xs->(xs.map eh).find? (fun e=>Nat.beq e.2.2 p.2)=some (eh p):=by
  intro xs
  induction xs with
  | nil=>intro _ h;cases h
  | cons x xs ih =>
    intro hn h;rw [aeG,af3] at hn;rcases aex.1 h with h|h
    ·subst h;simp [eh]
    ·have hne:x.2≠p.2:=fun e=>hn.1 (aey.2 ⟨p,h,e.symm⟩)
     have hbq:Nat.beq x.2 p.2=false:=by
      cases hh:Nat.beq x.2 p.2 with
      | false=>rfl
      | true=>exact absurd (Nat.eq_of_beq_eq_true hh) hne
     simp only [aeG,agl];rw [show Nat.beq (eh x).2.2 p.2=false from hbq];exact ih hn.2 h
 simp only [mat,List.getLast?_append,List.getLast?_singleton,Option.some_or,if_true];exact key xs hb hp
structure uf (xs ps:List Txt) (seen:List Nat):Prop where
 sub:∀ x∈ps,x∈xs
 nd:ps.Nodup
 eq:seen=ps.map (·.2)
theorem uf.nil {xs:List Txt}:uf xs [] []:=⟨fun _ h=>(by cases h),agP,rfl⟩
theorem uf.next {xs ps:List Txt} {seen:List Nat} (h:uf xs ps seen) {x:Txt} (hx:x∈xs) (hs:seen.contains x.2=false):uf xs (ps++[x]) (seen++[x.2]):=by
 refine ⟨fun y hy=>?_,?_,by rw [h.eq];simp⟩
 ·rcases aeo.1 hy with hy|hy
  ·exact h.sub y hy
  ·rw [aeO.1 hy];exact hx
 ·rw [ag1];refine ⟨h.nd,by simp,fun a ha b hb e=>?_⟩;rw [aeO.1 hb] at e;have:x.2∈seen:=by rw [h.eq,<- e];exact aey.2 ⟨a,ha,rfl⟩
  simp [this] at hs
theorem QO {α β:Type} {f:α->β}:∀ {l:List α},(l.map f).Nodup->∀ {a b:α},a∈l->b∈l->f a=f b->a=b
 | x::l,h,a,b,ha,hb,e=>by
   rw [aeG,af3] at h;rcases aex.1 ha with h1|h1
   ·rcases aex.1 hb with h2|h2
    ·rw [h1,h2]
    ·exact absurd (aey.2 ⟨b,h2,by rw [<- e,h1]⟩) h.1
   ·rcases aex.1 hb with h2|h2
    ·exact absurd (aey.2 ⟨a,h1,by rw [e,h2]⟩) h.1
    ·exact QO h.2 h1 h2 e
theorem uf.all {xs ps:List Txt} {seen:List Nat} {ck:Nat} (h:uf xs ps seen) (hx:Dy xs ck) (ha:∀ x∈xs,seen.contains x.2=true):ps.Perm xs:=by
 have hnd:xs.Nodup:=List.Pairwise.imp (fun {a b} hab e=>hab (congrArg (·.1) e)) (agY.1 hx.keys);refine (List.perm_ext_iff_of_nodup h.nd hnd).2 fun x=>⟨h.sub x,fun hm=>?_⟩
 have:=ha x hm;rw [afw,h.eq] at this;obtain ⟨y,hy,e⟩:=aey.1 this;rw [<- QO hx.born (h.sub y hy) hm e];exact hy
theorem uf.len {xs ps:List Txt} {seen:List Nat} (h:uf xs ps seen):ps.length<=xs.length:=by
 have:∀ (ps xs:List Txt),ps.Nodup->(∀ x∈ps,x∈xs)->ps.length<=xs.length:=fun ps=>by
  induction ps with
  | nil=>intro xs _ _;simp
  | cons a ps ih =>
    intro xs hn hs;rw [af3] at hn;have ha:=hs a (by simp);have h1:=ih (xs.erase a) hn.2 fun x hx=>(List.mem_erase_of_ne (fun e=>hn.1 (by rw [<- e];exact hx))).2 (hs x (by simp [hx]))
    have h2:=List.length_erase_of_mem ha;have h3:=List.length_pos_of_mem ha;simp only [aet];omega
 exact this ps xs h.nd h.sub
theorem adH {xs:List Txt} {seen:List Nat} {x:Txt} (hx:x∈xs) (hs:seen.contains x.2=false):(xs.filter fun r => !(seen++[x.2]).contains r.2).length<(xs.filter fun r => !seen.contains r.2).length:=by
 have e:(xs.filter fun r => !(seen++[x.2]).contains r.2)=(xs.filter fun r => !seen.contains r.2).filter (fun r=>decide (r.2≠x.2)):=by
  rw [List.filter_filter];refine List.filter_congr fun r _=>?_
  by_cases h:r.2=x.2<;>simp [h]
 rw [e];refine List.length_filter_lt_length_iff_exists.2 ⟨x,afv.2 ⟨hx,by rw [hs];rfl⟩,by simp⟩
theorem Ui {xs:List Txt} {ck i:Nat} (hx:Dy xs ck) (hn:xs.length<=1000000000000) {L:List Blk} (hL:L[i]?=some (.map (xs.map eh) ck)) {K:aef} (h:∀ l:List (List UInt8),l.Nodup->(∀ t,t∈l↔t∈xs.map (·.1))->K (.sl ((dd l).map AV.str) (dd l).length none) L) :
  aee 49 [.lmap i] L K:=by
 have hil:=(aeh.1 hL).1;have an:∀ X:List Blk,(L++X)[i]?=some (.map (xs.map eh) ck):=fun X=>by rw [aem hil];exact hL
 replace h:=hid h;replace hx:=hid hx;refine aed Lt ?_;refine ai (fun n T' L'=>∃ (seen:List Nat) (ps:List Txt) (v:AV) (Z:List Blk),n=(xs.filter fun r => !seen.contains r.2).length/\Hid (uf xs ps seen)/\Hid ((ps=[]/\v=.sl [] 0 (some 0))\/∃ m,ps≠[]/\v=.lsl (L.length+1+m) 0 ps.length none 1/\Z[m]?=some (.cells (bt (ps.map (·.1)))))/\T'=[(6,.ptr L.length 0),(3,v)]/\L'=L++(.miter (some i) ck seen ck::Z)) (CutS (b:=by simp)) ⟨[],[],_,[],rfl,hid uf.nil,hid (.inl ⟨rfl,rfl⟩),rfl,by simp⟩ ?_;rintro _ _ _ ⟨seen,ps,v,Z,rfl,hcm,hv,rfl,rfl⟩;have i1:∀ (a:Blk) (Z:List Blk),(L++(a::Z))[L.length]?=some a:=fun a Z=>by simp
 have i3:∀ (a c:Blk) (Z:List Blk),(L++(a::Z)).set L.length c=L++(c::Z):=fun a c Z=>by simp
 refine aY ?_;refine Xj (i:=L.length) (j:=i) (es:=xs.map eh) (by kernel_rfl) rfl (i1 _ _) (an _) (fun e he=>?_) (aeg _) (fun hall=>?_) (fun e he hs=>?_)
 ·obtain ⟨p,hp,rfl⟩:=aey.1 he;exact hx.out.lt p hp
 ·have hperm:=hcm.out.all hx.out fun x hm=>hall (eh x) (aey.2 ⟨x,hm,rfl⟩)
  have hnd:(ps.map (·.1)).Nodup:=(hperm.map (·.1)).nodup_iff.2 hx.out.keys;have hmm:∀ u,u∈ps.map (·.1)↔u∈xs.map (·.1):=fun u=>(hperm.map (·.1)).mem_iff
  have h':=h.out (ps.map (·.1)) hnd hmm;have hpl:ps.length<=1000000000000:=by have:=hcm.out.len;omega
  have hv':=hv.out;replace h':=hid h';clear hall hperm hnd hmm hcm hv h;refine sk ?_;rcases hv' with ⟨rfl,rfl⟩|⟨m,hne,rfl,hZ⟩
  ·have kk1:Hid (∀ {cap:Option Nat} {L:List Blk} {K:aef},K (.tup []) L->aee 74 [.sl [] 0 cap] L K):=@hid _ (by intro cap L K q;exact Uj q);refine wk ?_;refine aZ ?_;have h2:=h'.out;rw [show dd (([]:List Txt).map (·.1))=[] from List.mergeSort_nil] at h2;exact ab rfl h2
  ·have hidl:∀ (b:Blk),(L++b::Z)[L.length+1+m]?=some (.cells (bt (ps.map (·.1)))):=fun b=>by
    rw [aes (by omega),show L.length+1+m - L.length=m+1 by omega];simpa using hZ
   have hst:∀ (b d:Blk),(L++b::Z).set (L.length+1+m) d=L++b::Z.set m d:=fun b d=>by
    rw [ae5 _ _ (by omega),show L.length+1+m - L.length=m+1 by omega];rfl
   have hm:m<Z.length:=(aeh.1 hZ).1;obtain ⟨ns,hns⟩:=aea (ps.map (·.1));have hnl:ps.length=ns.length:=by rw [<- hns];simp
   have hnn:ns≠[]:=fun e=>hne (by rw [e] at hns;exact ag9.1 hns)
   rw [hns] at hidl h';rw [hnl];have hsl:(dd ns).length=ns.length:=by simp [dd]
   have kk1:Hid (∀ {K:aef},K (.tup []) (L ++ .miter (some i) ck seen ck::Z.set m (.cells (bt (dd ns))))->aee 74 [.lsl (L.length+1+m) 0 ns.length none 1] (L ++ .miter (some i) ck seen ck::Z) K):=@hid _ (by
    intro K q;refine aa6 (rest:=[]) hnn (by omega) (by rw [aeJ];exact hidl _) ?_;rw [hst,aeJ];exact q)
   obtain ⟨sr,hsr⟩:=aea (dd ns);rw [hsr] at hsl kk1 h';clear hne hst hidl hZ hns hnn hsr;refine wk ?_;refine N2 (i:=L.length+1+m) (l:=bt sr) ?_ ?_
   ·rw [aes (by omega),show L.length+1+m - L.length=m+1 by omega];simp [hm]
   rw [show (AV.lsl (L.length+1+m) 0 ns.length none 1).snap (L.length+1+m) (bt sr)=.sl (sr.map AV.str) sr.length none from by simp [AV.snap,<- hsl,aeV],ae5 _ _ (by omega)];refine ab ?_ h'.out;simp only [AV.refs,bV]
 ·obtain ⟨x,hxm,rfl⟩:=aey.1 he;clear he;have hs':seen.contains x.2=false:=hs;have hlt:=hid (adH hxm hs');have hcm':=hid (hcm.out.next hxm hs');have hmat:=WZ (ck:=ck) (seen:=seen) hx.out.born hxm;have hpl:ps.length<=1000000000000:=by have:=hcm.out.len;omega
  obtain ⟨x1,x2⟩:=x;simp only [eh] at *;clear hs hs' hcm hxm;simp only [i3];have hids:=hid (show bt ((ps++[(x1,x2)]).map (·.1))=bt (ps.map (·.1))++[.str x1] by simp);have hpsl:=hid (show (ps++[(x1,x2)]).length=ps.length+1 by simp);have hpne:=hid (show ps++[(x1,x2)]≠[] by simp);rcases hv.out with ⟨hm0,rfl⟩|⟨m,hne,rfl,hZ⟩
  ·have hids2:=hid (show bt (ps.map (·.1))=[] by rw [hm0];rfl);have hps0:=hid (show ps.length=0 by rw [hm0];rfl);clear hv hm0;refine sk ?_;refine wk ?_;refine ag _ _ _ hlt.out (CutS (b:=by simp)) ⟨_,ps++[(x1,x2)],_,Z++[.cells [.str x1]],rfl,hid hcm'.out,hid (.inr ⟨Z.length,hpne.out,?_,by rw [hids.out,hids2.out];simp⟩),rfl,by simp⟩;rw [hpsl.out,hps0.out,show L.length+(Z.length+1)=L.length+1+Z.length by omega]
  ·have hm:m<Z.length:=(aeh.1 hZ).1;have hLZ:∀ (a:Blk),(L++a::Z)[L.length+1+m]?=some (.cells (bt (ps.map (·.1)))):=fun a=>by
    rw [aes (by omega),show L.length+1+m - L.length=m+1 by omega];simpa using hZ
   have hds:∀ (a:Blk),(L++a::Z).set (L.length+1+m) .dead=L++a::Z.set m .dead:=fun a=>by
    rw [ae5 _ _ (by omega),show L.length+1+m - L.length=m+1 by omega];rfl
   obtain ⟨C,hC⟩:=aea (bt (ps.map (·.1)));obtain ⟨d,hd⟩:=aea (ps.length);have hCl:C.length=d:=by rw [<- hC,<- hd];simp
   have hCt:List.take d C=C:=aeV (by omega);have hd2:d<=1000000000000:=by omega
   rw [hC] at hLZ;rw [hd];have hC2:=hid hC;have hd3:=hid hd;clear hv hZ hC hd hpl;refine sk ?_;refine wk ?_;refine ag _ _ _ hlt.out (CutS (b:=by simp)) ⟨_,ps++[(x1,x2)],_,Z.set m .dead++[.cells (C++[.str x1])],rfl,hid hcm'.out,hid (.inr ⟨Z.length,hpne.out,?_,by rw [hids.out,hC2.out,aes (by simp)];simp⟩),rfl,by simp⟩;rw [hpsl.out,hd3.out,show L.length+(Z.length+1)=L.length+1+Z.length by omega]
end Go.Proofs.YtigifoeopopnbaaGreatDoor.Av
