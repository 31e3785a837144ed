/- Joined texts of the walk, made small by a program. -/
import Derived.Test.YtigifoeopopnbaaGreatDoorQk22
import Derived.Test.YtigifoeopopnbaaGreatDoorQk21
import Derived.Test.YtigifoeopopnbaaGreatDoorQk4
import Derived.Test.YtigifoeopopnbaaGreatDoorRows
import Derived.KernelRfl
set_option linter.unusedSimpArgs false
set_option linter.unusedVariables false
namespace Go.Proofs.YtigifoeopopnbaaGreatDoor.Av
open Go
set_option maxHeartbeats 8000000
set_option maxRecDepth 100000
def kL (M:List (List UInt8)) (xs:List Txt) (ck:Nat) (R:List (List UInt8)):Prop:=Dy xs ck/\(∀ t,(t∈xs.map (·.1)\/t∈R)↔t∈M)/\xs.length+R.length<=1000000000000
theorem kL.old {M R:List (List UInt8)} {xs:List Txt} {ck:Nat} {t:List UInt8} (h:kL M xs ck (t::R)) (ht:t∈xs.map (·.1)):kL M xs ck R:=by
 obtain ⟨h1,h2,h3⟩:=h;simp only [aet] at h3;refine ⟨h1,fun u=>?_,by omega⟩;rw [<- h2 u,aex];exact ⟨fun e=>e.elim .inl fun e=>.inr (.inr e),fun e=>e.elim .inl fun e=>e.elim (fun e=>.inl (by rw [e];exact ht)) .inr⟩
theorem kL.new {M R:List (List UInt8)} {xs:List Txt} {ck:Nat} {t:List UInt8} (h:kL M xs ck (t::R)) (ht:t ∉ xs.map (·.1)):kL M (xs++[(t,ck)]) (ck+1) R:=by
 obtain ⟨h1,h2,h3⟩:=h;simp only [aet] at h3;refine ⟨h1.add ht,fun u=>?_,by simp only [aeF,aet,afk];omega⟩;rw [<- h2 u,aex,ae8,aeo];simp only [aeG,afN,aeO];exact ⟨fun e=>e.elim (fun e=>e.elim .inl fun e=>.inr (.inl e)) fun e=>.inr (.inr e),fun e=>e.elim (fun e=>.inl (.inl e)) fun e=>e.elim (fun e=>.inl (.inr e)) .inr⟩
theorem aaX {cs:List Cls} {capC:Option Nat} {t2:List AV} {n2:Nat} {cap2:Option Nat} {ns:List (List UInt8)} {cap:Option Nat} (hc:ue cs) (hl:ns.length<=9000) (hn:∀ n∈ns,am n) {L:List Blk} {K:aef}
  (h:K (.tup [.sl ((gl cs ns).map AV.str) (gl cs ns).length none,.sl ((oL cs ns).map AV.str) (oL cs ns).length none]) L) :
  aee 24 [.agg [.sl t2 n2 cap2,.sl (bE cs) cs.length capC],.sl (ns.map AV.str) ns.length cap] L K:=by
 obtain ⟨S,hS⟩:=aea (AV.sl t2 n2 cap2);have kC:Hid (∀ (m:List UInt8),am m->∀ {L:List Blk} {K:aef},K (KZ (fH cs m)) L->aee 47 [.agg [S,.sl (bE cs) cs.length capC],.str m] L K):=hid (by intro m hm L K q;rw [<- hS];exact TO hc hm q);have kH:Hid (∀ (m:List UInt8),am m->∀ {L:List Blk} {K:aef},K (.sl ((chN cs m).map AV.str) (chN cs m).length none) L->aee 48 [.agg [S,.sl (bE cs) cs.length capC],.str m] L K):=hid (by intro m hm L K q;rw [<- hS];exact W8 hc hm q);rw [hS];obtain ⟨C2,hC2⟩:=aea (bE cs);rw [hC2] at kC kH ⊢;have hng:=hid (fun k (q:k<ns.length)=>DI q);have hnl:(ns.map AV.str).length=ns.length:=by simp
 obtain ⟨NS,hNS⟩:=aea (ns.map AV.str);rw [hNS] at hng hnl ⊢;have hml:=If hc hl;have hP0:Hid (kL (mB cs ns) [] 0 (mB cs (ns.drop 0))):=hid ⟨.nil,by simp,by simp;exact hml.1⟩;have hQ0:Hid (kL (Hx cs ns) [] 0 (Hx cs (ns.drop 0))):=hid ⟨.nil,by simp,by simp;exact hml.2⟩;have hso:S.one=true:=by rw [<- hS];rfl
 replace h:=hid h;replace hc:=hid hc;replace hn:=hid hn;obtain ⟨MU,hMU⟩:=aea (mB cs ns);obtain ⟨MA,hMA⟩:=aea (Hx cs ns);rw [hMU] at hP0;rw [hMA] at hQ0;replace hMU:=hid hMU;replace hMA:=hid hMA;clear hS hC2 hNS hml;refine aed NQ ?_;refine ai (fun z T' L'=>∃ (i:Nat) (A B:List Txt) (a b:Nat) (X:List Blk),z=ns.length - i/\i<=ns.length/\Hid (kL MU A a (mB cs (ns.drop i)))/\Hid (kL MA B b (Hx cs (ns.drop i)))/\T'=[(23,.int .i64 (i:Int)),(22,.int .i64 ns.length),(21,.sl NS ns.length cap),(7,.lmap (L.length+2)),(6,.lmap (L.length+1)),(2,.ptr L.length 0)]/\L'=L++(.cells [S,.sl C2 cs.length capC] :: .map (A.map eh) a :: .map (B.map eh) b::X)) (CutS (b:=by simp)) ⟨0,[],[],0,0,[],rfl,aej _,hP0,hQ0,rfl,by simp⟩ ?_;clear hP0 hQ0;rintro _ _ _ ⟨i,A,B,a,b,X,rfl,hi,hP,hQ,rfl,rfl⟩;by_cases hlt:i<ns.length
 ·have g1:(i:Int)<(ns.length:Int):=by omega
  have g2:=aec i (by omega);have e3:=hng.out i hlt;have e4:i<NS.length:=by omega
  obtain ⟨n,hx⟩:=aea (ns.getD i []);have hnr:am n:=hn.out n (by rw [<- hx];simp [hlt]);have hdr:ns.drop i=n::ns.drop (i+1):=by rw [aeH hlt,<- hx];simp [hlt]
  rw [hx] at e3;rw [hdr] at hP hQ;obtain ⟨ch,hch⟩:=aea (mH cs n);have hchm:∀ c∈ch,c∈cs/\fH cs c.1=some c:=fun c hcm=>Qg hc.out.d (by rw [hch];exact hcm)
  obtain ⟨RM,hRM⟩:=aea (mB cs (ns.drop (i+1)));obtain ⟨RA,hRA⟩:=aea (Hx cs (ns.drop (i+1)));have kk1:Hid (Ctr Tryz.prog 48 [.agg [S,.sl C2 cs.length capC],.str n] (.sl ((ch.map (·.1)).map AV.str) ch.length none)):=@hid _ (by
   intro L K q;refine kH.out n hnr ?_;unfold chN;rw [hch,aeS];exact q)
  have hP1:Hid (kL MU A a (((ch.drop 0).flatMap fun c=>c.2.2.2.1.map aa)++RM)):=hid (by
   have:=hP.out;unfold mB at this hRM;rw [ae4,hRM,hch] at this;exact this)
  have hQ1:Hid (kL MA B b (((ch.drop 0).flatMap fun c=>c.2.2.2.2.map aa)++RA)):=hid (by
   have:=hQ.out;unfold Hx at this hRA;rw [ae4,hRA,hch] at this;exact this)
  have hchl:ch.length<=40:=by rw [<- hch];exact aeM (Im cs _ n) hc.out.l
  have hcg:=hid (fun k (q:k<(ch.map (·.1)).length)=>DI q);rw [aeS] at hcg;have hcl2:((ch.map (·.1)).map AV.str).length=ch.length:=by simp
  obtain ⟨CH,hCH⟩:=aea ((ch.map (·.1)).map AV.str);rw [hCH] at hcg hcl2 kk1;replace hchm:=hid hchm;replace hRM:=hid hRM;replace hRA:=hid hRA;clear hP hQ hdr hx hch hCH;refine wk ?_;clear kk1;refine ai (fun z T' L'=>∃ (u:Nat) (A B:List Txt) (a b:Nat) (Z:List Blk),z=ch.length - u/\u<=ch.length/\Hid (kL MU A a (((ch.drop u).flatMap fun c=>c.2.2.2.1.map aa)++RM))/\Hid (kL MA B b (((ch.drop u).flatMap fun c=>c.2.2.2.2.map aa)++RA))/\Hid (X.length<=Z.length)/\T'=[(31,.int .i64 (u:Int)),(30,.int .i64 ch.length),(29,.sl CH ch.length none),(23,.int .i64 (i:Int)),(22,.int .i64 ns.length),(21,.sl NS ns.length cap),(7,.lmap (L.length+2)),(6,.lmap (L.length+1)),(2,.ptr L.length 0)]/\L'=L++(.cells [S,.sl C2 cs.length capC] :: .map (A.map eh) a :: .map (B.map eh) b::Z)) (CutS (b:=by simp)) ⟨0,A,B,a,b,X,rfl,aej _,hP1,hQ1,hid (aeg _),rfl,rfl⟩ ?_;clear hP1 hQ1;rintro _ _ _ ⟨u,A,B,a,b,Z,rfl,hu,hP,hQ,hXZ,rfl,rfl⟩;by_cases hul:u<ch.length;rotate_left
  ·have hue:u=ch.length:=by omega
   subst hue;have g3:¬ (ch.length:Int)<(ch.length:Int):=by omega
   have hP2:Hid (kL MU A a (mB cs (ns.drop (i+1)))):=hid (by have:=hP.out;rw [aeC] at this;rw [hRM.out];exact this);have hQ2:Hid (kL MA B b (Hx cs (ns.drop (i+1)))):=hid (by have:=hQ.out;rw [aeC] at this;rw [hRA.out];exact this);clear hP hQ hRM hRA hchm hcg;refine wk ?_;exact ag _ _ _ (by omega) (CutL (b:=by have:=hXZ.out;simp<;>omega)) ⟨i+1,A,B,a,b,Z,rfl,hlt,hP2,hQ2,rfl,rfl⟩
  have g3:(u:Int)<(ch.length:Int):=by omega
  have g4:=aec u (by omega);have e5:=hcg.out u hul;have e6:u<CH.length:=by omega
  obtain ⟨c,hcc⟩:=aea (ch.getD u cC);have hcm:c∈ch:=by rw [<- hcc];simp [hul]
  have hdu:ch.drop u=c::ch.drop (u+1):=by rw [aeH hul,<- hcc];simp [hul]
  have e7:(ch.map (·.1)).getD u []=c.1:=by rw [<- hcc,aew,aew];simp [hul]
  rw [e7] at e5;rw [hdu] at hP hQ;obtain ⟨hcs1,hcs2⟩:=hchm.out c hcm;have hcr:=hc.out.r c hcs1;obtain ⟨c1,c2,c3,c4,c5⟩:=c;simp only at e5 hcr hP hQ hcs2;have kk1:Hid (Ctr Tryz.prog 47 [.agg [S,.sl C2 cs.length capC],.str c1] (.tup [.agg [.str c1,.str c2,.int .i64 c3,.sl (c4.map AV.str) c4.length none,.sl (c5.map AV.str) c5.length none],.bool true])):=@hid _ (by intro L K q;exact kC.out c1 hcr.1 (by rw [hcs2];exact q));obtain ⟨RM2,hRM2⟩:=aea (((ch.drop (u+1)).flatMap fun c=>c.2.2.2.1.map aa)++RM);obtain ⟨RA2,hRA2⟩:=aea (((ch.drop (u+1)).flatMap fun c=>c.2.2.2.2.map aa)++RA);have hP1:Hid (kL MU A a ((c4.drop 0).map aa++RM2)):=hid (by
   have:=hP.out;rw [ae4,aeu,hRM2] at this;exact this)
  have hQ1:Hid (kL MA B b ((c5.drop 0).map aa++RA2)):=hid (by
   have:=hQ.out;rw [ae4,aeu,hRA2] at this;exact this)
  have h4g:=hid (fun k (q:k<c4.length)=>DI q);have h5g:=hid (fun k (q:k<c5.length)=>DI q);have h4l:(c4.map AV.str).length=c4.length:=by simp
  have h5l:(c5.map AV.str).length=c5.length:=by simp
  obtain ⟨D4,hD4⟩:=aea (c4.map AV.str);obtain ⟨D5,hD5⟩:=aea (c5.map AV.str);rw [hD4] at h4g h4l kk1;rw [hD5] at h5g h5l kk1;replace hcr:=hid hcr;replace hRM2:=hid hRM2;replace hRA2:=hid hRA2;have hb4:=hcr.out.2.2.1;have hb5:=hcr.out.2.2.2.1;clear hP hQ hdu hcc hcm hcs1 hcs2 hD4 hD5 e7;refine wk ?_;clear kk1;have hb1:∀ (a b c:Blk) (Y:List Blk),(L++(a::b::c::Y))[L.length+1]?=some b:=fun a b c Y=>by rw [aes (by omega)];simp
  have hb2:∀ (a b c:Blk) (Y:List Blk),(L++(a::b::c::Y))[L.length+2]?=some c:=fun a b c Y=>by rw [aes (by omega)];simp
  have hs1:∀ (a b c d:Blk) (Y:List Blk),(L++(a::b::c::Y)).set (L.length+1) d=L++(a::d::c::Y):=fun a b c d Y=>by rw [ae5 _ _ (by omega),show L.length+1 - L.length=1 by omega];rfl
  have hs2:∀ (a b c d:Blk) (Y:List Blk),(L++(a::b::c::Y)).set (L.length+2) d=L++(a::b::d::Y):=fun a b c d Y=>by rw [ae5 _ _ (by omega),show L.length+2 - L.length=2 by omega];rfl
  have hbx:∀ (a b c:Blk) (k:Blk),(L++(a::b::c::(Z++[k])))[L.length+(Z.length+1+1+1)]?=some k:=fun a b c k=>by
   rw [aes (by omega),show L.length+(Z.length+1+1+1) - L.length=Z.length+1+1+1 by omega,aeN,aeN,aeN,aes (aeg _)];simp
  refine ai (fun z T' L'=>∃ (q:Nat) (A:List Txt) (a:Nat),z=c4.length - q/\q<=c4.length/\Hid (kL MU A a ((c4.drop q).map aa++RM2))/\T'=[(45,.int .i64 (q:Int)),(44,.int .i64 c4.length),(43,.sl D4 c4.length none),(12,.ptr (L.length+(Z.length+1+1+1)) 0),(31,.int .i64 (u:Int)),(30,.int .i64 ch.length),(29,.sl CH ch.length none),(23,.int .i64 (i:Int)),(22,.int .i64 ns.length),(21,.sl NS ns.length cap),(7,.lmap (L.length+2)),(6,.lmap (L.length+1)),(2,.ptr L.length 0)]/\L'=L++(.cells [S,.sl C2 cs.length capC] :: .map (A.map eh) a :: .map (B.map eh) b::(Z++[.cells [.str c1,.str c2,.int .i64 c3,.sl D4 c4.length none,.sl D5 c5.length none]]))) (CutS (b:=by simp)) ⟨0,A,a,rfl,aej _,hP1,rfl,rfl⟩ ?_;clear hP1;rintro _ _ _ ⟨q,A,a,rfl,hq,hP,rfl,rfl⟩;by_cases hql:q<c4.length
  ·have g7:(q:Int)<(c4.length:Int):=by omega
   have g8:=aec q (by omega);have e10:=h4g.out q hql;have e11:q<D4.length:=by omega
   obtain ⟨s,hs⟩:=aea (c4.getD q []);have hdq:c4.drop q=s::c4.drop (q+1):=by rw [aeH hql,<- hs];simp [hql]
   have hsr:am s:=hcr.out.2.2.2.2.1 s (by rw [<- hs];simp [hql]);rw [hs] at e10;have hP2:=hP.out;rw [hdq,aeG,aeT] at hP2;obtain ⟨t,ht⟩:=aea (aa s);rw [ht] at hP2;have kk1:Hid (Ctr Tryz.prog 25 [.str s] (.str t)):=@hid _ (by intro L K q;exact gN hsr (by rw [ht];exact q));by_cases hin:t∈A.map (·.1)
   ·obtain ⟨j,f1,f2,_⟩:=Qc (xs:=A) (t:=t) 0 hin;rw [afJ] at f1;have hP3:Hid (kL MU A a ((c4.drop (q+1)).map aa++RM2)):=hid (hP2.old hin);clear hP hP2 hdq hs ht hsr hin;refine wk ?_;exact ag _ _ _ (by omega) (CutL (b:=by simp)) ⟨q+1,A,a,rfl,hql,hP3,rfl,rfl⟩
   ·have f1:=NL (xs:=A) (t:=t) 0 hin;have f2:∀ n:Nat,A.map eh++[(AV.str t,AV.bool true,n)]=(A++[(t,n)]).map eh:=fun n=>by rw [ae8];rfl
    have hP3:Hid (kL MU (A++[(t,a)]) (a+1) ((c4.drop (q+1)).map aa++RM2)):=hid (hP2.new hin);clear hP hP2 hdq hs ht hsr hin;refine wk ?_;exact ag _ _ _ (by omega) (CutL (b:=by simp)) ⟨q+1,A++[(t,a)],a+1,rfl,hql,hP3,rfl,rfl⟩
  have hqe:q=c4.length:=by omega
  subst hqe;have g7:¬ (c4.length:Int)<(c4.length:Int):=by omega
  have hP2:Hid (kL MU A a (((ch.drop (u+1)).flatMap fun c=>c.2.2.2.1.map aa)++RM)):=hid (by
   have:=hP.out;rw [aeC,afN,aeR] at this;rw [hRM2.out];exact this)
  clear hP;refine wk ?_;refine ai (fun z T' L'=>∃ (q:Nat) (B:List Txt) (b:Nat),z=c5.length - q/\q<=c5.length/\Hid (kL MA B b ((c5.drop q).map aa++RA2))/\T'=[(56,.int .i64 (q:Int)),(55,.int .i64 c5.length),(54,.sl D5 c5.length none),(12,.ptr (L.length+(Z.length+1+1+1)) 0),(31,.int .i64 (u:Int)),(30,.int .i64 ch.length),(29,.sl CH ch.length none),(23,.int .i64 (i:Int)),(22,.int .i64 ns.length),(21,.sl NS ns.length cap),(7,.lmap (L.length+2)),(6,.lmap (L.length+1)),(2,.ptr L.length 0)]/\L'=L++(.cells [S,.sl C2 cs.length capC] :: .map (A.map eh) a :: .map (B.map eh) b::(Z++[.cells [.str c1,.str c2,.int .i64 c3,.sl D4 c4.length none,.sl D5 c5.length none]]))) (CutS (b:=by simp)) ⟨0,B,b,rfl,aej _,hQ1,rfl,rfl⟩ ?_;clear hQ1;rintro _ _ _ ⟨q,B,b,rfl,hq,hQ,rfl,rfl⟩;by_cases hql:q<c5.length
  ·have g7:(q:Int)<(c5.length:Int):=by omega
   have g8:=aec q (by omega);have e10:=h5g.out q hql;have e11:q<D5.length:=by omega
   obtain ⟨s,hs⟩:=aea (c5.getD q []);have hdq:c5.drop q=s::c5.drop (q+1):=by rw [aeH hql,<- hs];simp [hql]
   have hsr:am s:=hcr.out.2.2.2.2.2 s (by rw [<- hs];simp [hql]);rw [hs] at e10;have hP2:=hQ.out;rw [hdq,aeG,aeT] at hP2;obtain ⟨t,ht⟩:=aea (aa s);rw [ht] at hP2;have kk1:Hid (Ctr Tryz.prog 25 [.str s] (.str t)):=@hid _ (by intro L K q;exact gN hsr (by rw [ht];exact q));by_cases hin:t∈B.map (·.1)
   ·obtain ⟨j,f1,f2,_⟩:=Qc (xs:=B) (t:=t) 0 hin;rw [afJ] at f1;have hP3:Hid (kL MA B b ((c5.drop (q+1)).map aa++RA2)):=hid (hP2.old hin);clear hQ hP2 hdq hs ht hsr hin;refine wk ?_;exact ag _ _ _ (by omega) (CutL (b:=by simp)) ⟨q+1,B,b,rfl,hql,hP3,rfl,rfl⟩
   ·have f1:=NL (xs:=B) (t:=t) 0 hin;have f2:∀ n:Nat,B.map eh++[(AV.str t,AV.bool true,n)]=(B++[(t,n)]).map eh:=fun n=>by rw [ae8];rfl
    have hP3:Hid (kL MA (B++[(t,b)]) (b+1) ((c5.drop (q+1)).map aa++RA2)):=hid (hP2.new hin);clear hQ hP2 hdq hs ht hsr hin;refine wk ?_;exact ag _ _ _ (by omega) (CutL (b:=by simp)) ⟨q+1,B++[(t,b)],b+1,rfl,hql,hP3,rfl,rfl⟩
  have hqe:q=c5.length:=by omega
  subst hqe;have g7:¬ (c5.length:Int)<(c5.length:Int):=by omega
  have hQ2:Hid (kL MA B b (((ch.drop (u+1)).flatMap fun c=>c.2.2.2.2.map aa)++RA)):=hid (by
   have:=hQ.out;rw [aeC,afN,aeR] at this;rw [hRA2.out];exact this)
  clear hQ;refine wk ?_;exact ag _ _ _ (by omega) (CutL (b:=by have:=hXZ.out;simp;omega)) ⟨u+1,A,B,a,b,_,rfl,hul,hP2,hQ2,hid (by have:=hXZ.out;simp only [aeF,aet,afk];omega),rfl,rfl⟩
 have hie:i=ns.length:=by omega
 subst hie;have g1:¬ (ns.length:Int)<(ns.length:Int):=by omega
 obtain ⟨hA,hAm,hAl⟩:=hP.out;obtain ⟨hB,hBm,hBl⟩:=hQ.out;rw [aeC] at hAm hBm hAl hBl;have hAm2:∀ t,t∈A.map (·.1)↔t∈MU:=fun t=>by rw [<- hAm t];exact ⟨.inl,fun e=>e.elim id fun e=>by cases e⟩
 have hBm2:∀ t,t∈B.map (·.1)↔t∈MA:=fun t=>by rw [<- hBm t];exact ⟨.inl,fun e=>e.elim id fun e=>by cases e⟩
 replace hA:=hid hA;replace hB:=hid hB;replace hAm2:=hid hAm2;replace hBm2:=hid hBm2;have hAn:A.length<=1000000000000:=by omega
 have hBn:B.length<=1000000000000:=by omega
 have hb1:∀ (a b c:Blk) (Y:List Blk),(L++(a::b::c::Y))[L.length+1]?=some b:=fun a b c Y=>by rw [aes (by omega)];simp
 have hb2:∀ (a b c:Blk) (Y:List Blk),(L++(a::b::c::Y))[L.length+2]?=some c:=fun a b c Y=>by rw [aes (by omega)];simp
 have hs2:∀ (a b c d:Blk) (Y:List Blk),(L++(a::b::c::Y)).set (L.length+2) d=L++(a::b::d::Y):=fun a b c d Y=>by rw [ae5 _ _ (by omega),show L.length+2 - L.length=2 by omega];rfl
 have hbx:∀ (a b c:Blk) (k:Blk),(L++(a::b::c::(X++[k])))[L.length+(X.length+1+1+1)]?=some k:=fun a b c k=>by
  rw [aes (by omega),show L.length+(X.length+1+1+1) - L.length=X.length+1+1+1 by omega,aeN,aeN,aeN,aes (aeg _)];simp
 have hsx:∀ (a b c:Blk) (k k':Blk),(L++(a::b::c::(X++[k]))).set (L.length+(X.length+1+1+1)) k'=L++(a::b::c::(X++[k'])):=fun a b c k k'=>by
  rw [ae5 _ _ (by omega),show L.length+(X.length+1+1+1) - L.length=X.length+1+1+1 by omega,afX,afX,afX,ae5 _ _ (aeg _)];simp
 clear hP hQ hAm hBm hAl hBl kC kH hng;refine wk ?_;refine ai (fun n T' L'=>∃ (seen:List Nat) (ps ys:List Txt),n=(A.filter fun r => !seen.contains r.2).length/\Hid (uf A ps seen)/\Hid (ys=B.filter fun p => !(ps.map (·.1)).contains p.1)/\T'=[(67,.ptr (L.length+(X.length+1+1+1)) 0),(7,.lmap (L.length+2)),(6,.lmap (L.length+1))]/\L'=L++(.cells [S,.sl C2 cs.length capC] :: .map (A.map eh) a :: .map (ys.map eh) b::(X++[.miter (some (L.length+1)) a seen a]))) (CutL (b:=by simp)) ⟨[],[],B,rfl,hid uf.nil,hid (agJ.2 fun _ _=>rfl).symm,rfl,by simp⟩ ?_;rintro _ _ _ ⟨seen,ps,ys,rfl,hcm,hys,rfl,rfl⟩;refine aY ?_;refine Xj (i:=L.length+(X.length+1+1+1)) (j:=L.length+1) (es:=A.map eh) (by kernel_rfl) rfl (hbx _ _ _ _) (hb1 _ _ _ _) (fun e he=>?_) (aeg _) (fun hall=>?_) (fun e he hs=>?_)
 ·obtain ⟨p,hp,rfl⟩:=aey.1 he;exact hA.out.lt p hp
 ·have hperm:=hcm.out.all hA.out fun x hm=>hall (eh x) (aey.2 ⟨x,hm,rfl⟩)
  have hpm:∀ u,u∈ps.map (·.1)↔u∈A.map (·.1):=fun u=>(hperm.map (·.1)).mem_iff
  have hyo:Dy ys b:=by rw [hys.out];exact hB.out.filter _
  have hyl:ys.length<=1000000000000:=by rw [hys.out];exact aeM (agK _ _) hBn
  have hym:∀ u,u∈ys.map (·.1)↔u∈MA/\u ∉ MU:=fun u=>by
   rw [hys.out,<- hBm2.out u,<- hAm2.out u,<- hpm u];simp only [aey,afv,ae2,afj,decide_eq_false_iff_not];constructor
   ·rintro ⟨p,⟨h1,h2⟩,rfl⟩;exact ⟨⟨p,h1,rfl⟩,h2⟩
   ·rintro ⟨⟨p,h1,rfl⟩,h2⟩;exact ⟨p,⟨h1,h2⟩,rfl⟩
  have kk1:Hid (∀ {K:aef},K (.sl ((gl cs ns).map AV.str) (gl cs ns).length none) (L++(.cells [S,.sl C2 cs.length capC] :: .map (A.map eh) a :: .map (ys.map eh) b::(X++[.miter (some (L.length+1)) a seen a])))->aee 49 [.lmap (L.length+1)] (L++(.cells [S,.sl C2 cs.length capC] :: .map (A.map eh) a :: .map (ys.map eh) b::(X++[.miter (some (L.length+1)) a seen a]))) K):=@hid _ (by
   intro K q;refine Ui hA.out hAn (hb1 _ _ _ _) fun l h1 h2=>?_
   have e:dd l=gl cs ns:=YU h1 fun u=>by rw [h2 u,hAm2.out u,hMU.out]
   rw [e];exact q)
  have kk2:Hid (∀ {K:aef},K (.sl ((oL cs ns).map AV.str) (oL cs ns).length none) (L++(.cells [S,.sl C2 cs.length capC] :: .map (A.map eh) a :: .map (ys.map eh) b::(X++[.miter (some (L.length+1)) a seen a])))->aee 49 [.lmap (L.length+2)] (L++(.cells [S,.sl C2 cs.length capC] :: .map (A.map eh) a :: .map (ys.map eh) b::(X++[.miter (some (L.length+1)) a seen a]))) K):=@hid _ (by
   intro K q;refine Ui hyo hyl (hb2 _ _ _ _) fun l h1 h2=>?_
   have e:dd l=oL cs ns:=YV h1 fun u=>by rw [h2 u,hym u,hMU.out,hMA.out]
   rw [e];exact q)
  obtain ⟨R1,hR1⟩:=aea ((gl cs ns).map AV.str);obtain ⟨R2,hR2⟩:=aea ((oL cs ns).map AV.str);rw [hR1] at kk1 h;rw [hR2] at kk2 h;have hr1:∀ q:Nat->Bool,AV.refsL q R1=true:=fun q=>by rw [<- hR1];exact bV _ _
  have hr2:∀ q:Nat->Bool,AV.refsL q R2=true:=fun q=>by rw [<- hR2];exact bV _ _
  replace hr1:=hid hr1;replace hr2:=hid hr2;clear hall hperm hpm hyo hyl hym hcm hys hR1 hR2 hA hB hAm2 hBm2 hMU hMA;refine sk ?_;refine wk ?_;refine ab ?_ h.out;simp only [AV.refs,AV.refsL,hr1.out,hr2.out,afD]
 ·obtain ⟨x,hxm,rfl⟩:=aey.1 he;clear he;have hs':seen.contains x.2=false:=hs;have hlt:=hid (adH hxm hs');have hcm':=hid (hcm.out.next hxm hs');have hmat:=WZ (ck:=a) (seen:=seen) hA.out.born hxm;have hyk:(ys.map (·.1)).Nodup:=by rw [hys.out];exact (hB.out.filter _).keys
  obtain ⟨x1,x2⟩:=x;have hys2:Hid (ys.filter (fun p=>decide (p.1≠x1))=B.filter fun p => !((ps++[(x1,x2)]).map (·.1)).contains p.1):=hid (by
   rw [hys.out,List.filter_filter];refine List.filter_congr fun p _=>?_
   simp only [ae8,aeG,afN,afj,aeo,aeO];by_cases c1:p.1=x1<;>by_cases c2:p.1∈ps.map (·.1)<;>simp [c1,c2])
  simp only [eh] at *;clear hs hs' hcm hxm;simp only [hsx];by_cases hin:x1∈ys.map (·.1)
  ·obtain ⟨j,f1,_,f3⟩:=Qc (xs:=ys) (t:=x1) 0 hin;rw [afJ] at f1;have f4:=f3 hyk;clear f3 hyk hys hin;refine sk ?_;refine wk ?_;exact ag _ _ _ hlt.out (CutL (b:=by simp)) ⟨_,ps++[(x1,x2)],_,rfl,hid hcm'.out,hys2,rfl,rfl⟩
  ·have f1:=NL (xs:=ys) (t:=x1) 0 hin;have f4:ys.filter (fun p=>decide (p.1≠x1))=ys:=agJ.2 fun p hp=>by
    have:p.1≠x1:=fun e=>hin (aey.2 ⟨p,hp,e⟩)
    simpa using this
   rw [f4] at hys2;clear f4 hyk hys hin;refine sk ?_;refine wk ?_;exact ag _ _ _ hlt.out (CutL (b:=by simp)) ⟨_,ps++[(x1,x2)],_,rfl,hid hcm'.out,hys2,rfl,rfl⟩
variable {L:List Blk} {K:aef}
def RZ (o:Option (List UInt8)):AV:=.tup [.str (o.getD []),.bool o.isSome]
theorem ZK {cs:List Cls} {capC:Option Nat} {t2:List AV} {n2:Nat} {cap2:Option Nat} {ns:List (List UInt8)} {cap:Option Nat} (hc:ue cs) (hl:ns.length<=9000) (hn:∀ n∈ns,am n) (h:K (RZ (Lh cs ns)) L) :
  aee 23 [.agg [.sl t2 n2 cap2,.sl (bE cs) cs.length capC],.sl (ns.map AV.str) ns.length cap] L K:=by
 obtain ⟨S,hS⟩:=aea (AV.sl t2 n2 cap2);have kC:Hid (∀ (m:List UInt8),am m->∀ {L:List Blk} {K:aef},K (KZ (fH cs m)) L->aee 47 [.agg [S,.sl (bE cs) cs.length capC],.str m] L K):=hid (by intro m hm L K q;rw [<- hS];exact TO hc hm q);have kH:Hid (∀ (m:List UInt8),am m->∀ {L:List Blk} {K:aef},K (.sl ((chN cs m).map AV.str) (chN cs m).length none) L->aee 48 [.agg [S,.sl (bE cs) cs.length capC],.str m] L K):=hid (by intro m hm L K q;rw [<- hS];exact W8 hc hm q);rw [hS];obtain ⟨C2,hC2⟩:=aea (bE cs);rw [hC2] at kC kH ⊢;have hng:=hid (fun k (q:k<ns.length)=>DI q);have hnl:(ns.map AV.str).length=ns.length:=by simp
 obtain ⟨NS,hNS⟩:=aea (ns.map AV.str);rw [hNS] at hng hnl ⊢;have hso:S.one=true:=by rw [<- hS];rfl
 replace h:=hid h;replace hc:=hid hc;replace hn:=hid hn;clear hS hC2 hNS;refine af Ot (by simp [oP]) ?_;simp only [oP,aq]
 iterate 8 first
  | refine aY ?_
  | (first|refine aO (by kernel_rfl) ?_|refine aA (by kernel_rfl) ?_|refine aB ?_|refine bw ?_|refine a6 (fun _=>?_)|refine ax ?_|refine aR ?_)
    simp (config:={ maxSteps:=2000000 }) only [Kon,push_cast,reduceIte,Nat.reduceEqDiff,Nat.reduceAdd,Nat.reduceMul,Nat.reduceSub,Nat.reduceLT,Nat.reduceLeDiff,Int.reduceLT,Int.reduceLE,Int.reduceAdd,Int.reduceSub,Int.reduceNeg,Int.reduceToNat,Int.reduceEq,reduceCtorEq, *]
  | (first|refine aK (by kernel_rfl) ?_|refine aP ?_|refine H5 ?_|refine aQ ?_|refine bd (aw ?_))
    simp only [push_cast,reduceIte,Nat.reduceEqDiff,Nat.reduceAdd,Nat.reduceMul,Nat.reduceSub,Nat.reduceLT,Nat.reduceLeDiff,Int.reduceLT,Int.reduceLE,Int.reduceAdd,Int.reduceSub,Int.reduceNeg,Int.reduceToNat,Int.reduceEq,reduceCtorEq, *]
  | exact a7
  | first|apply a8|apply aL|apply ba|apply aM|apply bc|apply aN
  | refine aE ?_
  | refine H4 ?_
  | first|refine aC rfl ?_|refine aD rfl ?_|refine ap rfl ?_ ?_|refine aG rfl (fun _=>?_) (fun _=>?_)|refine aF rfl (fun _=>?_) (fun _=>?_)
  | ((first|refine ao (fun _=>?_) (fun _=>?_)|refine au (fun _=>?_) (fun _=>?_))<;>try simp (config:={ maxSteps:=2000000 }) only [Kon,push_cast,reduceIte,Nat.reduceEqDiff,Nat.reduceAdd,Nat.reduceMul,Nat.reduceSub,Nat.reduceLT,Nat.reduceLeDiff,Int.reduceLT,Int.reduceLE,Int.reduceAdd,Int.reduceSub,Int.reduceNeg,Int.reduceToNat,Int.reduceEq,reduceCtorEq, *])
  | refine And.intro trivial ?_
  | refine And.intro (by omega) ?_
  | refine aI rfl (fun _=>?_) (fun _=>?_)
  | refine And.intro ?_ ?_
 refine cz (l:=[]) (n:=0) 6 1 rfl (aeX 1).symm ?_;refine wk ?_;refine ai (fun z T' L'=>∃ (i m:Nat) (C:List AV) (X:List Blk),z=ns.length - i/\i<=ns.length/\m<=i/\Hid (∃ w:List Cls,C=(w.map (·.1)).map AV.str/\w.length=m/\(∀ c∈w,c∈cs)/\jA cs ns=(jA cs (ns.drop i)).map (w++·))/\T'=[(18,.int .i64 (i:Int)),(17,.int .i64 ns.length),(16,.sl NS ns.length cap),(6,.gsl C m (L.length+1) 1),(2,.ptr L.length 0)]/\L'=L++(.cells [S,.sl C2 cs.length capC] :: .spare m 1::X)) (CutL (b:=by simp)) ⟨0,0,[],[],rfl,aej _,aeg _,hid ⟨[],rfl,rfl,by simp,by simp⟩,rfl,by simp⟩ ?_;rintro _ _ _ ⟨i,m,C,X,rfl,hi,hm,hI,rfl,rfl⟩;by_cases hlt:i<ns.length
 ·have g1:(i:Int)<(ns.length:Int):=by omega
  have g2:=aec i (by omega);have e3:=hng.out i hlt;have e4:i<NS.length:=by omega
  have hsz:m * 16+16<=140737488355328:=by omega
  obtain ⟨n,hx⟩:=aea (ns.getD i []);have hnr:am n:=hn.out n (by rw [<- hx];simp [hlt]);have hdr:ns.drop i=n::ns.drop (i+1):=by rw [aeH hlt,<- hx];simp [hlt]
  rw [hx] at e3;obtain ⟨w,hw1,hw2,hw4,hw3⟩:=hI.out;rw [hdr,jA] at hw3;have hbx:∀ (a b k:Blk),(L++(a::b::(X++[k])))[L.length+(X.length+1+1)]?=some k:=fun a b k=>by
   rw [aes (by omega),show L.length+(X.length+1+1) - L.length=X.length+1+1 by omega,aeN,aeN,aes (aeg _)];simp
  rcases ho:fH cs n with _|c
  ·rw [ho] at hw3;have hk:Lh cs ns=none:=by unfold Lh;rw [hw3];rfl
   have h':K (.tup [.str [],.bool false]) L:=by have:=h.out;rw [hk] at this;exact this
   replace h':=hid h';have kk1:Hid (Ctr Tryz.prog 47 [.agg [S,.sl C2 cs.length capC],.str n] (.tup [.agg [.str [],.str [],.int .i64 0,.sl [] 0 none,.sl [] 0 none],.bool false])):=@hid _ (by intro L K q;exact kC.out n hnr (by rw [ho];exact q));clear hI hw1 hw2 hw3 hw4 ho hk h hx hdr kC kH;refine wk ?_;exact ab rfl h'.out
  rw [ho] at hw3;simp only at hw3;have hcm:=(tZ ho).1;obtain ⟨c1,c2,c3,c4,c5⟩:=c;have kk1:Hid (Ctr Tryz.prog 47 [.agg [S,.sl C2 cs.length capC],.str n] (.tup [.agg [.str c1,.str c2,.int .i64 c3,.sl (c4.map AV.str) c4.length none,.sl (c5.map AV.str) c5.length none],.bool true])):=@hid _ (by intro L K q;exact kC.out n hnr (by rw [ho];exact q));simp only at hw3;by_cases h3:c3=1
  ·simp only [if_pos h3] at hw3;have hI2:Hid (∃ w:List Cls,C++[.str c1]=(w.map (·.1)).map AV.str/\w.length=m+1/\(∀ c∈w,c∈cs)/\jA cs ns=(jA cs (ns.drop (i+1))).map (w++·)):=hid ⟨w++[(c1,c2,c3,c4,c5)],by rw [hw1];simp,by simp [hw2],fun c hc=>by
    rcases aeo.1 hc with hc|hc
    ·exact hw4 c hc
    ·rw [aeO.1 hc];exact hcm,by rw [hw3,Option.map_map];congr 1;funext t;simp⟩
   clear hI hw1 hw2 hw3 hw4 ho hx hdr kC kH hcm;refine wk ?_;exact ag _ _ _ (by omega) (CutL (b:=by simp)) ⟨i+1,m+1,_,_,rfl,hlt,by omega,hI2,rfl,rfl⟩
  ·simp only [if_neg h3] at hw3;have hI2:Hid (∃ w:List Cls,C=(w.map (·.1)).map AV.str/\w.length=m/\(∀ c∈w,c∈cs)/\jA cs ns=(jA cs (ns.drop (i+1))).map (w++·)):=hid ⟨w,hw1,hw2,hw4,by rw [hw3,Option.map_map];congr 1⟩;clear hI hw1 hw2 hw3 hw4 ho hx hdr kC kH hcm;refine wk ?_;exact ag _ _ _ (by omega) (CutL (b:=by simp)) ⟨i+1,m,_,_,rfl,hlt,by omega,hI2,rfl,rfl⟩
 have hie:i=ns.length:=by omega
 subst hie;have g1:¬ (ns.length:Int)<(ns.length:Int):=by omega
 obtain ⟨w,hw1,hw2,hw4,hw3⟩:=hI.out;rw [aeC,jA] at hw3;simp only [aeB,aeJ] at hw3;have hk:Lh cs ns=(w.find? (uy cs w)).map (·.1):=by unfold Lh;rw [hw3]
 rw [hk] at h;have hCg:∀ k,k<m->C.getD k .undef=.str (w.getD k cC).1:=fun k hk=>by
  rw [hw1,DI (by simp;omega)]
  congr 1
  rw [aew,aew];simp [show k<w.length by omega]
 have hCl:C.length=m:=by rw [hw1];simp [hw2]
 replace hCg:=hid hCg;replace hw4:=hid hw4;replace hw2:=hid hw2;clear hI hw1 hw3 hk kC hng;refine wk ?_;refine ai (fun z T' L'=>∃ (j:Nat),z=m - j/\j<=m/\Hid (∀ k,k<j->uy cs w (w.getD k cC)=false)/\T'=[(42,.int .i64 (j:Int)),(41,.int .i64 m),(40,.gsl C m (L.length+1) 1),(6,.gsl C m (L.length+1) 1),(2,.ptr L.length 0)]/\L'=L++(.cells [S,.sl C2 cs.length capC] :: .spare m 1::X)) (CutL (b:=by simp)) ⟨0,rfl,aej _,hid (by simp),rfl,rfl⟩ ?_;rintro _ _ _ ⟨j,rfl,hj,hD,rfl,rfl⟩;by_cases hjl:j<m;rotate_left
 ·have hje:j=m:=by omega
  subst hje;have g3:¬ (j:Int)<(j:Int):=by omega
  have e:w.find? (uy cs w)=none:=agL.2 fun c hcm=>by
   obtain ⟨k,hk,e⟩:=aeU.1 hcm;have:=hD.out k (by have:=hw2.out;omega);simp only [aew,aev hk,aeP,e] at this;rw [this];decide
  rw [e] at h;have h':K (.tup [.str [],.bool false]) L:=h.out;replace h':=hid h';clear hD e h kH;refine wk ?_;exact ab rfl h'.out
 have g3:(j:Int)<(m:Int):=by omega
 have g4:=aec j (by omega);have e5:=hCg.out j hjl;have e6:j<C.length:=by omega
 have hcm:=hw4.out (w.getD j cC) (by have:=hw2.out;simp [show j<w.length by omega]);obtain ⟨c,hcc⟩:=aea (w.getD j cC);rw [hcc] at e5 hcm;have hcr:=hc.out.r c hcm;obtain ⟨CN,hCN⟩:=aea (chN cs c.1);have hCNl:CN.length<=40:=by rw [<- hCN];unfold chN;rw [aeS];exact aeM (Im cs _ _) hc.out.l
 obtain ⟨c1,hc1⟩:=aea (c.1);rw [hc1] at e5 hcr hCN;have kk1:Hid (Ctr Tryz.prog 48 [.agg [S,.sl C2 cs.length capC],.str c1] (.sl (CN.map AV.str) CN.length none)):=@hid _ (by intro L K q;exact kH.out c1 hcr.1 (by rw [hCN];exact q));replace hcc:=hid hcc;replace hc1:=hid hc1;replace hCN:=hid hCN;clear hcm hcr;refine wk ?_;clear kk1;refine ai (fun z T' L'=>∃ (q:Nat),z=m - q/\q<=m/\Hid (∀ k,k<q->CN.contains (w.getD k cC).1=true)/\T'=[(51,.int .i64 (q:Int)),(50,.int .i64 m),(49,.gsl C m (L.length+1) 1),(13,.sl (CN.map AV.str) CN.length none),(12,.str c1),(42,.int .i64 (j:Int)),(41,.int .i64 m),(40,.gsl C m (L.length+1) 1),(6,.gsl C m (L.length+1) 1),(2,.ptr L.length 0)]/\L'=L++(.cells [S,.sl C2 cs.length capC] :: .spare m 1::X)) (CutL (b:=by simp)) ⟨0,rfl,aej _,hid (by simp),rfl,rfl⟩ ?_;rintro _ _ _ ⟨q,rfl,hq,hE,rfl,rfl⟩;by_cases hql:q<m
 ·have g5:(q:Int)<(m:Int):=by omega
  have g6:=aec q (by omega);have e7:=hCg.out q hql;have e8:q<C.length:=by omega
  obtain ⟨o,hoc⟩:=aea ((w.getD q cC).1);rw [hoc] at e7;obtain ⟨b,hb⟩:=aea (CN.contains o);have kk1:Hid (∀ {c:Option Nat} {L:List Blk} {K:aef},K (.bool b) L->aee 26 [.sl (CN.map AV.str) CN.length c,.str o] L K):=@hid _ (by intro c L K q;exact Ln (by omega) (by rw [hb];exact q));cases b with
  | true =>
    have hE2:Hid (∀ k,k<q+1->CN.contains (w.getD k cC).1=true):=hid (fun k hk=>by
     rcases aer k q with e|e
     ·exact hE.out k e
     ·obtain rfl:k=q:=by omega
      rw [hoc];exact hb)
    clear hE hoc hb;refine wk ?_;exact ag _ _ _ (by omega) (CutL (b:=by simp)) ⟨q+1,rfl,hql,hE2,rfl,rfl⟩
  | false =>
    have hD2:Hid (∀ k,k<j+1->uy cs w (w.getD k cC)=false):=hid (fun k hk=>by
     rcases aer k j with e|e
     ·exact hD.out k e
     ·obtain rfl:k=j:=by omega
      rw [hcc.out];unfold uy;rw [agW];refine ⟨w.getD q cC,by have:=hw2.out;simp [show q<w.length by omega],?_⟩;rw [hoc,hc1.out];have:=hCN.out;unfold chN at this;rw [this,hb];decide)
    clear hE hoc hb hD;refine wk ?_;exact ag _ _ _ (by omega) (CutL (b:=by simp)) ⟨j+1,rfl,hjl,hD2,rfl,rfl⟩
 ·have hqe:q=m:=by omega
  subst hqe;have g5:¬ (q:Int)<(q:Int):=by omega
  have e:w.find? (uy cs w)=some c:=by
   have:=gP (q:=uy cs w) (d:=cC) (l:=w) (k:=j) (by have:=hw2.out;omega) hD.out (by
    rw [hcc.out];unfold uy;rw [ael];intro o ho;obtain ⟨k,hk,e⟩:=aeU.1 ho;have:=hE.out k (by have:=hw2.out;omega);simp only [aew,aev hk,aeP,e] at this;have h5:=hCN.out;unfold chN at h5;rw [hc1.out,h5];exact this)
   rw [hcc.out] at this;exact this
  rw [e] at h;have h':K (.tup [.str c1,.bool true]) L:=by have:=h.out;rw [show RZ (Option.map (·.1) (some c))=.tup [.str c1,.bool true] by unfold RZ;rw [aeB,hc1.out];rfl] at this;exact this
  replace h':=hid h';clear hD hE e h kH;refine wk ?_;exact ab rfl h'.out
theorem abj {cs:List Cls} {capC:Option Nat} {t2:List AV} {n2:Nat} {cap2:Option Nat} {ns:List (List UInt8)} {cap:Option Nat} (hc:ue cs) (hl:ns.length<=9000) (hn:∀ n∈ns,am n) (h:K (RZ (Lh cs ns)) L) :
  aee 30 [.agg [.sl t2 n2 cap2,.sl (bE cs) cs.length capC],.sl (ns.map AV.str) ns.length cap] L K:=by
 obtain ⟨S,hS⟩:=aea (AV.sl t2 n2 cap2);have kC:Hid (∀ (m:List UInt8),am m->∀ {L:List Blk} {K:aef},K (.int .i64 (atN (cs.map (·.1)) m 0)) L->aee 54 [.sl (bE cs) cs.length capC,.str m] L K):=hid (by intro m hm L K q;exact TP (by have:=hc.l;omega) (fun c hm=>(hc.r c hm).1) hm q);have kH:Hid (∀ (m:List UInt8),am m->∀ {L:List Blk} {K:aef},K (.sl ((chN cs m).map AV.str) (chN cs m).length none) L->aee 55 [.agg [S,.sl (bE cs) cs.length capC],.str m] L K):=hid (by intro m hm L K q;rw [<- hS];exact Ut hc hm q);have hg:=hid (fun (k:Nat) (q:k<cs.length) (j:Nat) (p:j<5)=>NP q p);have hlen:=kK cs;rw [hS];obtain ⟨C2,hC2⟩:=aea (bE cs);rw [hC2] at kC kH hg hlen ⊢;have hng:=hid (fun k (q:k<ns.length)=>DI q);have hnl:(ns.map AV.str).length=ns.length:=by simp
 obtain ⟨NS,hNS⟩:=aea (ns.map AV.str);rw [hNS] at hng hnl ⊢;have hso:S.one=true:=by rw [<- hS];rfl
 have hres:(rkM cs ns [] ns=none->K (.tup [.str [],.bool false]) L)/\∀ b,rkM cs ns [] ns=some b->K (.tup [.str b,.bool (!decide (b=[]))]) L:=by
  rcases acz hc.d ns with ⟨a1,a2⟩|⟨b,a1,⟨a2,a3⟩|⟨a2,a3⟩⟩
  ·rw [a2] at h;exact ⟨fun _=>h,fun b e=>(by rw [a1] at e;cases e)⟩
  ·rw [a2] at h;refine ⟨fun e=>(by rw [a1] at e;cases e),fun b' e=>?_⟩;rw [a1] at e;cases e;subst a3;exact h
  ·rw [a2] at h;refine ⟨fun e=>(by rw [a1] at e;cases e),fun b' e=>?_⟩;rw [a1] at e;cases e;rw [decide_eq_false a3];exact h
 replace hres:=hid hres;replace hc:=hid hc;replace hn:=hid hn;clear hS hC2 hNS h;refine aed PL ?_;refine ai (fun z T' L'=>∃ (i:Nat) (b:List UInt8),z=ns.length - i/\i<=ns.length/\Hid (rkM cs ns [] ns=rkM cs ns b (ns.drop i))/\T'=[(16,.int .i64 (i:Int)),(15,.int .i64 ns.length),(14,.sl NS ns.length cap),(6,.str b),(2,.ptr L.length 0),(1,.sl NS ns.length cap)]/\L'=L++[.cells [S,.sl C2 cs.length capC]]) (CutS (b:=by simp)) ⟨0,[],rfl,aej _,hid rfl,rfl,by simp⟩ ?_;rintro _ _ _ ⟨i,b,rfl,hi,hI,rfl,rfl⟩;by_cases hlt:i<ns.length;rotate_left
 ·have hie:i=ns.length:=by omega
  subst hie;have g1:¬ (ns.length:Int)<(ns.length:Int):=by omega
  have hf:=hid (hres.out.2 b (by rw [hI.out,aeC];rfl));clear hres hI kC kH hg hng;refine wk ?_;exact ab rfl hf.out
 have g1:(i:Int)<(ns.length:Int):=by omega
 have g2:=aec i (by omega);have e3:=hng.out i hlt;have e4:i<NS.length:=by omega
 obtain ⟨n,hx⟩:=aea (ns.getD i []);have hnr:am n:=hn.out n (by rw [<- hx];simp [hlt]);have hdr:ns.drop i=n::ns.drop (i+1):=by rw [aeH hlt,<- hx];simp [hlt]
 rw [hx] at e3;have hI2:=hI.out;rw [hdr,rkM] at hI2;obtain ⟨z1,hz1⟩:=aea (atN (cs.map (·.1)) n 0);have kk1:Hid (Ctr Tryz.prog 54 [.sl C2 cs.length capC,.str n] (.int .i64 z1)):=@hid _ (by intro L K q;exact kC.out n hnr (by rw [hz1];exact q));rcases TT hc.out.d n with ⟨a1,a2⟩|⟨k,hk,a1,a2⟩
 ·obtain rfl:z1=-1:=hz1.symm.trans a1;rw [a2] at hI2;have hf:=hid (hres.out.1 hI2);clear hres hI hI2 kC kH hg hng hz1 a1 a2 hdr hx;refine wk ?_;exact ab rfl hf.out
 obtain rfl:z1=(k:Int):=hz1.symm.trans a1;rw [a2] at hI2;simp only at hI2;have g3:(k:Int)<(cs.length:Int):=by omega
 have g4:¬ (k:Int)<0:=by omega
 have e0:=hg.out k hk 0 (by omega);have e1:=hg.out k hk 2 (by omega);have e2:k * 5<C2.length:=by omega
 have e9:k * 5+2<C2.length:=by omega
 obtain ⟨⟨c1,c2,c3,c4,c5⟩,hcc⟩:∃ c,cs.getD k cC=c:=⟨_,rfl⟩;rw [hcc] at e0 e1 hI2;simp only [clC,afd,aft,afS] at e0 e1;simp only at hI2;obtain ⟨CN,hCN⟩:=aea (chN cs n);have hCNl:CN.length<=40:=by rw [<- hCN];unfold chN;rw [aeS];exact aeM (Im cs _ _) hc.out.l
 have kH1:Hid (Ctr Tryz.prog 55 [.agg [S,.sl C2 cs.length capC],.str n] (.sl (CN.map AV.str) CN.length none)):=@hid _ (by intro L K q;exact kH.out n hnr (by rw [hCN];exact q));have hdom:Rf cs ns n=ns.all fun m=>match fH cs m with|some o=>if o.2.2.1=1 then CN.contains o.1 else true|none=>true:=by
  unfold Rf;rw [<- hCN];rfl
 replace hI2:=hid hI2;replace hCN:=hid hCN;clear hI hdr hx hz1 a1 a2 hcc kH;refine wk ?_;clear kk1;refine ai (fun z T' L'=>∃ (q:Nat) (ok:Bool),z=ns.length - q/\q<=ns.length/\Hid (ok=(decide (c3=1) && (ns.take q).all fun m=>match fH cs m with|some o=>if o.2.2.1=1 then CN.contains o.1 else true|none=>true))/\T'=[(35,.int .i64 (q:Int)),(34,.int .i64 ns.length),(33,.sl NS ns.length cap),(10,.bool ok),(9,.int .i64 (k:Int)),(8,.str n),(16,.int .i64 (i:Int)),(15,.int .i64 ns.length),(14,.sl NS ns.length cap),(6,.str b),(2,.ptr L.length 0),(1,.sl NS ns.length cap)]/\L'=L++[.cells [S,.sl C2 cs.length capC]]) (CutS (b:=by simp)) ⟨0,decide (c3=1),rfl,aej _,hid (by simp),rfl,rfl⟩ ?_;rintro _ _ _ ⟨q,ok,rfl,hq,hO,rfl,rfl⟩;by_cases hql:q<ns.length;rotate_left
 ·have hqe:q=ns.length:=by omega
  subst hqe;have g5:¬ (ns.length:Int)<(ns.length:Int):=by omega
  have hO2:=hO.out;rw [aeE,<- hdom] at hO2;have hif:(if c3=1/\Rf cs ns n=true then c1 else b)=if ok=true then c1 else b:=by
   rw [hO2];by_cases d1:c3=1<;>by_cases d2:Rf cs ns n=true<;>simp [d1,d2]
  have hI3:=hI2.out;rw [hif] at hI3;clear hO hO2 hif hI2 hdom kH1 kC;cases ok with
  | true =>
    have hI4:Hid (rkM cs ns [] ns=rkM cs ns c1 (ns.drop (i+1))):=hid hI3;clear hI3;refine wk ?_;exact ag _ _ _ (by omega) (CutL (b:=by simp)) ⟨i+1,c1,rfl,hlt,hI4,rfl,rfl⟩
  | false =>
    have hI4:Hid (rkM cs ns [] ns=rkM cs ns b (ns.drop (i+1))):=hid hI3;clear hI3;refine wk ?_;exact ag _ _ _ (by omega) (CutL (b:=by simp)) ⟨i+1,b,rfl,hlt,hI4,rfl,rfl⟩
 have g5:(q:Int)<(ns.length:Int):=by omega
 have g6:=aec q (by omega);have e7:=hng.out q hql;have e8:q<NS.length:=by omega
 obtain ⟨m,hm⟩:=aea (ns.getD q []);have hmr:am m:=hn.out m (by rw [<- hm];simp [hql]);have htk:ns.take (q+1)=ns.take q++[m]:=by rw [aeL hql,<- hm];simp [hql]
 rw [hm] at e7;obtain ⟨z2,hz2⟩:=aea (atN (cs.map (·.1)) m 0);have kk1:Hid (Ctr Tryz.prog 54 [.sl C2 cs.length capC,.str m] (.int .i64 z2)):=@hid _ (by intro L K q;exact kC.out m hmr (by rw [hz2];exact q));obtain ⟨P,hP⟩:∃ P:List UInt8->Bool,(fun m=>match fH cs m with|some o=>if o.2.2.1=1 then CN.contains o.1 else true|none=>true)=P:=⟨_,rfl⟩;have hst:∀ r,P m=r->(ns.take (q+1)).all P=((ns.take q).all P && r):=fun r e=>by
  rw [htk,agG,afH,agA,afW,e]
 have hO2:=hO.out;rw [hP] at hO2 hO hdom ⊢;rcases TT hc.out.d m with ⟨a1,a2⟩|⟨k2,hk2,a1,a2⟩
 ·obtain rfl:z2=-1:=hz2.symm.trans a1;have hPm:P m=true:=by rw [<- hP];simp only [a2]
  have hO3:Hid (ok=(decide (c3=1) && (ns.take (q+1)).all P)):=hid (by rw [hst _ hPm,afW];exact hO2);clear hO hO2 hst hPm a1 a2 hz2 htk hm hP;refine wk ?_;exact ag _ _ _ (by omega) (CutL (b:=by simp)) ⟨q+1,ok,rfl,hql,hO3,rfl,rfl⟩
 obtain rfl:z2=(k2:Int):=hz2.symm.trans a1;have g7:(k2:Int)<(cs.length:Int):=by omega
 have g8:(0:Int)<=(k2:Int):=by omega
 have f0:=hg.out k2 hk2 0 (by omega);have f1:=hg.out k2 hk2 2 (by omega);have f2:k2 * 5<C2.length:=by omega
 have f9:k2 * 5+2<C2.length:=by omega
 obtain ⟨⟨d1,d2,d3,d4,d5⟩,hdd⟩:∃ c,cs.getD k2 cC=c:=⟨_,rfl⟩;rw [hdd] at f0 f1 a2;simp only [clC,afd,aft,afS] at f0 f1;by_cases h3:d3=1;rotate_left
 ·have hPm:P m=true:=by rw [<- hP];simp only [a2,if_neg h3]
  have hO3:Hid (ok=(decide (c3=1) && (ns.take (q+1)).all P)):=hid (by rw [hst _ hPm,afW];exact hO2);clear hO hO2 hst hPm a1 a2 hz2 htk hm hP hdd;refine wk ?_;exact ag _ _ _ (by omega) (CutL (b:=by simp)) ⟨q+1,ok,rfl,hql,hO3,rfl,rfl⟩
 have hPm:P m=CN.contains d1:=by rw [<- hP];simp only [a2,if_pos h3]
 have hO3:Hid ((ok && CN.contains d1)=(decide (c3=1) && (ns.take (q+1)).all P)):=hid (by rw [hst _ hPm,<- Bool.and_assoc,<- hO2]);obtain ⟨bb,hbb⟩:=aea (CN.contains d1);rw [hbb] at hO3;have kk2:=@hid _ (fun {L:List Blk} {K:aef}=>kH1.out (L:=L) (K:=K));have kk3:Hid (∀ {c:Option Nat} {L:List Blk} {K:aef},K (.bool bb) L->aee 32 [.sl (CN.map AV.str) CN.length c,.str d1] L K):=@hid _ (by intro c L K q;exact Qa (by omega) (by rw [hbb];exact q));subst h3;clear hO hO2 hst hPm a1 a2 hz2 htk hm hP hdd hbb;cases ok with
 | true =>
   rw [ae7] at hO3;refine wk ?_;exact ag _ _ _ (by omega) (CutL (b:=by simp)) ⟨q+1,bb,rfl,hql,hO3,rfl,rfl⟩
 | false =>
   rw [afy] at hO3;refine wk ?_;exact ag _ _ _ (by omega) (CutL (b:=by simp)) ⟨q+1,false,rfl,hql,hO3,rfl,rfl⟩
end Go.Proofs.YtigifoeopopnbaaGreatDoor.Av
set_option maxRecDepth 100000
namespace Go.Proofs.YtigifoeopopnbaaGreatDoor.Av
open Go
def Hu:LSO:=[Az 3 0,Ab 6 0]
def Ht:LSO:=[Aa 20 2,o1 21 (.call 22 [(tm 20),(.av (.str [111,98,106,101,99,116,67,108,97,115,115]))]),Aa 7 21]
def Hs:LSO:=[An 23 2 3,Aa 24 7,Am 25 23 23 24,Aa 22 25,Ar 26 22,As 27 22,Aa 8 26,Aa 9 27]
def Hr:LSO:=[Aa 28 9,Aw 29 28]
def Hq:LSO:=[Ab 6 65]
def Hp:LSO:=[An 31 2 3,Aa 32 7,Am 33 24 31 32,Aa 30 33,Ar 34 30,As 35 30,Aa 10 34,Aa 11 35]
def Ho:LSO:=[Aa 36 10,Ah 37 36,Ab 38 0]
def Hn:LSO:=[Ai 39 38 37]
def Hm:LSO:=[Aj 40 1 36 38,Ac 41 1 40,Aa 13 41]
def Hl:LSO:=[Aa 42 2,Aa 43 13,Am 44 22 42 43,Ah 45 44,Au 46 45 0]
def Dr:LSO:=[Ab 6 65]
def Dq:LSO:=[Af 47 38 1,Aa 38 47]
def Dp:LSO:=[Aa 48 2,Ah 49 48,Ab 50 0]
def Do:LSO:=[Ai 51 50 49]
def Dn:LSO:=[Aj 52 2 48 50,An 53 2 52,Bf 15,Ap 2 15 53]
def Dm:LSO:=[Ad 54 0 15,Ac 55 1 54,Ao 56 25 55,Aa 16 56]
def Dl:LSO:=[Aa 57 10,Aa 58 16,Am 59 26 57 58,Aw 60 59,Aa 61 60,.grp none 61 true
 [Ae 62 61 11,Ae 63 61 16,Bm 64 61 26 62 63,B7 65 61 64]
 66 (tm 65)]
def Dk:LSO:=[Ab 6 65]
def Dj:LSO:=[Af 67 50 1,Aa 50 67]
def Di:LSO:=[Aa 68 1,Ah 69 68,Ab 70 0]
def Dh:LSO:=[Ai 71 70 69]
def Dg:LSO:=[Aj 72 2 68 70,An 73 2 72,AF 18,Ap 2 18 73]
def Df:LSO:=[An 74 2 3,An 75 2 18,Am 76 27 74 75,Aa 19 76]
def De:LSO:=[Aa 77 19,AH 78 77 0]
def Dd:LSO:=[Aa 79 19,Aa 6 79]
def Dc:LSO:=[An 80 2 3,Aa 81 2,Ad 82 0 18,Ac 83 1 82,Ad 84 1 18,Ac 85 1 84,Ch 86 28 80 81 83 85,Aw 87 86]
def Db:LSO:=[Ab 6 64]
def Da:LSO:=[Af 88 70 1,Aa 70 88]
def CZ:LSO:=[Ab 6 0]
def iG:aV:=⟨89,(.seq (.sreg Hu [])
 (.seq (.sreg Ht Ck)
 (.seq (.seq (.sreg Hs Cr)
 (.seq (.sreg Hr Cj)
 (.cond (tm 29) (.seq (.sreg Hq [])
 .ret)
 .skip)))
 (.seq (.sreg Hp Cu)
 (.seq (.seq (.sreg Ho [])
 (.block 0 (.loop (.seq (.sreg Hn [])
 (.seq (.cond (tm 39) .skip
 (.exit 0))
 (.seq (.block 1 (.seq (.sreg Hm Ck)
 (.seq (.sreg Hl Cm)
 (.cond (tm 46) (.seq (.sreg Dr [])
 .ret)
 .skip))))
 (.sreg Dq Cj)))))))
 (.seq (.seq (.sreg Dp [])
 (.block 2 (.loop (.seq (.sreg Do [])
 (.seq (.cond (tm 51) .skip
 (.exit 2))
 (.seq (.block 3 (.seq (.sreg Dn Ck)
 (.seq (.sreg Dm Cl)
 (.seq (.sreg Dl Co)
 (.cond (tm 66) (.seq (.sreg Dk [])
 .ret)
 .skip)))))
 (.sreg Dj Cj)))))))
 (.seq (.seq (.sreg Di [])
 (.block 4 (.loop (.seq (.sreg Dh [])
 (.seq (.cond (tm 71) .skip
 (.exit 4))
 (.seq (.block 5 (.seq (.sreg Dg Ck)
 (.seq (.seq (.sreg Df Cl)
 (.seq (.sreg De Cj)
 (.cond (tm 78) (.seq (.sreg Dd Cj)
 .ret)
 .skip)))
 (.seq (.sreg Dc Cr)
 (.cond (tm 87) (.seq (.sreg Db [])
 .ret)
 .skip)))))
 (.sreg Da Cj)))))))
 (.seq (.sreg CZ [])
 .ret)))))))),[(.tmp 6)]⟩
attribute [push_cast] Hu Ht Hs Hr Hq Hp Ho Hn Hm Hl Dr Dq Dp Do Dn Dm Dl Dk Dj Di Dh Dg Df De Dd Dc Db Da CZ
theorem Dx:aX Tryz.prog (fun _ _=>1) 9=some iG.raw:=by kernel_rfl
def CY:LSO:=[Az 2 0,Az 3 1,Ab 4 0]
def CX:LSO:=[An 10 2 2,Ad 11 0 3,Ac 12 1 11,Am 13 51 10 12,Aa 9 13,Ar 14 9,As 15 9,Bh 5,Ap 4 5 14,Aa 6 15]
def CW:LSO:=[Aa 16 6,Aw 17 16]
def CV:LSO:=[Ab 4 17]
def CU:LSO:=[Ad 19 1 5,Ac 20 1 19,Ad 21 1 3,Ac 22 1 21,Am 23 52 20 22,Aa 18 23,Ar 24 18,As 25 18,Aa 7 24,Aa 8 25]
def CT:LSO:=[Aa 26 8,Aw 27 26]
def CS:LSO:=[Ab 4 21]
def At:LSO:=[Ab 4 0]
def eS:aV:=⟨28,(.seq (.sreg CY [])
 (.seq (.sreg CX C0)
 (.seq (.seq (.sreg CW Cj)
 (.cond (tm 17) (.seq (.sreg CV [])
 .ret)
 .skip))
 (.seq (.seq (.sreg CU Cv)
 (.seq (.sreg CT Cj)
 (.cond (tm 27) (.seq (.sreg CS [])
 .ret)
 .skip)))
 (.seq (.sreg At [])
 .ret))))),[(.tmp 4)]⟩
attribute [push_cast] CY CX CW CV CU CT CS At
theorem jx:aX Tryz.prog (fun _ _=>1) 27=some eS.raw:=by kernel_rfl
def Nr:LSO:=[Az 3 0,Az 5 2,Ag 6]
def Nq:LSO:=[An 12 2 3,Ad 13 0 5,Ac 14 1 13,Am 15 51 12 14,Aa 11 15,Ar 16 11,As 17 11,Bh 7,Ap 4 7 16,Aa 8 17]
def Np:LSO:=[Ad 19 1 7,Ac 20 1 19,Ad 21 1 5,Ac 22 1 21,Am 23 52 20 22,Aa 18 23,Ar 24 18,As 25 18,o1 9 (.alloc [(.str [])]),Ap 1 9 24,Aa 10 25]
def No:LSO:=[Aa 26 1,o1 27 (.mkfn 58 [(tm 7),(tm 9),(tm 5)]),Am 28 57 26 27,Aa 6 28]
def LF:aV:=⟨29,(.seq (.sreg Nr [])
 (.seq (.sreg Nq CI)
 (.seq (.sreg Np [false,true,false,false,false,false,false,false,false,false])
 (.seq (.sreg No Cl)
 .ret)))),[(.tmp 6)]⟩
attribute [push_cast] Nr Nq Np No
theorem Sa:aX Tryz.prog (fun _ _=>1) 35=some LF.raw:=by kernel_rfl
def Hk:LSO:=[Az 4 0,Ag 5]
def Hj:LSO:=[Ad 9 1 1,Ac 10 1 9,Ad 11 1 4,Ac 12 1 11,Am 13 52 10 12,Aa 8 13,Ar 14 8,As 15 8,Aa 6 14,Aa 7 15]
def Hi:LSO:=[Aa 16 7,Aa 17 16,.grp none 17 true
 [Ae 18 17 6,A3 19 17 1 2,B4 20 17 18 19]
 21 (tm 20),Aa 22 21,.grp none 22 true
 [A4 23 22 0 4,A3 24 22 1 23,AN 25 22 25 24,A4 26 22 0 3,A3 27 22 1 26,AN 28 22 25 27,B4 29 22 25 28]
 30 (tm 29),Aa 5 30]
def fN:aV:=⟨31,(.seq (.sreg Hk [])
 (.seq (.sreg Hj CP)
 (.seq (.sdreg Hi [.pure,.pure,.pure,(.read 0 0),.pure,.pure,.pure,.pure,(.read 0 0),(.read 0 0),.pure,(.read 0 0)] Co)
 .ret))),[(.tmp 5)]⟩
attribute [push_cast] Hk Hj Hi
theorem kY:aX Tryz.prog (fun _ _=>1) 58=some fN.raw:=by kernel_rfl
def oD:LSO:=[Az 5 0,Ak 10,Ab 11 0]
def oC:LSO:=[Aa 20 3,Ah 21 20,Ab 22 0]
def oB:LSO:=[Ai 23 22 21]
def oA:LSO:=[Aj 24 2 20 22,An 25 2 24,AF 13,Ap 2 13 25]
def oz:LSO:=[An 26 2 5,An 27 2 13,Am 28 27 26 27,Aa 14 28]
def oy:LSO:=[Aa 29 14,AH 30 29 0]
def ox:LSO:=[Aa 31 14,Ak 10,Aa 11 31]
def ow:LSO:=[Af 32 22 1,Aa 22 32]
def ov:LSO:=[Ak 15]
def ou:LSO:=[Aa 33 2,Ah 34 33,Ab 35 0]
def my:LSO:=[Ai 36 35 34]
def mw:LSO:=[Aj 37 2 33 35,An 38 2 37,AF 17,Ap 2 17 38]
def mu:LSO:=[Aa 39 4,Aa 40 39,.grp none 40 true
 [AX 41 40 2 5,Ae 42 40 1,A4 43 40 0 17,A3 44 40 1 43,A4 45 40 1 17,A3 46 40 1 45,og 47 40 true (.call 28 [(tm 41),(tm 42),(tm 44),(tm 46)])]
 48 (tm 47),Aa 49 48,.grp none 49 true
 [AX 50 49 2 5,Ae 51 49 3,AX 52 49 2 17,Bn 53 49 35 50 51 52,B7 54 49 53]
 55 (tm 54)]
def mt:LSO:=[Aa 56 15,Ad 57 0 17,Ac 58 1 57,Ad 59 1 17,Ac 60 1 59,AE 61 60,
 o1 62 (.build [(.int .i64 0),(.str []),(.sl [] 0 (some 0))] [(0,(1,(iv 1))),(1,(1,(tm 58))),(2,(1,(tm 61)))]),
 o1 63 (.bslice false 3 1 [(.int .i64 0),(.str []),(.sl [] 0 (some 0))] [(0,(3,(tm 62)))]),o1 64 (.app 1 3 48 [(.int .i64 0),(.str []),(.sl [] 0 (some 0))] (tm 56) (tm 63)),
 Aa 15 64]
def mq:LSO:=[Af 65 35 1,Aa 35 65]
def mo:LSO:=[Aa 66 3,Ah 67 66,Ab 68 0]
def mn:LSO:=[Ai 69 68 67]
def mm:LSO:=[Aj 70 2 66 68,An 71 2 70,AF 19,Ap 2 19 71]
def ml:LSO:=[An 72 2 5,Aa 73 1,Ad 74 0 19,Ac 75 1 74,Ad 76 1 19,Ac 77 1 76,Ch 78 28 72 73 75 77,Aw 79 78]
def mj:LSO:=[Aa 80 15,Ad 81 0 19,Ac 82 1 81,Ad 83 1 19,Ac 84 1 83,AE 85 84,
 o1 86 (.build [(.int .i64 0),(.str []),(.sl [] 0 (some 0))] [(0,(1,(iv 0))),(1,(1,(tm 82))),(2,(1,(tm 85)))]),
 o1 87 (.bslice false 3 1 [(.int .i64 0),(.str []),(.sl [] 0 (some 0))] [(0,(3,(tm 86)))]),o1 88 (.app 1 3 48 [(.int .i64 0),(.str []),(.sl [] 0 (some 0))] (tm 80) (tm 87)),
 Aa 15 88]
def mi:LSO:=[Af 89 68 1,Aa 68 89]
def mh:LSO:=[An 90 2 5,Aa 91 1,Aa 92 15,AD 93 36 90 91 92,Ar 94 93,As 95 93,Aa 10 94,Aa 11 95]
def kZ:aV:=⟨96,(.seq (.sreg oD [])
 (.seq (.seq (.sreg oC [])
 (.block 0 (.loop (.seq (.sreg oB [])
 (.seq (.cond (tm 23) .skip
 (.exit 0))
 (.seq (.block 1 (.seq (.sreg oA Ck)
 (.seq (.sreg oz Cl)
 (.seq (.sreg oy Cj)
 (.cond (tm 30) (.seq (.sreg ox Cp)
 .ret)
 .skip)))))
 (.sreg ow Cj)))))))
 (.seq (.sreg ov [])
 (.seq (.seq (.sreg ou [])
 (.block 2 (.loop (.seq (.sreg my [])
 (.seq (.cond (tm 36) .skip
 (.exit 2))
 (.seq (.block 3 (.seq (.sreg mw Ck)
 (.seq (.sreg mu Cm)
 (.cond (tm 55) (.sreg mt Cv)
 .skip))))
 (.sreg mq Cj)))))))
 (.seq (.seq (.sreg mo [])
 (.block 4 (.loop (.seq (.sreg mn [])
 (.seq (.cond (tm 69) .skip
 (.exit 4))
 (.seq (.block 5 (.seq (.sreg mm Ck)
 (.seq (.sreg ml Cr)
 (.cond (tm 79) (.sreg mj Cv)
 .skip))))
 (.sreg mi Cj)))))))
 (.seq (.sreg mh Cu)
 .ret)))))),[(.tmp 10),(.tmp 11)]⟩
attribute [push_cast] oD oC oB oA oz oy ox ow ov ou my mw mu mt mq mo mn mm ml mj mi mh
theorem LG:aX Tryz.prog (fun _ _=>1) 11=some kZ.raw:=by kernel_rfl
def DX:LSO:=[Az 3 0,Ab 6 0]
def DW:LSO:=[Aa 19 2,o1 20 (.call 29 [(tm 19),(.av (.str [111,98,106,101,99,116,99,108,97,115,115]))]),Aa 7 20]
def DV:LSO:=[An 22 2 3,Aa 23 7,Am 24 30 22 23,Aa 21 24,Ar 25 21,As 26 21,Aa 8 25,Aa 9 26]
def DT:LSO:=[Aa 27 9,Aw 28 27]
def DS:LSO:=[Ab 6 65]
def DR:LSO:=[An 30 2 3,Aa 31 7,Am 32 31 30 31,Aa 29 32,Ar 33 29,As 34 29,Aa 10 33,Aa 11 34]
def DQ:LSO:=[Aa 35 10,Ah 36 35,Ab 37 0]
def DP:LSO:=[Ai 38 37 36]
def DO:LSO:=[Aj 39 1 35 37,Ac 40 1 39,Aa 13 40]
def DN:LSO:=[Aa 41 2,Aa 42 13,Am 43 29 41 42,Ah 44 43,Au 45 44 0]
def vY:LSO:=[Ab 6 65]
def vX:LSO:=[Af 46 37 1,Aa 37 46]
def vW:LSO:=[Aa 47 2,Ah 48 47,Ab 49 0]
def vV:LSO:=[Ai 50 49 48]
def vU:LSO:=[Aj 51 2 47 49,An 52 2 51,Bf 15,Ap 2 15 52]
def vT:LSO:=[Aa 53 10,Ad 54 0 15,Ac 55 1 54,Ao 56 33 55,Am 57 32 53 56,Aw 58 57,Aa 59 58,.grp none 59 true
 [Ae 60 59 11,A4 61 59 0 15,A3 62 59 1 61,AN 63 59 33 62,Bm 64 59 32 60 63,B7 65 59 64]
 66 (tm 65)]
def vS:LSO:=[Ab 6 65]
def vR:LSO:=[Af 67 49 1,Aa 49 67]
def vQ:LSO:=[Aa 68 1,Ah 69 68,Ab 70 0]
def vP:LSO:=[Ai 71 70 69]
def vO:LSO:=[Aj 72 2 68 70,An 73 2 72,AF 17,Ap 2 17 73]
def vN:LSO:=[An 74 2 3,An 75 2 17,Am 76 34 74 75,Aa 18 76]
def vM:LSO:=[Aa 77 18,AH 78 77 0]
def vL:LSO:=[Aa 79 18,Aa 6 79]
def vK:LSO:=[An 80 2 3,Aa 81 2,Ad 82 0 17,Ac 83 1 82,Ad 84 1 17,Ac 85 1 84,Ch 86 12 80 81 83 85,Aw 87 86]
def vJ:LSO:=[Ab 6 64]
def vI:LSO:=[Af 88 70 1,Aa 70 88]
def vH:LSO:=[Ab 6 0]
def iC:aV:=⟨89,(.seq (.sreg DX [])
 (.seq (.sreg DW Ck)
 (.seq (.sreg DV Cr)
 (.seq (.seq (.sreg DT Cj)
 (.cond (tm 28) (.seq (.sreg DS [])
 .ret)
 .skip))
 (.seq (.sreg DR Cu)
 (.seq (.seq (.sreg DQ [])
 (.block 0 (.loop (.seq (.sreg DP [])
 (.seq (.cond (tm 38) .skip
 (.exit 0))
 (.seq (.block 1 (.seq (.sreg DO Ck)
 (.seq (.sreg DN Cm)
 (.cond (tm 45) (.seq (.sreg vY [])
 .ret)
 .skip))))
 (.sreg vX Cj)))))))
 (.seq (.seq (.sreg vW [])
 (.block 2 (.loop (.seq (.sreg vV [])
 (.seq (.cond (tm 50) .skip
 (.exit 2))
 (.seq (.block 3 (.seq (.sreg vU Ck)
 (.seq (.sreg vT Cr)
 (.cond (tm 66) (.seq (.sreg vS [])
 .ret)
 .skip))))
 (.sreg vR Cj)))))))
 (.seq (.seq (.sreg vQ [])
 (.block 4 (.loop (.seq (.sreg vP [])
 (.seq (.cond (tm 71) .skip
 (.exit 4))
 (.seq (.block 5 (.seq (.sreg vO Ck)
 (.seq (.sreg vN Cl)
 (.seq (.seq (.sreg vM Cj)
 (.cond (tm 78) (.seq (.sreg vL Cj)
 .ret)
 .skip))
 (.seq (.sreg vK Cr)
 (.cond (tm 87) (.seq (.sreg vJ [])
 .ret)
 .skip))))))
 (.sreg vI Cj)))))))
 (.seq (.sreg vH [])
 .ret))))))))),[(.tmp 6)]⟩
attribute [push_cast] DX DW DV DT DS DR DQ DP DO DN vY vX vW vV vU vT vS vR vQ vP vO vN vM vL vK vJ vI vH
theorem Dw:aX Tryz.prog (fun _ _=>1) 10=some iC.raw:=by kernel_rfl
def vG:LSO:=[Az 2 0,Az 3 1,Ab 4 0]
def vF:LSO:=[Ad 8 0 2,Ac 9 1 8,Ad 10 0 3,Ac 11 1 10,Am 12 37 9 11,Aa 5 12]
def vE:LSO:=[Aa 13 5,AA 14 13 0]
def vD:LSO:=[Ab 4 17]
def vC:LSO:=[Ad 16 0 2,Ac 17 1 16,Aa 18 5,Aj 19 4 17 18,Ad 20 1 19,Ac 21 1 20,Ad 22 1 3,Ac 23 1 22,Am 24 38 21 23,Aa 15 24,Ar 25 15,As 26 15,Aa 6 25,Aa 7 26]
def vB:LSO:=[Aa 27 7,Aw 28 27]
def vA:LSO:=[Ab 4 21]
def vz:LSO:=[Ab 4 0]
def oR:aV:=⟨29,(.seq (.sreg vG [])
 (.seq (.sreg vF Co)
 (.seq (.seq (.sreg vE Cj)
 (.cond (tm 14) (.seq (.sreg vD [])
 .ret)
 .skip))
 (.seq (.sdreg vC [.pure,(.read 0 0),.pure,(.read 0 0),.pure,(.read 0 0),.pure,(.read 0 0),(.read 0 0),.pure,.pure,.pure,.pure] CM)
 (.seq (.seq (.sreg vB Cj)
 (.cond (tm 28) (.seq (.sreg vA [])
 .ret)
 .skip))
 (.seq (.sreg vz [])
 .ret)))))),[(.tmp 4)]⟩
attribute [push_cast] vG vF vE vD vC vB vA vz
theorem Ov:aX Tryz.prog (fun _ _=>1) 34=some oR.raw:=by kernel_rfl
def GV:LSO:=[Az 2 0,Ak 4,Ag 5]
def GU:LSO:=[An 8 2 2,Ao 9 17 8,Aw 10 9,Aa 11 10,.grp none 11 false
 [Al 12 11 1,AY 13 11 18 12,Bg 14 11 13]
 15 (tm 14)]
def GT:LSO:=[Ak 4,Ag 5]
def GS:LSO:=[An 17 2 2,Aa 18 1,Am 19 19 17 18,Aa 16 19,Ar 20 16,As 21 16,Aa 6 20,Aa 7 21]
def GR:LSO:=[Aa 22 6,Aa 23 7,Au 24 23 0,Aa 4 22,Aa 5 24]
def uS:aV:=⟨25,(.seq (.sreg GV [])
 (.seq (.seq (.sreg GU Cm)
 (.cond (tm 15) (.seq (.sreg GT [])
 .ret)
 .skip))
 (.seq (.sreg GS Cu)
 (.seq (.sreg GR Ct)
 .ret)))),[(.tmp 4),(.tmp 5)]⟩
attribute [push_cast] GV GU GT GS GR
theorem PW:aX Tryz.prog (fun _ _=>1) 6=some uS.raw:=by kernel_rfl
def zx:LSO:=[Ag 2]
def zw:LSO:=[Aa 5 0,Ah 6 5,Ab 7 0]
def zu:LSO:=[Ai 8 7 6]
def zt:LSO:=[Aj 9 2 5 7,An 10 2 9,AF 4,Ap 2 4 10]
def zr:LSO:=[Aa 11 0,Ah 12 11,A6 13 12 10,Aa 14 13,.grp none 14 false
 [Bb 15 14 1 4,AP 16 14 1 15,Bt 17 14 16,AB 18 14 17 5000]
 19 (tm 18)]
def zq:LSO:=[Ag 2]
def zp:LSO:=[Af 20 7 1,Aa 7 20]
def zo:LSO:=[A0 2]
def o6:aV:=⟨21,(.seq (.sreg zx [])
 (.seq (.seq (.sreg zw [])
 (.block 0 (.loop (.seq (.sreg zu [])
 (.seq (.cond (tm 8) .skip
 (.exit 0))
 (.seq (.block 1 (.seq (.sreg zt Ck)
 (.seq (.sreg zr Cm)
 (.cond (tm 19) (.seq (.sreg zq [])
 .ret)
 .skip))))
 (.sreg zp Cj)))))))
 (.seq (.sreg zo [])
 .ret))),[(.tmp 2)]⟩
attribute [push_cast] zx zw zu zt zr zq zp zo
theorem OH:aX Tryz.prog (fun _ _=>1) 7=some o6.raw:=by kernel_rfl
def zE:LSO:=[Ag 0]
def zD:LSO:=[o1 8 (.call 20 []),Cg 1,Ap 2 1 8]
def zC:LSO:=[An 10 2 1,o1 11 (.bslice false 1 1 [(.str [])] [(0,(1,(.av (.str [112,101,114,115,111,110]))))]),
 o1 12 (.build [(.str []),(.sl [] 0 (some 0))] [(0,(1,(.av (.str [111,98,106,101,99,116,67,108,97,115,115])))),(1,(1,(tm 11)))]),
 o1 13 (.bslice false 1 1 [(.str [])] [(0,(1,(.av (.str [97]))))]),o1 14 (.build [(.str []),(.sl [] 0 (some 0))] [(0,(1,(.av (.str [99,110])))),(1,(1,(tm 13)))]),
 o1 15 (.bslice false 2 2 [(.str []),(.sl [] 0 (some 0)),(.str []),(.sl [] 0 (some 0))] [(0,(2,(tm 12))),(2,(2,(tm 14)))]),Am 16 19 10 15,Aa 9 16,Ar 17 9,As 18 9,Aa 2 17,Aa 3 18]
def zB:List (ak×Kd) :=
 [BA 20 2 1 0 2,Ay 21 2,od 22 (.call 21 [(tm 21)]) .eff,od 23 (.bslice false 1 1 [(.str [])] [(0,(1,(.av (.str [120]))))]) (.read 1 0),
 od 24 (.build [(.str []),(.sl [] 0 (some 0))] [(0,(1,(.av (.str [115,110])))),(1,(1,(tm 23)))]) .pure,B9 25 24 1 0,
 od 26 (.app 1 2 40 [(.str []),(.sl [] 0 (some 0))] (tm 22) (tm 25)) .eff,BP 27 19 20 26 0 0,Ay 19 27,od 28 (.extract (tm 19) 0) .pure,od 29 (.extract (tm 19) 1) .pure,Ay 4 28]
def tL:List ak :=
 [⟨(some 5),(.mv (tm 29)),none⟩]
def zA:LSO:=[An 31 2 1,Aa 32 4,o1 33 (.build [(.str []),(.str [])] [(0,(1,(.av (.str [99,110])))),(1,(1,(.av (.str [97]))))]),B5 34 33,
 o1 35 (.build [(.str []),(.str [])] [(0,(1,(.av (.str [99,110])))),(1,(1,(.av (.str [98]))))]),B5 36 35,o1 37 (.call 11 [(tm 31),(tm 32),(tm 34),(tm 36),(.av (.bool true))]),
 Aa 30 37,Ar 38 30,As 39 30,Aa 6 38,Aa 7 39]
def zy:LSO:=[Aa 40 3,Au 41 40 0,Aa 42 41,.grp none 42 true
 [Ae 43 42 5,AL 44 42 43 0]
 45 (tm 44),Aa 46 45,.grp none 46 true
 [AX 47 46 2 1,og 48 46 true (.build [(.str []),(.str [])] [(0,(1,(.av (.str [99,110])))),(1,(1,(.av (.str [97]))))]),Ci 49 46 48,Ae 50 46 2,Bn 51 46 9 47 49 50,AL 52 46 51 65]
 53 (tm 52),Aa 54 53,.grp none 54 true
 [AX 55 54 2 1,og 56 54 true (.build [(.str []),(.str [])] [(0,(1,(.av (.str [99,110])))),(1,(1,(.av (.str [98]))))]),Ci 57 54 56,Ae 58 54 4,Bn 59 54 9 55 57 58,AL 60 54 59 64]
 61 (tm 60),Aa 62 61,.grp none 62 true
 [AX 63 62 2 1,og 64 62 true (.build [(.str []),(.str [])] [(0,(1,(.av (.str [99,110])))),(1,(1,(.av (.str [65]))))]),Ci 65 62 64,Ae 66 62 4,Bn 67 62 9 63 65 66,AL 68 62 67 0]
 69 (tm 68),Aa 70 69,.grp none 70 true
 [Ae 71 70 7,AL 72 70 71 0]
 73 (tm 72),Aa 74 73,.grp none 74 true
 [Ae 75 74 6,AT 76 74 75,AL 77 74 76 3]
 78 (tm 77),Aa 79 78,.grp none 79 true
 [Ae 80 79 6,og 81 79 true (.iaddr 2 (tm 80) (iv 0)),A4 82 79 1 81,A3 83 79 1 82,og 84 79 true (.iaddr 1 (tm 83) (iv 0)),A3 85 79 1 84,
 og 86 79 true (.bin .eql (tm 85) (.av (.str [98])))]
 87 (tm 86),Aa 0 87]
def o7:aV:=⟨88,(.seq (.sreg zE [])
 (.seq (.sreg zD Cj)
 (.seq (.sreg zC C3)
 (.seq (.dregM zB tL CR)
 (.seq (.sreg zA C3)
 (.seq (.sreg zy [true,false,false,false,false,false,false,false,false,false,false,false,false,false,false,false,false])
 .ret)))))),[(.tmp 0)]⟩
attribute [push_cast] zE zD zC zB tL zA zy
theorem OI:aX Tryz.prog (fun r i=>if r=3/\i=2 then 3 else 1) 8=some o7.raw:=by kernel_rfl
def ln:LSO:=[Az 3 0,Ag 6]
def lm:LSO:=[An 10 2 3,Aa 11 2,Am 12 6 10 11,Aa 9 12,Ar 13 9,As 14 9,Aa 7 13,Aa 8 14]
def ll:LSO:=[Aa 15 8,Aw 16 15,Aa 17 16,.grp none 17 false
 [Al 18 17 1,AY 19 17 7 18,Bg 20 17 19]
 21 (tm 20)]
def lk:LSO:=[o1 22 (.call 8 []),Aa 6 22]
def lh:LSO:=[o1 23 (.call 8 []),Aa 24 23,.grp none 24 true
 [AX 25 24 2 3,Ae 26 24 1,Ae 27 24 7,Bn 28 24 9 25 26 27,AX 29 24 2 3,Ae 30 24 1,Ae 31 24 7,Bn 32 24 10 29 30 31,B4 33 24 28 32]
 34 (tm 33),Aa 6 34]
def iD:aV:=⟨35,(.seq (.sreg ln [])
 (.seq (.sreg lm Cu)
 (.seq (.seq (.sreg ll Cl)
 (.cond (tm 21) (.seq (.sreg lk Cj)
 .ret)
 .skip))
 (.seq (.sdreg lh [(.read 0 0),.pure,(.read 0 0),.pure,.pure,(.read 0 0),(.read 0 0),.pure,.pure] Cl)
 .ret)))),[(.tmp 6)]⟩
attribute [push_cast] ln lm ll lk lh
theorem HU:aX Tryz.prog (fun _ _=>1) 3=some iD.raw:=by kernel_rfl
attribute [push_cast] iG eS LF fN kZ iC oR uS o6 o7 iD
end Go.Proofs.YtigifoeopopnbaaGreatDoor.Av
