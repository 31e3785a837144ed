/- Joined texts of the walk, made small by a program. -/
import Derived.Test.YtigifoeopopnbaaGreatDoorQk24
import Derived.Test.YtigifoeopopnbaaGreatDoorQk20
import Derived.Test.YtigifoeopopnbaaGreatDoorQk18
import Derived.Test.YtigifoeopopnbaaGreatDoorQk12
import Derived.Test.YtigifoeopopnbaaGreatDoorQk19
set_option linter.unusedSimpArgs false
set_option linter.unusedVariables false
namespace Go.Proofs.YtigifoeopopnbaaGreatDoor.Av
open Go
variable {L:List Blk} {K:aef}
set_option maxHeartbeats 8000000
set_option maxRecDepth 100000
structure aaE (ts:List Typ) (l:List Atr):Prop where
 i:InA ts l
 n:l.length<=60
 v:∀ a∈l,a.2.length<=3600
theorem aaE.ok {ts:List Typ} {l:List Atr} (h:aaE ts l):Pv ts l:=⟨h.i,by have:=h.n;omega,fun a ha=>by have:=h.v a ha;omega⟩
theorem ac3 {ts:List Typ} {cs:List Cls} {l:List Atr} {capT capC cap:Option Nat} (hs:ab4 ts cs) (hl:adC l) (h:∀ (l':List Atr) (b:Bool),(b=true->LI ts/\ue cs/\aaE ts l')->K (.tup [.sl (bh l') l'.length none,.bool b]) L) :
  aee 6 [.agg [.sl (aW ts) ts.length capT,.sl (bE cs) cs.length capC],.sl (bh l) l.length cap] L K:=by
 obtain ⟨fb,hfb⟩:=aea (aad l);have kk1:Hid (Ctr Tryz.prog 18 [.sl (bh l) l.length cap] (.bool fb)):=hid fun q=>adR (by have:=hl.1;omega) (fun a ha=>by have:=(hl.2 a ha).2;omega) (by rw [hfb];exact q)
 have hn:Hid (K (.tup [.sl [] 0 none,.bool false]) L):=hid (h [] false (by simp));replace h:=hid h;refine aed PW ?_;refine abd hs fun b hb=>?_
 cases b with
 | false =>
   clear hb hfb kk1;refine sk ?_;refine wk ?_;exact aZ (ab rfl hn.out)
 | true =>
 obtain ⟨hts,hcd,hcl⟩:=hb rfl;cases fb with
 | false =>
   clear hts hcd hcl hb hfb;refine sk ?_;refine wk ?_;exact aZ (ab rfl hn.out)
 | true =>
 have hf:=abK hfb;obtain ⟨R,hR⟩:=aea (Ld ts [] l);have hv:∀ a∈l,am a.1/\a.2.length<=9000:=fun a ha=>⟨(hl.2 a ha).1,by have:=(hf.2 a ha).1;omega⟩
 have hR1:R.1.length<=60/\∀ a∈R.1,a.2.length<=3600:=by
  have:=ZF (ts:=ts) (l:=l) (out:=[]) (i:=0) (B:=60) (aeg _) (by simp) (fun a ha=>(hf.2 a ha).1);rw [hR] at this;exact ⟨by have:=this.1;omega,fun a ha=>by have:=this.2 a ha;omega⟩
 have hK:Hid (K (.tup [.sl (bh R.1) R.1.length none,.bool (decide (R.2=0))]) L):=hid (h.out R.1 _ fun e=>by
  have e:R.2=0:=by simpa using e
  exact ⟨hts,⟨hcd,hcl,hs.2.2.2⟩,⟨by rw [<- hR] at e ⊢;exact P9 (VW ts) e,hR1.1,hR1.2⟩⟩)
 have kk2:Hid (Ctr Tryz.prog 19 [.agg [.sl (aW ts) ts.length capT,.sl (bE cs) cs.length capC],.sl (bh l) l.length cap] (.tup [.sl (bh R.1) R.1.length none,.int .i64 R.2])):=hid fun q=>Tf hts (by omega) hv hR q
 clear hts hcd hcl hb hfb hf hv hR1 hR h hs hl hn;refine sk ?_;refine wk ?_;exact ab (by simp only [AV.refs,AV.refsL,jz,afD]) hK.out
def aay (r:List Ava):Prop:=r.length<=2000000/\∀ a∈r,am a.1/\am a.2
def shM (r:List Ava):Bool:=r.all fun a=>decide (r.length<=10) && decide (a.2.length<=5000)
theorem Y0 {r:List Ava} (h:shM r=true):r.length<=10:=by
 rcases afC r.length with e|e
 ·omega
 ·have:=ael.1 h (r[0]'e) (afi e);simp only [aek,decide_eq_true_eq] at this;exact this.1
theorem abe {r:List Ava} {cap:Option Nat} (hr:aay r) (h:K (.bool (shM r)) L) :
  aee 7 [.sl (aH r) r.length cap] L K:=by
 obtain ⟨hrl,hrr⟩:=hr;have hrt:=hid (fun k (q:k<r.length)=>dc (r:=r) q);have hrtl:=bW r;obtain ⟨RA,hRA⟩:=aea (aH r);rw [hRA] at hrt hrtl ⊢;obtain ⟨R,hR⟩:=aea (shM r);rw [hR] at h;replace h:=hid h;replace hR:=hid hR;replace hrr:=hid hrr;clear hRA;refine aed OH ?_;refine ai (fun z T' L'=>∃ (j:Nat) (X:List Blk),z=r.length - j/\j<=r.length/\Hid (∀ k,k<j->r.length<=10/\(r.getD k ([],[])).2.length<=5000)/\T'=[(7,.int .i64 (j:Int)),(6,.int .i64 r.length),(5,.sl RA r.length cap),(0,.sl RA r.length cap)]/\L'=L++X) (CutS (b:=by simp)) ⟨0,[],rfl,aej _,hid (by simp),rfl,by simp⟩ ?_;rintro _ _ _ ⟨j,X,rfl,hj,hE,rfl,rfl⟩;by_cases hjl:j<r.length
 ·have g1:(j:Int)<(r.length:Int):=by omega
  have g2:=aec j (by omega);have e3:=hrt.out j hjl;have e4:j * 2+2<=RA.length:=by omega
  obtain ⟨⟨nm,v⟩,ha⟩:∃ a,r.getD j ([],[])=a:=⟨_,rfl⟩;have ham:(nm,v)∈r:=by rw [<- ha];simp [hjl]
  have hvr:am v:=(hrr.out _ ham).2;unfold am at hvr;rw [ha] at e3;simp only [gf] at e3;by_cases h10:(10:Int)<(r.length:Int)
  ·have:R=false:=by
    rw [<- hR.out];exact Bool.eq_false_iff.2 fun e=>by have:=Y0 e;omega
   subst this;clear ha ham hE hR;refine wk ?_;exact ab rfl h.out
  by_cases h50:(5000:Int)<(v.length:Int)
  ·have:R=false:=by
    rw [<- hR.out];exact Bool.eq_false_iff.2 fun e=>by
     have:=ael.1 e _ ham;simp only [aek,decide_eq_true_eq] at this;omega
   subst this;clear ha ham hE hR;refine wk ?_;exact ab rfl h.out
  ·have hE2:Hid (∀ k,k<j+1->r.length<=10/\(r.getD k ([],[])).2.length<=5000):=hid (fun k hk=>by
    rcases aer k j with e|e
    ·exact hE.out k e
    ·obtain rfl:k=j:=by omega
     rw [ha];exact ⟨by omega,by simp only;omega⟩)
   clear ha ham hE hR;refine wk ?_;exact ag _ _ _ (by omega) (CutL (b:=by simp)) ⟨j+1,_,rfl,hjl,hE2,rfl,rfl⟩
 have hje:j=r.length:=by omega
 subst hje;have g1:¬ (r.length:Int)<(r.length:Int):=by omega
 have:R=true:=by
  rw [<- hR.out];exact ael.2 fun a ha=>by
   obtain ⟨k,hk,e⟩:=aeU.1 ha;have:=hE.out k hk;simp only [aew,aev hk,aeP,e] at this;simp only [aek,decide_eq_true_eq];exact this
 subst this;clear hE hR;refine wk ?_;exact ab rfl h.out
theorem abT {ts:List Typ} {cs:List Cls} {l:List Atr} {r:List Ava} {capT capC cap capR:Option Nat} (hs:ab4 ts cs) (hl:adC l) (hr:aay r) (h:K (.bool true) L) :
  aee 3 [.agg [.sl (aW ts) ts.length capT,.sl (bE cs) cs.length capC],.sl (aH r) r.length capR,.sl (bh l) l.length cap] L K:=by
 replace h:=hid h;obtain ⟨sb,hsb⟩:=aea (shM r);have kk1:Hid (Ctr Tryz.prog 8 [] (.bool true)):=hid fun q=>Yt q
 have kk2:Hid (Ctr Tryz.prog 7 [.sl (aH r) r.length capR] (.bool sb)):=hid fun q=>abe hr (by rw [hsb];exact q)
 refine aed HU ?_;refine ac3 hs hl fun l' b hb=>?_
 cases b with
 | false =>
   clear hb hsb hs hl hr;refine sk ?_;refine wk ?_;exact ab rfl h.out
 | true =>
 obtain ⟨hts,hcs,hf⟩:=hb rfl;cases sb with
 | false =>
   clear hb hsb hs hl hr hts hcs hf;refine sk ?_;refine wk ?_;exact ab rfl h.out
 | true =>
 have hsl:=Y0 hsb;obtain ⟨k,hk⟩:=aea (TE ts cs r l');have kk3:Hid (Ctr Tryz.prog 9 [.agg [.sl (aW ts) ts.length capT,.sl (bE cs) cs.length capC],.sl (aH r) r.length capR,.sl (bh l') l'.length none] (.int .i64 k)):=hid fun q=>U4 hts hcs hf.ok (by omega) (fun a ha=>(hr.2 a ha).1) (by rw [hk];exact q)
 have kk4:Hid (Ctr Tryz.prog 10 [.agg [.sl (aW ts) ts.length capT,.sl (bE cs) cs.length capC],.sl (aH r) r.length capR,.sl (bh l') l'.length none] (.int .i64 k)):=hid fun q=>XC hts hcs hf.ok (by omega) (fun a ha=>(hr.2 a ha).1) (by rw [hk];exact q)
 clear hb hsb hs hl hr hts hcs hf hsl hk;refine sk ?_;refine wk ?_;exact ab rfl h.out
theorem Zi:RdU Tryz.prog 40 gf (fun a=>am a.1/\am a.2) :=
 (l6 Tryz.underlying40 (N:=2) (by kernel_rfl) (cO (sz:=1) rfl (by kernel_rfl) (uj Tryz.underlying9) (cO (sz:=1) rfl (by kernel_rfl) (uj Tryz.underlying9) (DM rfl)))).map
  fun y hy=>⟨(y.1,y.2.1),⟨rch hy.1,rch hy.2.1⟩,rfl⟩
theorem Zh:RdU Tryz.prog 27 (fun r:List Ava=>[.sl (aH r) r.length none]) aay :=
 (pj Tryz.underlying27 Zi (by kernel_rfl)).map fun l hl=>⟨l,⟨by have:=hl.1;omega,hl.2⟩,rfl⟩
end Go.Proofs.YtigifoeopopnbaaGreatDoor.Av
