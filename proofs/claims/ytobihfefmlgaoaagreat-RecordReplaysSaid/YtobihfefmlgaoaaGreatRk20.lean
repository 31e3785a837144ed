/- Joined texts of the walk, made small by a program. -/
import Derived.Test.YtobihfefmlgaoaaGreatRk17
import Derived.Test.YtobihfefmlgaoaaGreatRk18
import Derived.Test.YtobihfefmlgaoaaGreatRk12
import Derived.Test.YtobihfefmlgaoaaGreatRk10
import Derived.Test.YtobihfefmlgaoaaGreatRk13
import Derived.Test.YtobihfefmlgaoaaGreatRk19
import Derived.Test.YtobihfefmlgaoaaGreatRk5
import Derived.Test.YtobihfefmlgaoaaGreatRk14
import Derived.Test.YtobihfefmlgaoaaGreatRk4
set_option linter.unusedSimpArgs false
set_option linter.unusedVariables false
namespace Go.Proofs.YtobihfefmlgaoaaGreat.Av
open Go
variable {L:List Blk} {K:afC}
set_option maxHeartbeats 8000000
set_option maxRecDepth 100000
def dnM (d:List Rdn):Prop:=d.length<=1100000/\∀ r∈d,r.length<=1100000/\∀ a∈r,(a.1.length:Int)<=140737488351232
theorem dnM.b {d:List Rdn} (h:dnM d):dnB d:=⟨h.1,fun r hr=>(h.2 r hr).1⟩
theorem TM {d:List Rdn} (h:OkD d):d.length<=1000/\∀ r∈d,r.length<=1000/\∀ a∈r,a.1.length<=10000/\a.2.length<=10000:=by
 obtain ⟨q1,q2⟩:=TD h;exact ⟨by omega,fun r hr=>⟨by have:=(q2 r hr).1;omega,fun a ha=>⟨by have:=((q2 r hr).2 a ha).1;omega,by have:=((q2 r hr).2 a ha).2;omega⟩⟩⟩
theorem OkD.m {d:List Rdn} (h:OkD d):dnM d:=⟨by have:=(TM h).1;omega,fun r hr=>⟨by have:=((TM h).2 r hr).1;omega,fun a ha=>by have:=(((TM h).2 r hr).2 a ha).1;omega⟩⟩
theorem ad1 {d:List Rdn} {cap:Option Nat} (hd:OkD d) (h:K (.str (aQ true d)) L) :
  afB 57 [.sl (d.map aw) d.length cap,.bool true] L K:=by
 obtain ⟨q1,q2⟩:=TD hd;have hrl:∀ r∈d,(cn true r).length<=200000:=fun r hr=>OS (q2 r hr).1 (fun a ha=>((q2 r hr).2 a ha).1) (fun a ha=>((q2 r hr).2 a ha).2)
 have htl:=OK (by omega) hrl;exact ZE (TM hd).1 (TM hd).2 (fun r hr=>by have:=hrl r hr;omega) (by omega) h
theorem act {d:List Rdn} {cap:Option Nat} (hd:OkD d) (h:K (.str (aQ true d)) L) :
  afB 69 [.sl ((gf d).map aw) d.length cap] L K:=by
 have hb:=TM hd;have hb2:∀ r∈gf d,r.length<=1000/\∀ a∈r,a.1.length<=10000/\a.2.length<=10000:=fun r hr=>by
  obtain ⟨r0,hr0,rfl⟩:=ahs.1 hr;exact ⟨by rw [rF];exact (hb.2 r0 hr0).1,TF (hb.2 r0 hr0).2⟩
 have:=@SV (gf d) cap (by rw [Oa];exact hb.1) hb2 L K (by rw [yR];exact h)
 rwa [Oa] at this
theorem ZB {d b:List Rdn} {cap cap':Option Nat} (hd:dnB d) (hb:dnB b) (h:K (.bool (cu d b)) L) :
  afB 110 [.sl (d.map aw) d.length cap,.sl (b.map aw) b.length cap'] L K:=by
 have e0:cu d b=(decide (OkD d) && decide (OkD b) && decide (b.length<=d.length) && decide (aQ true (d.drop (d.length - b.length))=aQ true b)):=rfl;obtain ⟨⟨ps,pe⟩,hp⟩:∃ q,prS d=q:=⟨_,rfl⟩;obtain ⟨⟨ns,ne⟩,hn⟩:∃ q,Qw b=q:=⟨_,rfl⟩;have kk1:Hid (Ctr Tryz.prog 27 [.sl (d.map aw) d.length cap] (.tup [.str ps,.int .i64 pe])):=@hid _ (by intro L K q;exact uf hd.1 hd.2 (by rw [hp];exact q));have kk2:Hid (Ctr Tryz.prog 44 [.sl (b.map aw) b.length cap'] (.tup [.str ns,.int .i64 ne])):=@hid _ (by intro L K q;exact Oc hb.1 hb.2 (by rw [hn];exact q));have p1:OkD d↔pe=0:=by unfold OkD;rw [hp]
 by_cases h1:pe=0;rotate_left
 ·rw [e0,decide_eq_false (fun c=>h1 (p1.1 c))] at h;simp only [aiC] at h;replace h:=hid h;clear hp hn e0 p1 hd hb;refine acg mS ?_;exact af h.out
 have hod:OkD d:=p1.2 h1;by_cases h2:ne=0;rotate_left
 ·rw [e0,decide_eq_false (p:=OkD b) (fun c=>h2 (by have:=gg c;rw [hn] at this;injection this))] at h;simp only [aiC,ajI] at h;replace h:=hid h;subst h1;clear hp hn e0 p1 hd hb hod;refine acg mS ?_;exact af h.out
 have hob:OkD b:=by
  by_cases c:OkD b
  ·exact c
  ·exact absurd (by rw [hn];exact h2) (Qv c)
 have hns:ns=aQ true b:=by have:=gg hob;rw [hn] at this;injection this
 rw [decide_eq_true hod,decide_eq_true hob] at e0;simp only [aid] at e0;subst h1 h2;by_cases h3:b.length<=d.length;rotate_left
 ·rw [e0,decide_eq_false h3] at h;simp only [aiC] at h;replace h:=hid h;have g1:(d.length:Int)<(b.length:Int):=by omega
  clear hp hn e0 p1 hd hb hod hob hns;refine acg mS ?_;exact af h.out
 rw [e0,decide_eq_true h3,<- hns] at h;simp only [aid] at h;obtain ⟨k,hk⟩:=aaR (d.length - b.length);rw [hk] at h;have kk3:Hid (∀ {c:Option Nat} {L:List Blk} {K:afC},K (.str (aQ true (d.drop k))) L->afB 57 [.sl (List.take (d.length - k) (List.drop k (d.map aw))) (d.length - k) c,.bool true] L K):=@hid _ (by
  intro c L K q;have:=ad1 (cap:=c) (hod.drop k) q;rw [aik] at this;rw [<- List.map_drop,ah0 (by simp)];exact this)
 have g1:¬ (d.length:Int)<(b.length:Int):=by omega
 have hl:d.length<=32:=hod.len;have g2:IntKind.i64.wrap ((d.length:Int) - (b.length:Int))=(k:Int):=by rw [ac (by omega) (by omega)];omega
 have g3:(k:Int)<=(d.length:Int):=by omega
 replace h:=hid h;clear hp hn e0 p1 hd hb hod hob hns hk h3 hl;refine acg mS ?_;exact af h.out
theorem uR {d b:List Rdn} {cap cap':Option Nat} (hd:dnM d) (hb:dnM b) (h:K (.bool (cu d b)) L) :
  afB 47 [.sl (d.map aw) d.length cap,.sl (b.map aw) b.length cap'] L K:=by
 have e0:cu d b=(decide (OkD d) && decide (OkD b) && decide (b.length<=d.length) && decide (aQ true (d.drop (d.length - b.length))=aQ true b)):=rfl;obtain ⟨⟨ps,pe⟩,hp⟩:∃ q,prS d=q:=⟨_,rfl⟩;obtain ⟨⟨ns,ne⟩,hn⟩:∃ q,Qw b=q:=⟨_,rfl⟩;have kk1:Hid (Ctr Tryz.prog 35 [.sl (d.map aw) d.length cap] (.tup [.str ps,.int .i64 pe])):=@hid _ (by intro L K q;exact jT hd.1 hd.2 (by rw [hp];exact q));have kk2:Hid (Ctr Tryz.prog 86 [.sl (b.map aw) b.length cap'] (.tup [.str ns,.int .i64 ne])):=@hid _ (by intro L K q;exact OT hb.1 hb.2 (by rw [hn];exact q));have p1:OkD d↔pe=0:=by unfold OkD;rw [hp]
 by_cases h1:pe=0;rotate_left
 ·rw [e0,decide_eq_false (fun c=>h1 (p1.1 c))] at h;simp only [aiC] at h;replace h:=hid h;clear hp hn e0 p1 hd hb;refine acg ie ?_;exact af h.out
 have hod:OkD d:=p1.2 h1;by_cases h2:ne=0;rotate_left
 ·rw [e0,decide_eq_false (p:=OkD b) (fun c=>h2 (by have:=gg c;rw [hn] at this;injection this))] at h;simp only [aiC,ajI] at h;replace h:=hid h;subst h1;clear hp hn e0 p1 hd hb hod;refine acg ie ?_;exact af h.out
 have hob:OkD b:=by
  by_cases c:OkD b
  ·exact c
  ·exact absurd (by rw [hn];exact h2) (Qv c)
 have hns:ns=aQ true b:=by have:=gg hob;rw [hn] at this;injection this
 rw [decide_eq_true hod,decide_eq_true hob] at e0;simp only [aid] at e0;subst h1 h2;by_cases h3:b.length<=d.length;rotate_left
 ·rw [e0,decide_eq_false h3] at h;simp only [aiC] at h;replace h:=hid h;have g1:(d.length:Int)<(b.length:Int):=by omega
  clear hp hn e0 p1 hd hb hod hob hns;refine acg ie ?_;exact af h.out
 rw [e0,decide_eq_true h3,<- hns] at h;simp only [aid] at h;obtain ⟨k,hk⟩:=aaR (d.length - b.length);rw [hk] at h;have kk3:Hid (∀ {c:Option Nat} {L:List Blk} {K:afC},K (.sl ((gf (d.drop k)).map aw) (d.length - k) none) L->afB 87 [.sl (List.take (d.length - k) (List.drop k (d.map aw))) (d.length - k) c] L K):=@hid _ (by
  intro c L K q;have hb:=TM (hod.drop k);have:=@W7 (d.drop k) c hb.1 hb.2 L K (by rw [aik];exact q);rw [aik] at this;rw [<- List.map_drop,ah0 (by simp)];exact this)
 have kk4:Hid (∀ {c:Option Nat} {L:List Blk} {K:afC},K (.str (aQ true (d.drop k))) L->afB 69 [.sl ((gf (d.drop k)).map aw) (d.length - k) c] L K):=@hid _ (by
  intro c L K q;have:=act (cap:=c) (hod.drop k) q;rw [aik] at this;exact this)
 have g1:¬ (d.length:Int)<(b.length:Int):=by omega
 have hl:d.length<=32:=hod.len;have g2:IntKind.i64.wrap ((d.length:Int) - (b.length:Int))=(k:Int):=by rw [ac (by omega) (by omega)];omega
 have g3:(k:Int)<=(d.length:Int):=by omega
 replace h:=hid h;clear hp hn e0 p1 hd hb hod hob hns hk h3 hl;refine acg ie ?_;exact af h.out
abbrev aB:=Ent (List Atr)
instance:Inhabited aB:=⟨⟨0,[],[]⟩⟩
def atR (v:List Atr):AV:=.sl (aU v) v.length none
def rW (x:aB):List AV:=[.int .i64 x.id,dnA x.nm,atR x.av]
def aA (l:List aB):List AV:=l.flatMap rW
theorem db (l:List aB):(aA l).length=l.length * 3:=by
 induction l with
 | nil=>rfl
 | cons x l ih =>
   unfold aA at ih ⊢;rw [ahY,ahy,ih,ahD];simp only [rW,ahD,ahZ];omega
theorem kl (l m:List aB):aA (l++m)=aA l++aA m:=by simp [aA]
theorem Uj (l:List aB) (k:Nat):(aA l).drop (k * 3)=aA (l.drop k):=by
 induction l generalizing k with
 | nil=>simp [aA]
 | cons x l ih =>
   cases k with
   | zero=>simp
   | succ k =>
     rw [ajK,<- ih k,show (k+1) * 3=k * 3+1+1+1 by omega];simp [aA,rW]
theorem Zi (l:List aB) (k:Nat):(aA l).take (k * 3)=aA (l.take k):=by
 induction l generalizing k with
 | nil=>simp [aA]
 | cons x l ih =>
   cases k with
   | zero=>simp [aA]
   | succ k =>
     rw [aje,show (k+1) * 3=k * 3+1+1+1 by omega];have:=ih k;simp only [aA] at this;simp [aA,rW,this]
theorem gQ {l:List aB} {k:Nat} (h:k<l.length):((aA l).drop (k * 3)).take 3=rW (l.getD k default):=by
 rw [Uj,ah2 h,show l.getD k default=l[k] by simp [h]];unfold aA;rw [ahY];rfl
theorem kk {l:List aB} {k:Nat} (h:k<l.length):(aA l).getD (k * 3) .undef=.int .i64 (l.getD k default).id/\(aA l).getD (k * 3+1) .undef=dnA (l.getD k default).nm/\(aA l).getD (k * 3+2) .undef=atR (l.getD k default).av:=by
 have hh:∀ j,j<3->(aA l).getD (k * 3+j) .undef=(rW (l.getD k default)).getD j .undef:=fun j hj=>by
  have h3:=congrArg (fun l=>l[j]?) (gQ h);simp only [aib hj,aia] at h3;rw [ahE,h3];exact (ahE ..).symm
 exact ⟨by have:=hh 0 (by omega);simpa [rW] using this,by have:=hh 1 (by omega);simpa [rW] using this,by have:=hh 2 (by omega);simpa [rW] using this⟩
theorem ZD {d:List Rdn} {cap:Option Nat} (hn:d.length<=1100000) (hr:∀ r∈d,r.length<=1100000) (h:K (dnA d) L) :
  afB 36 [.sl (d.map aw) d.length cap] L K:=by
 replace h:=hid h;have hat:=hid (fun k=>@mw d k);replace hr:=hid hr;refine acg SF ?_;refine bi (l:=[]) (n:=0) 3 1 rfl (ahQ 1).symm ?_;refine ah (fun m T' L'=>∃ (k:Nat) (C:List AV) (X:List Blk),m=d.length - k/\k<=d.length/\Hid (C=(d.take k).map aw)/\T'=[(8,.int .i64 (k:Int)),(7,.int .i64 d.length),(6,.sl (d.map aw) d.length cap),(3,.gsl C k L.length 1)]/\L'=L++(.spare k 1::X)) (CutS (b:=by simp)) ⟨0,[],[],rfl,ahp _,hid rfl,rfl,by simp⟩ ?_;rintro _ _ _ ⟨k,C,X,rfl,hk,hC,rfl,rfl⟩;by_cases hlt:k<d.length
 ·have g1:(k:Int)<(d.length:Int):=by omega
  have g2:=ace k (by omega);have e2:=hat.out k hlt;have e3:k<(d.map aw).length:=by simpa using hlt
  obtain ⟨r,hri⟩:=aaR (d.getD k []);have hrl:=hr.out r (by rw [<- hri];simp [hlt]);have htk:(d.take (k+1)).map aw=C++[.sl (aN r) r.length none]:=by
   rw [hC.out,ahK hlt,ahN,show d[k]=r by rw [<- hri];simp [hlt]];rfl
  rw [hri] at e2;have e4:=fV r;have e5:=cr r;replace htk:=hid htk;clear hri hC;refine wk ?_;exact aq _ _ _ (by omega) (CutL (b:=by simp)) ⟨k+1,_,_,rfl,hlt,hid htk.out.symm,rfl,rfl⟩
 ·have hke:k=d.length:=by omega
  subst hke;have g1:¬ (d.length:Int)<(d.length:Int):=by omega
  have hC2:=hC.out;rw [ahA] at hC2;subst hC2;clear hC;refine wk ?_;refine ay ?_;simp only [AV.frz,aO];exact ab (by simp only [AV.refs,cQ]) h.out
theorem ZL {d:List Rdn} {cap cap':Option Nat} (hn:d.length<=1100000) (hr:∀ r∈d,r.length<=1100000) (h:K (.bool true) L) :
  afB 29 [.sl (d.map aw) d.length cap,.sl (d.map aw) d.length cap'] L K:=by
 replace h:=hid h;have hat:=hid (fun k=>@mw d k);replace hr:=hid hr;refine acg SG ?_;refine ah (fun m T' L'=>∃ k:Nat,m=d.length - k/\k<=d.length/\T'=[(14,.int .i64 (k:Int)),(13,.int .i64 d.length),(0,.sl (d.map aw) d.length cap),(1,.sl (d.map aw) d.length cap')]/\L=L') (CutS (b:=ahn _)) ⟨0,rfl,ahp _,rfl,rfl⟩ ?_;rintro _ _ L' ⟨k,rfl,hk,rfl,e⟩;subst e;by_cases hlt:k<d.length
 ·have g1:(k:Int)<(d.length:Int):=by omega
  have g2:=ace k (by omega);have e2:=hat.out k hlt;have e3:k<(d.map aw).length:=by simpa using hlt
  obtain ⟨r,hri⟩:=aaR (d.getD k []);have hrl:=hr.out r (by rw [<- hri];simp [hlt]);rw [hri] at e2;clear hri;refine wk ?_;refine ah (fun m T' L'=>∃ j:Nat,m=r.length - j/\j<=r.length/\T'=[(33,.int .i64 (j:Int)),(32,.int .i64 r.length),(5,.int .i64 (k:Int)),(14,.int .i64 (k:Int)),(13,.int .i64 d.length),(0,.sl (d.map aw) d.length cap),(1,.sl (d.map aw) d.length cap')]/\L=L') (CutS (b:=ahn _)) ⟨0,rfl,ahp _,rfl,rfl⟩ ?_;rintro _ _ L' ⟨j,rfl,hj,rfl,e⟩;subst e;by_cases hjl:j<r.length
  ·have j1:(j:Int)<(r.length:Int):=by omega
   have j2:=ace j (by omega);have e5:=fW hjl;have e6:j * 2+2<=(aN r).length:=by rw [cr];omega
   obtain ⟨⟨ty,va⟩,ha⟩:∃ a,r.getD j ([],[])=a:=⟨_,rfl⟩;rw [ha] at e5;simp only [oC] at e5;clear ha;refine wk ?_;exact aq _ _ _ (by omega) (CutL (b:=by simp)) ⟨j+1,rfl,hjl,rfl,rfl⟩
  ·have j1:¬ (j:Int)<(r.length:Int):=by omega
   refine wk ?_;exact aq _ _ _ (by omega) (CutL (b:=by simp)) ⟨k+1,rfl,hlt,rfl,rfl⟩
 ·have g1:¬ (k:Int)<(d.length:Int):=by omega
  refine wk ?_;exact af h.out
def plI (o:Option Nat):Int:=match o with|some i=>(i:Int)|none=>-1
theorem VI {β:Type} {f:β->Bool} {l:List β} {k:Nat} [Inhabited β] (hk:k<l.length) (h:∀ j,j<k->f (l.getD j default)=false) (hf:f (l.getD k default)=true):l.findIdx? f=some k:=by
 rw [List.findIdx?_eq_some_iff_getElem];refine ⟨hk,by simpa [hk] using hf,fun j hj=>?_⟩;have:=h j hj;simpa [show j<l.length by omega] using this
theorem VJ {β:Type} {f:β->Bool} {l:List β} [Inhabited β] (h:∀ j,j<l.length->f (l.getD j default)=false):l.findIdx? f=none:=by
 rw [ajz];intro x hx;obtain ⟨j,hj,e⟩:=aiv.1 hx;have:=h j hj;rw [<- e];simpa [hj] using this
def byI (l:List aB) (id:Int):Int:=plI (l.findIdx? fun x=>decide (x.id=id))
def atI (l:List aB) (d:List Rdn):Int:=if OkD d then plI (l.findIdx? fun x=>decide (NK x.nm=NK d)) else -1
theorem Wa {l:List aB} {id:Int} {rt:Nat} {c:Option Nat} {a b:AV} (hn:l.length<=1100000) {L:List Blk} (hL:L[rt]?=some (.cells [a,.sl (aA l) l.length c,b])) {K:afC} (h:K (.int .i64 (byI l id)) L) :
  afB 58 [.ptr rt 0,.int .i64 id] L K:=by
 obtain ⟨R,hR⟩:=aaR (byI l id);rw [hR] at h;replace h:=hid h;replace hR:=hid hR;have hel:=db l;refine acg KL ?_;refine ah (fun m T' L'=>∃ k:Nat,m=l.length - k/\k<=l.length/\Hid (∀ j,j<k->¬ (l.getD j default).id=id)/\T'=[(11,.int .i64 (k:Int)),(10,.int .i64 l.length),(0,.ptr rt 0),(1,.int .i64 id)]/\L=L') (CutS (b:=ahn _)) ⟨0,rfl,ahp _,hid (fun j hj=>absurd hj (aja _)),rfl,rfl⟩ ?_;rintro _ _ L' ⟨k,rfl,hk,hI,rfl,e⟩;subst e;by_cases hlt:k<l.length
 ·have g1:(k:Int)<(l.length:Int):=by omega
  have g2:=ace k (by omega);have e4:k * 3+2<(aA l).length:=by rw [hel];omega
  have e4':k * 3<(aA l).length:=by omega
  obtain ⟨e5,_,_⟩:=kk hlt;obtain ⟨x,hx⟩:=aaR (l.getD k default);rw [hx] at e5;by_cases hid':x.id=id
  ·have hr:R=(k:Int):=by
    rw [<- hR.out];unfold byI;rw [VI hlt (fun j hj=>decide_eq_false (hI.out j hj)) (by rw [hx];simpa using hid')];rfl
   have h':=h.out;rw [hr] at h';replace h':=hid h';obtain ⟨xi,hxi⟩:=aaR (x.id);rw [hxi] at e5 hid';subst hid';clear hx hxi hI hR hr;refine wk ?_;exact af h'.out
  ·obtain ⟨xi,hxi⟩:=aaR (x.id);rw [hxi] at e5 hid';have hI':=hid (fun j (hj:j<k+1)=>show ¬ (l.getD j default).id=id from by
    by_cases e:j=k
    ·subst e;rw [hx,hxi];exact hid'
    ·exact hI.out j (by omega))
   clear hx hxi hI hR;refine wk ?_;exact aq _ _ _ (by omega) (CutL (b:=by simp)) ⟨k+1,rfl,hlt,hI',rfl,rfl⟩
 ·have hke:k=l.length:=by omega
  subst hke;have g1:¬ (l.length:Int)<(l.length:Int):=by omega
  have hr:R=-1:=by
   rw [<- hR.out];unfold byI;rw [VJ (f:=fun x:aB=>decide (x.id=id)) (l:=l) fun j hj=>decide_eq_false (hI.out j hj)];rfl
  have h':=h.out;rw [hr] at h';replace h':=hid h';clear hI hR hr;refine wk ?_;exact af h'.out
theorem Vm {l:List aB} (ho:∀ x∈l,OkD x.nm) {d:List Rdn} {cap:Option Nat} (hd:dnM d) {rt:Nat} {c:Option Nat} {a b:AV} (hn:l.length<=1100000) {L:List Blk} (hL:L[rt]?=some (.cells [a,.sl (aA l) l.length c,b])) {K:afC} (h:K (.int .i64 (atI l d)) L) :
  afB 46 [.ptr rt 0,.sl (d.map aw) d.length cap] L K:=by
 obtain ⟨⟨ns,ne⟩,hns⟩:∃ q,Qw d=q:=⟨_,rfl⟩;have kk1:Hid (Ctr Tryz.prog 86 [.sl (d.map aw) d.length cap] (.tup [.str ns,.int .i64 ne])):=@hid _ (by intro L K q;exact OT hd.1 hd.2 (by rw [hns];exact q));have hel:=db l;by_cases h0:ne=0;rotate_left
 ·have hod:¬ OkD d:=fun c=>h0 (by have:=gg c;rw [hns] at this;injection this)
  unfold atI at h;rw [if_neg hod] at h;replace h:=hid h;clear hns hod ho hd;refine acg rN ?_;refine ah (fun m T' L'=>m=1/\T'=[(7,.int .i64 0),(6,.int .i64 ne),(5,.str ns),(0,.ptr rt 0)]/\L=L') (CutS (b:=ahn _)) ⟨rfl,rfl,rfl⟩ ?_;rintro _ _ _ ⟨rfl,rfl,rfl⟩;refine wk ?_;exact af h.out
 have hod:OkD d:=by
  by_cases c:OkD d
  ·exact c
  ·exact absurd (by rw [hns];exact h0) (Qv c)
 have hs:ns=aQ true d:=by have:=gg hod;rw [hns] at this;injection this
 subst h0;obtain ⟨R,hR⟩:=aaR (plI (l.findIdx? fun x=>decide (NK x.nm=NK d)));unfold atI at h;rw [if_pos hod,hR] at h;replace h:=hid h;replace hR:=hid hR;have heq:=hid (fun (x:aB) (hx:x∈l)=>show aQ true x.nm=ns↔NK x.nm=NK d by rw [hs];exact kI (ho x hx) hod);replace ho:=hid ho;clear hns hs hod hd;refine acg rN ?_;refine ah (fun m T' L'=>∃ k:Nat,m=l.length - k/\k<=l.length/\Hid (∀ j,j<k->¬ NK (l.getD j default).nm=NK d)/\T'=[(7,.int .i64 (k:Int)),(6,.int .i64 0),(5,.str ns),(0,.ptr rt 0)]/\L=L') (CutS (b:=ahn _)) ⟨0,rfl,ahp _,hid (fun j hj=>absurd hj (aja _)),rfl,rfl⟩ ?_;rintro _ _ L' ⟨k,rfl,hk,hI,rfl,e⟩;subst e;by_cases hlt:k<l.length
 ·have g1:(k:Int)<(l.length:Int):=by omega
  have g2:=ace k (by omega);have e4:k * 3+1<(aA l).length:=by rw [hel];omega
  obtain ⟨_,e5,_⟩:=kk hlt;obtain ⟨x,hx⟩:=aaR (l.getD k default);rw [hx] at e5;have hxm:x∈l:=by rw [<- hx];simp [hlt]
  have hq:=heq.out x hxm;have hox:=ho.out x hxm;obtain ⟨m,hm⟩:=aaR (aQ true x.nm);have kk2:Hid (Ctr Tryz.prog 86 [.sl (x.nm.map aw) x.nm.length none] (.tup [.str m,.int .i64 0])):=@hid _ (by intro L K q;exact OT hox.m.1 hox.m.2 (by rw [gg hox,hm];exact q));rw [hm] at hq;obtain ⟨xn,hxn⟩:=aaR (x.nm);rw [hxn] at e5 kk2;by_cases hms:m=ns
  ·have hr:R=(k:Int):=by
    rw [<- hR.out,VI hlt (fun j hj=>decide_eq_false (hI.out j hj)) (by rw [hx];exact decide_eq_true (hq.1 hms))];rfl
   have h':=h.out;rw [hr] at h';replace h':=hid h';subst hms;clear hx hxm hI hR hr hq hox hm hxn heq ho;refine wk ?_;exact af h'.out
  ·have hms':¬ ns=m:=fun e=>hms e.symm
   have hI':=hid (fun j (hj:j<k+1)=>show ¬ NK (l.getD j default).nm=NK d from by
    by_cases e:j=k
    ·subst e;rw [hx];exact fun c=>hms (hq.2 c)
    ·exact hI.out j (by omega))
   clear hx hxm hI hR hq hox hm hxn heq ho;refine wk ?_;exact aq _ _ _ (by omega) (CutL (b:=by simp)) ⟨k+1,rfl,hlt,hI',rfl,rfl⟩
 ·have hke:k=l.length:=by omega
  subst hke;have g1:¬ (l.length:Int)<(l.length:Int):=by omega
  have hr:R=-1:=by
   rw [<- hR.out,VJ (f:=fun x:aB=>decide (NK x.nm=NK d)) (l:=l) fun j hj=>decide_eq_false (hI.out j hj)];rfl
  have h':=h.out;rw [hr] at h';replace h':=hid h';clear hI hR hr heq ho;refine wk ?_;exact af h'.out
abbrev TKy:=List UInt8×Int×Nat
def kyA (r:TKy):AV×AV×Nat:=(.str r.1,.int .i64 r.2.1,r.2.2)
def fz (nb bn:Int->Nat) (x:aB):AV×AV×Nat:=(.int .i64 x.id,.ptr (nb x.id) 0,bn x.id)
def lv (l:List aB) (x:aB):List AV:=[dnA x.nm,.sl (aF (pth x)) x.nm.length none,atR x.av,.int .i64 (aZ (dq l) (NK x.nm):Nat)]
structure bu (L:List Blk) (iv mn mi:Nat) (nb bn:Int->Nat) (ck ci:Nat) (rs:List TKy) (suf:List Rdn) (last:Int) (l:List aB):Prop where
 v:L[iv]?=some (.cells [dnA suf,.lmap mn,.lmap mi,.int .i64 last])
 n:L[mn]?=some (.map (l.map (fz nb bn)) ck)
 i:L[mi]?=some (.map (rs.map kyA) ci)
 nd:∀ x∈l,L[nb x.id]?=some (.cells (lv l x))
 keys:(rs.map (·.1)).Nodup
 mem:∀ k id,(∃ b,(k,id,b)∈rs)↔∃ x∈l,aQ true x.nm=k/\x.id=id
 bnd:(l.map fun x=>bn x.id).Nodup
 blt:∀ x∈l,bn x.id<ck
theorem bu.app {L:List Blk} {iv mn mi:Nat} {nb bn:Int->Nat} {ck ci:Nat} {rs:List TKy} {suf:List Rdn} {last:Int} {l:List aB} (h:bu L iv mn mi nb bn ck ci rs suf last l) (X:List Blk):bu (L++X) iv mn mi nb bn ck ci rs suf last l:=by
 have key:∀ {i:Nat} {b:Blk},L[i]?=some b->(L++X)[i]?=some b:=fun {i b} e=>by
  rw [ahq (ahm.1 e).1];exact e
 exact ⟨key h.v,key h.n,key h.i,fun x hx=>key (h.nd x hx),h.keys,h.mem,h.bnd,h.blt⟩
theorem yC:∀ (rs:List TKy) (k:List UInt8) (j:Nat),cZ (.str k) (rs.map kyA) j=some ((rs.findIdx? fun r=>decide (r.1=k)).map fun n=>(j+n,.int .i64 (rs.getD n default).2.1))
 | [],k,j=>rfl
 | r::rs,k,j=>by
   by_cases h:k=r.1
   ·subst h;simp [cZ,kyA,GV,ai6]
   ·have h':¬ r.1=k:=fun e=>h e.symm
    simp only [ahH,kyA,cZ,GV,decide_eq_false h,ai6,decide_eq_false h',ahJ,if_false];have ih:=yC rs k (j+1);rw [ih];cases rs.findIdx? (fun r=>decide (r.1=k)) with
    | none=>rfl
    | some n=>simp only [ahM];rw [show j+1+n=j+(n+1) by omega];rfl
theorem yx (nb bn:Int->Nat):∀ (l:List aB) (id:Int) (j:Nat),cZ (.int .i64 id) (l.map (fz nb bn)) j=some ((l.findIdx? fun x=>decide (x.id=id)).map fun n=>(j+n,.ptr (nb id) 0))
 | [],id,j=>rfl
 | x::l,id,j=>by
   by_cases h:id=x.id
   ·subst h;simp [cZ,fz,GV,ai6]
   ·have h':¬ x.id=id:=fun e=>h e.symm
    simp only [ahH,fz,cZ,GV,if_true,decide_eq_false h,ai6,decide_eq_false h',ahJ,if_false];have ih:=yx nb bn l id (j+1);rw [ih];cases l.findIdx? (fun x=>decide (x.id=id)) with
    | none=>rfl
    | some n=>simp only [ahM];rw [show j+1+n=j+(n+1) by omega]
theorem eY {β:Type} {f:β->Bool} {l:List β} [Inhabited β]:(l.findIdx? f=none/\l.find? f=none)\/∃ n,l.findIdx? f=some n/\n<l.length/\l.find? f=some (l.getD n default):=by
 induction l with
 | nil=>exact .inl ⟨rfl,rfl⟩
 | cons x l ih =>
   by_cases h:f x=true
   ·exact .inr ⟨0,by simp [ai6,h],by simp,by simp [ajE,h]⟩
   ·rcases ih with ⟨h1,h2⟩|⟨n,h1,h2,h3⟩
    ·exact .inl ⟨by simp [ai6,h,h1],by simp [ajE,h,h2]⟩
    ·exact .inr ⟨n+1,by simp [ai6,h,h1],by simpa using h2,by simp [ajE,h,h3]⟩
theorem bu.look {L:List Blk} {iv mn mi:Nat} {nb bn:Int->Nat} {ck ci:Nat} {rs:List TKy} {suf:List Rdn} {last:Int} {l:List aB} (h:bu L iv mn mi nb bn ck ci rs suf last l) (ht:TOk suf last l) {d:List Rdn} (hd:OkD d) :
  (aY l d=0/\atE l d=none/\cZ (.str (aQ true d)) (rs.map kyA) 0=some none)\/∃ j,cZ (.str (aQ true d)) (rs.map kyA) 0=some (some (j,.int .i64 (aY l d))):=by
 rw [yC];rcases eY (f:=fun r:TKy=>decide (r.1=aQ true d)) (l:=rs) with ⟨h1,h2⟩|⟨n,h1,hn,h2⟩
 ·left;have hno:atE l d=none:=yM.2 fun _ x hx e=>by
   obtain ⟨b,hb⟩:=(h.mem (aQ true x.nm) x.id).2 ⟨x,hx,rfl,rfl⟩;have:=ai2.1 h2 _ hb;simp only [decide_eq_true_eq] at this;exact this ((kI (ht.ok x hx) hd).2 e)
  exact ⟨ht.find0.2 hno,hno,by rw [h1];rfl⟩
 ·right;refine ⟨n,?_⟩;obtain ⟨⟨k,id,b⟩,hr⟩:∃ r,rs.getD n default=r:=⟨_,rfl⟩;have hm:=aiR h2;have hk:k=aQ true d:=by have:=aiQ h2;rw [hr] at this;simpa using this
  rw [hr] at hm;obtain ⟨x,hx,e1,e2⟩:=(h.mem k id).1 ⟨b,hm⟩;have:atE l d=some x:=ht.at hx hd ((kI hd (ht.ok x hx)).1 (by rw [<- hk,e1]));rw [h1];simp only [ahM,hr,aiU,aY,this,e2]
theorem yY {d:List Rdn} {cap:Option Nat} (hd:dnB d) {L:List Blk} {iv mn mi:Nat} {nb bn:Int->Nat} {ck ci:Nat} {rs:List TKy} {suf:List Rdn} {last:Int} {l:List aB} (ht:TOk suf last l) (hc:bu L iv mn mi nb bn ck ci rs suf last l) {K:afC} (h:K (.int .i64 (aY l d)) L) :
  afB 24 [.ptr iv 0,.sl (d.map aw) d.length cap] L K:=by
 replace h:=hid h;obtain ⟨⟨s,e⟩,hse⟩:∃ q,Qw d=q:=⟨_,rfl⟩;have kk1:Hid (Ctr Tryz.prog 44 [.sl (d.map aw) d.length cap] (.tup [.str s,.int .i64 e])):=@hid _ (by intro L K q;exact Oc hd.1 hd.2 (by rw [hse];exact q));have hv:=hc.v;have hi:=hc.i;by_cases he:e=0
 ·subst he;have hod:OkD d:=by
   by_cases c:OkD d
   ·exact c
   ·exact absurd (by rw [hse]) (Qv c)
  have hs:s=aQ true d:=by have:=gg hod;rw [hse] at this;injection this
  rcases hc.look ht hod with ⟨h0,_,h1⟩|⟨j,h1⟩
  ·rw [<- hs] at h1;rw [h0] at h;have hkf:bg .str (.str s)=true:=rfl;clear hse hc hs;refine acg bN ?_;exact af h.out
  ·rw [<- hs] at h1;have hkf:bg .str (.str s)=true:=rfl;obtain ⟨z,hz⟩:=aaR (aY l d);rw [hz] at h h1;clear hse hc hs hz;refine acg bN ?_;exact af h.out
 ·have h0:aY l d=0:=by
   refine ht.find0.2 (yM.2 fun c=>?_);have:=gg c;rw [hse] at this;exact absurd (by injection this) he
  rw [h0] at h;clear hse hc;refine acg bN ?_;exact af h.out
theorem um (l:List aB) (d:List Rdn):(atI l d=-1/\atE l d=none)\/∃ n:Nat,n<l.length/\atI l d=n/\atE l d=some (l.getD n default):=by
 unfold atI atE;by_cases h:OkD d
 ·rw [if_pos h,if_pos h];rcases eY (f:=fun x:aB=>decide (NK x.nm=NK d)) (l:=l) with ⟨h1,h2⟩|⟨n,h1,h2,h3⟩
  ·exact .inl ⟨by rw [h1];rfl,h2⟩
  ·exact .inr ⟨n,h2,by rw [h1];rfl,h3⟩
 ·rw [if_neg h,if_neg h];exact .inl ⟨rfl,rfl⟩
theorem Uk (l:List aB) (id:Int):(byI l id=-1/\ux l id=none)\/∃ n:Nat,n<l.length/\byI l id=n/\ux l id=some (l.getD n default):=by
 unfold byI ux;rcases eY (f:=fun x:aB=>decide (x.id=id)) (l:=l) with ⟨h1,h2⟩|⟨n,h1,h2,h3⟩
 ·exact .inl ⟨by rw [h1];rfl,h2⟩
 ·exact .inr ⟨n,h2,by rw [h1];rfl,h3⟩
theorem aen {l:List aB} (ho:∀ x∈l,OkD x.nm) {d:List Rdn} {cap:Option Nat} (hd:dnM d) {rt:Nat} {c:Option Nat} {a b:AV} (hn:l.length<=1100000) {L:List Blk} (hL:L[rt]?=some (.cells [a,.sl (aA l) l.length c,b])) {K:afC} (h:K (.int .i64 (aY l d)) L) :
  afB 78 [.ptr rt 0,.sl (d.map aw) d.length cap] L K:=by
 have kk1:Hid (∀ {K:afC},K (.int .i64 (atI l d)) L->afB 46 [.ptr rt 0,.sl (d.map aw) d.length cap] L K):=@hid _ (by intro K q;exact Vm ho hd hn hL q);have hel:=db l;unfold aY at h;rcases um l d with ⟨e1,e2⟩|⟨n,hlt,e1,e2⟩
 ·rw [e2] at h;rw [e1] at kk1;replace h:=hid h;clear ho hd e1 e2;refine acg oq ?_;exact af h.out
 ·rw [e2] at h;rw [e1] at kk1;obtain ⟨e5,_,_⟩:=kk hlt;obtain ⟨x,hx⟩:=aaR (l.getD n default);rw [hx] at e5 h;obtain ⟨xi,hxi⟩:=aaR (x.id);simp only [hxi] at h;rw [hxi] at e5;have e4:n * 3<(aA l).length:=by rw [hel];omega
  have g1:¬ (n:Int)<0:=by omega
  replace h:=hid h;clear ho hd e1 e2 hx hxi;refine acg oq ?_;exact af h.out
theorem ZP {suf:List Rdn} {last:Int} {l:List aB} (ht:TOk suf last l) {id:Int} {rt:Nat} {c:Option Nat} {a b:AV} (hn:l.length<=1100000) {L:List Blk} (hL:L[rt]?=some (.cells [a,.sl (aA l) l.length c,b])) {K:afC} (h:K (.int .i64 (eX l id:Nat)) L) :
  afB 32 [.ptr rt 0,.int .i64 id] L K:=by
 have kk1:Hid (∀ {K:afC},K (.int .i64 (byI l id)) L->afB 58 [.ptr rt 0,.int .i64 id] L K):=@hid _ (by intro K q;exact Wa hn hL q);have hel:=db l;unfold eX at h;rcases Uk l id with ⟨e1,e2⟩|⟨n,hlt,e1,e2⟩
 ·rw [e2] at h;rw [e1] at kk1;replace h:=hid h;clear e1 e2 ht;refine acg oo ?_;refine ah (fun m T' L'=>∃ k:Nat,m=l.length - k/\k<=l.length/\T'=[(16,.int .i64 (k:Int)),(15,.int .i64 l.length),(6,.int .i64 0),(5,.int .i64 (-1)),(0,.ptr rt 0)]/\L=L') (CutS (b:=ahn _)) ⟨0,rfl,ahp _,rfl,rfl⟩ ?_;rintro _ _ L' ⟨k,rfl,hk,rfl,e⟩;subst e;by_cases hkl:k<l.length
  ·have g1:(k:Int)<(l.length:Int):=by omega
   have g2:=ace k (by omega);refine wk ?_;exact aq _ _ _ (by omega) (CutL (b:=by simp)) ⟨k+1,rfl,hkl,rfl,rfl⟩
  ·have hke:k=l.length:=by omega
   subst hke;have g1:¬ (l.length:Int)<(l.length:Int):=by omega
   refine wk ?_;exact af h.out
 ·rw [e2] at h;rw [e1] at kk1;have hxm:l.getD n default∈l:=by simp [hlt]
  simp only at h;rw [ht.kids hxm] at h;obtain ⟨_,e5,_⟩:=kk hlt;have hox:=ht.ok _ hxm;obtain ⟨xn,hxn⟩:=aaR ((l.getD n default).nm);rw [hxn] at e5 h hox;have e4:n * 3+1<(aA l).length:=by rw [hel];omega
  have g0:(0:Int)<=(n:Int):=by omega
  obtain ⟨R,hR⟩:=aaR ((l.filter fun k=>decide (k.nm.length=xn.length+1) && cu k.nm xn).length);rw [hR] at h;have hlim:∀ k,((l.take k).filter fun k=>decide (k.nm.length=xn.length+1) && cu k.nm xn).length<=l.length:=fun k=>ahV (ai5 _ _) (by simp;omega)
  replace hlim:=hid hlim;replace h:=hid h;replace hR:=hid hR;have ho:=hid ht.ok;have kU:Hid (∀ y∈l,∀ {K:afC},K (.bool (cu y.nm xn)) L->afB 47 [dnA y.nm,dnA xn] L K):=@hid _ (by intro y hy K q;exact uR (ho.out y hy).m hox.m q);have hw:IntKind.i64.wrap ((xn.length:Int)+1)=(xn.length:Int)+1:=by have:=hox.len;exact ac (by omega) (by omega)
  clear e1 e2 ht hxm hxn hox;refine acg oo ?_;refine ah (fun m T' L'=>∃ (k s:Nat),m=l.length - k/\k<=l.length/\Hid (((l.take k).filter fun k=>decide (k.nm.length=xn.length+1) && cu k.nm xn).length=s)/\T'=[(16,.int .i64 (k:Int)),(15,.int .i64 l.length),(6,.int .i64 (s:Int)),(5,.int .i64 (n:Int)),(0,.ptr rt 0)]/\L=L') (CutS (b:=ahn _)) ⟨0,0,rfl,ahp _,hid rfl,rfl,rfl⟩ ?_;rintro _ _ L' ⟨k,s,rfl,hk,hI,rfl,e⟩;subst e;by_cases hkl:k<l.length
  ·have g1:(k:Int)<(l.length:Int):=by omega
   have g2:=ace k (by omega);obtain ⟨_,e6,_⟩:=kk hkl;have e7:k * 3+1<(aA l).length:=by rw [hel];omega
   have hym:l.getD k default∈l:=by simp [hkl]
   have htk:l.take (k+1)=l.take k++[l.getD k default]:=by rw [ahK hkl];simp [hkl]
   obtain ⟨y,hy⟩:=aaR (l.getD k default);rw [hy] at e6 hym htk;have kk2:=@hid _ (fun {K:afC}=>kU.out y hym (K:=K));have hs:=hlim.out k;rw [hI.out] at hs;have g3:=ace s (by omega);have hI':((l.take (k+1)).filter fun k=>decide (k.nm.length=xn.length+1) && cu k.nm xn).length=s+(if y.nm.length=xn.length+1 then if cu y.nm xn=true then 1 else 0 else 0):=by
    rw [htk,ajR,ahy,hI.out]
    congr 1
    by_cases c1:y.nm.length=xn.length+1
    ·cases c2:cu y.nm xn<;>simp [c1,c2]
    ·simp [c1]
   obtain ⟨yn,hyn⟩:=aaR (y.nm);rw [hyn] at e6 kk2 hI';obtain ⟨u,hu⟩:=aaR (cu yn xn);rw [hu] at kk2 hI';by_cases c1:yn.length=xn.length+1
   ·have j1:((yn.length:Int)=(xn.length:Int)+1):=by omega
    rw [if_pos c1] at hI';cases u with
    | true =>
      replace hI':=hid hI';clear hI hym htk hy hyn hu kU c1 hs hR;refine wk ?_;exact aq _ _ _ (by omega) (CutL (b:=by simp)) ⟨k+1,s+1,rfl,hkl,hid hI'.out,rfl,rfl⟩
    | false =>
      replace hI':=hid hI';clear hI hym htk hy hyn hu kU c1 hs hR;refine wk ?_;exact aq _ _ _ (by omega) (CutL (b:=by simp)) ⟨k+1,s,rfl,hkl,hid hI'.out,rfl,rfl⟩
   ·have j1:¬ ((yn.length:Int)=(xn.length:Int)+1):=by omega
    rw [if_neg c1] at hI';replace hI':=hid hI';clear hI hym htk hy hyn hu kU c1 hs hR;refine wk ?_;exact aq _ _ _ (by omega) (CutL (b:=by simp)) ⟨k+1,s,rfl,hkl,hid hI'.out,rfl,rfl⟩
  ·have hke:k=l.length:=by omega
   subst hke;have g1:¬ (l.length:Int)<(l.length:Int):=by omega
   have hIe:=hI.out;rw [ahA,hR.out] at hIe;have h':=h.out;rw [hIe] at h';replace h':=hid h';clear hI hIe hR kU;refine wk ?_;exact af h'.out
theorem bu.node {L:List Blk} {iv mn mi:Nat} {nb bn:Int->Nat} {ck ci:Nat} {rs:List TKy} {suf:List Rdn} {last:Int} {l:List aB} (h:bu L iv mn mi nb bn ck ci rs suf last l) (id:Int) :
  (ux l id=none/\cZ (.int .i64 id) (l.map (fz nb bn)) 0=some none)\/∃ x n,ux l id=some x/\x∈l/\x.id=id/\cZ (.int .i64 id) (l.map (fz nb bn)) 0=some (some (n,.ptr (nb id) 0))/\L[nb id]?=some (.cells (lv l x)):=by
 rw [yx];unfold ux;rcases eY (f:=fun x:aB=>decide (x.id=id)) (l:=l) with ⟨h1,h2⟩|⟨n,h1,h2,h3⟩
 ·exact .inl ⟨h2,by rw [h1];rfl⟩
 ·right;have hm:=aiR h3;have hi:(l.getD n default).id=id:=by have:=aiQ h3;simpa using this
  refine ⟨_,n,h3,hm,hi,by rw [h1];simp,?_⟩;have:=h.nd _ hm
  rwa [hi] at this
theorem adY {L:List Blk} {iv mn mi:Nat} {nb bn:Int->Nat} {ck ci:Nat} {rs:List TKy} {suf:List Rdn} {last:Int} {l:List aB} (hc:bu L iv mn mi nb bn ck ci rs suf last l) {id:Int} {K:afC} (h:K (.int .i64 (eX l id:Nat)) L) :
  afB 31 [.ptr iv 0,.int .i64 id] L K:=by
 have hv:=hc.v;have hn:=hc.n;have hkf:bg .int (.int .i64 id)=true:=rfl;unfold eX at h;rcases hc.node id with ⟨e1,e2⟩|⟨x,n,e1,hx,hxi,e2,e3⟩
 ·rw [e1] at h;replace h:=hid h;clear hc e1;refine acg qh ?_;exact af h.out
 ·rw [e1] at h;simp only at h;obtain ⟨q,hq⟩:=aaR (aZ (dq l) (NK x.nm));unfold lv at e3;rw [hq] at h e3;replace h:=hid h;clear hc e1 hx hxi hq;refine acg qh ?_;exact af h.out
theorem afA {L:List Blk} {iv mn mi:Nat} {nb bn:Int->Nat} {ck ci:Nat} {rs:List TKy} {suf:List Rdn} {last:Int} {l:List aB} (hc:bu L iv mn mi nb bn ck ci rs suf last l) {K:afC} (h:K (.int .i64 (l.length:Nat)) L) :
  afB 28 [.ptr iv 0] L K:=by
 have hv:=hc.v;have hn:=hc.n;have e0:(l.map (fz nb bn)).length=l.length:=ahF _;replace h:=hid h;clear hc;refine acg Oq ?_;exact af h.out
theorem abY {L:List Blk} {iv mn mi:Nat} {nb bn:Int->Nat} {ck ci:Nat} {rs:List TKy} {suf:List Rdn} {last:Int} {l:List aB} (hd:dnB suf) (hc:bu L iv mn mi nb bn ck ci rs suf last l) {K:afC} (h:K (dnA suf) L) :
  afB 9 [.ptr iv 0] L K:=by
 have hv:=hc.v;have kk2:Hid (∀ {c:Option Nat} {L:List Blk} {K:afC},K (dnA suf) L->afB 25 [.sl (suf.map aw) suf.length none,.sl [] 0 c] L K):=@hid _ (by intro c L K q;exact Og hd.1 hd.2 q);replace h:=hid h;clear hc hd;refine acg GW ?_;exact af h.out
theorem Zz {d b:List Rdn} {cap cap':Option Nat} (hd:dnB d) (hb:dnB b) {v:Nat} (h:K (.bool (GT d b)) L) :
  afB 79 [.ptr v 0,.sl (d.map aw) d.length cap,.sl (b.map aw) b.length cap'] L K:=by
 have kk1:Hid (Ctr Tryz.prog 110 [.sl (d.map aw) d.length cap,.sl (b.map aw) b.length cap'] (.bool (cu d b))):=@hid _ (by intro L K q;exact ZB hd hb q);unfold GT at h;obtain ⟨u,hu⟩:=aaR (cu d b);rw [hu] at h kk1;by_cases c:d.length=b.length
 ·have g:(d.length:Int)=(b.length:Int):=by omega
  rw [decide_eq_true c,aid] at h;replace h:=hid h;clear hu hd hb c;refine acg qg ?_;exact af h.out
 ·have g:¬ (d.length:Int)=(b.length:Int):=by omega
  rw [decide_eq_false c,aiC] at h;replace h:=hid h;clear hu hd hb c;refine acg qg ?_;exact af h.out
theorem aaN {d b:List Rdn} {cap cap':Option Nat} (hd:dnM d) (hb:dnM b) (h:K (.bool (GT d b)) L) :
  afB 85 [.sl (d.map aw) d.length cap,.sl (b.map aw) b.length cap'] L K:=by
 have kk1:Hid (Ctr Tryz.prog 47 [.sl (d.map aw) d.length cap,.sl (b.map aw) b.length cap'] (.bool (cu d b))):=@hid _ (by intro L K q;exact uR hd hb q);unfold GT at h;obtain ⟨u,hu⟩:=aaR (cu d b);rw [hu] at h kk1;by_cases c:d.length=b.length
 ·have g:(d.length:Int)=(b.length:Int):=by omega
  rw [decide_eq_true c,aid] at h;replace h:=hid h;clear hu hd hb c;refine acg GN ?_;exact af h.out
 ·have g:¬ (d.length:Int)=(b.length:Int):=by omega
  rw [decide_eq_false c,aiC] at h;replace h:=hid h;clear hu hd hb c;refine acg GN ?_;exact af h.out
theorem Yz {d:List Rdn} {cap:Option Nat} (hd:dnM d) {L:List Blk} {K:afC}
  (h:¬ OkD d->K (.tup [.nilptr,.int .i64 (prS d).2]) L) (h2:d=[]->K (.tup [.nilptr,.int .i64 2]) L) (h3:OkD d->d≠[]->K (.tup [.ptr L.length 0,.int .i64 0]) (L++[.cells [dnA d,.sl [] 0 (some 0),.int .i64 0]])) :
  afB 14 [.sl (d.map aw) d.length cap] L K:=by
 obtain ⟨⟨s,e⟩,hse⟩:∃ q,prS d=q:=⟨_,rfl⟩;have kk1:Hid (Ctr Tryz.prog 35 [.sl (d.map aw) d.length cap] (.tup [.str s,.int .i64 e])):=@hid _ (by intro L K q;exact jT hd.1 hd.2 (by rw [hse];exact q));have kk2:Hid (Ctr Tryz.prog 36 [.sl (d.map aw) d.length cap] (dnA d)):=@hid _ (by intro L K q;exact ZD hd.b.1 hd.b.2 q);have p1:OkD d↔e=0:=by unfold OkD;rw [hse]
 rw [hse] at h;by_cases he:e=0;rotate_left
 ·replace h:=hid (h fun c=>he (p1.1 c));clear hse p1 h2 h3 hd;refine acg rO ?_;exact af h.out
 subst he;by_cases hl:d.length=0
 ·have hnil:=ahX.1 hl;replace h:=hid (h2 hnil);subst hnil;clear hse p1 h2 h3 hd hl;refine acg rO ?_;exact af h.out
 ·have g:¬ (d.length:Int)=0:=by omega
  replace h:=hid (h3 (p1.2 rfl) fun c=>hl (by rw [c];rfl));clear hse p1 h2 h3 hd;refine acg rO ?_;exact af h.out
theorem V3 {d:List Rdn} {cap:Option Nat} (hd:dnB d) {L:List Blk} {K:afC}
  (h:¬ OkD d->K (.tup [.nilptr,.int .i64 (prS d).2]) L) (h2:d=[]->K (.tup [.nilptr,.int .i64 2]) L) (h3:OkD d->d≠[]->K (.tup [.ptr (L.length+3) 0,.int .i64 0]) (L++[.map [] 0,.map [] 0,.cells [dnA d,.lmap L.length,.lmap (L.length+1),.int .i64 0],.cells [.ptr (L.length+2) 0]])) :
  afB 13 [.sl (d.map aw) d.length cap] L K:=by
 obtain ⟨⟨s,e⟩,hse⟩:∃ q,prS d=q:=⟨_,rfl⟩;have kk1:Hid (Ctr Tryz.prog 27 [.sl (d.map aw) d.length cap] (.tup [.str s,.int .i64 e])):=@hid _ (by intro L K q;exact uf hd.1 hd.2 (by rw [hse];exact q));have kk2:Hid (∀ {c:Option Nat} {L:List Blk} {K:afC},K (dnA d) L->afB 25 [.sl (d.map aw) d.length cap,.sl [] 0 c] L K):=@hid _ (by intro c L K q;exact Og hd.1 hd.2 q);have p1:OkD d↔e=0:=by unfold OkD;rw [hse]
 rw [hse] at h;by_cases he:e=0;rotate_left
 ·replace h:=hid (h fun c=>he (p1.1 c));clear hse p1 h2 h3 hd;refine acg mR ?_;exact af h.out
 subst he;by_cases hl:d.length=0
 ·have hnil:=ahX.1 hl;replace h:=hid (h2 hnil);subst hnil;clear hse p1 h2 h3 hd hl;refine acg mR ?_;exact af h.out
 ·have g:¬ (d.length:Int)=0:=by omega
  replace h:=hid (h3 (p1.2 rfl) fun c=>hl (by rw [c];rfl));clear hse p1 h2 h3 hd;refine acg mR ?_;exact af h.out
theorem Wj {d b:List Rdn} {k:Nat} {cap cap':Option Nat} (hd:d.length<=1100000) (hb:b.length<=1100000) (hk:k<=d.length) (h:K (dnA (gx d k b)) L) :
  afB 48 [.sl (d.map aw) d.length cap,.int .i64 (k:Int),.sl (b.map aw) b.length cap'] L K:=by
 obtain ⟨j,hj⟩:=aaR (d.length - k);have g1:IntKind.i64.wrap ((d.length:Int) - (k:Int))=(j:Int):=by rw [ac (by omega) (by omega)];omega
 have g2:(j:Int)<=(d.length:Int):=by omega
 have l1:(List.take j (d.map aw)).length=j:=by simp;omega
 have l2:AV.frzL (List.take j (d.map aw))=(d.take j).map aw:=by rw [<- ajV,aO]
 have l3:AV.frzL (b.map aw)=b.map aw:=aO b;have l4:(b.map aw).all AV.one=true:=by rw [ahC];intro a ha;obtain ⟨r,_,rfl⟩:=ahs.1 ha;rfl
 have e:dnA (gx d k b)=.sl ((d.take j).map aw++b.map aw) (j+b.length) none:=by
  unfold dnA gx;rw [hj,ahN,ahy,ail,Nat.min_eq_left (by omega)]
 rw [e] at h;have lj:j<=1100000:=by omega
 replace h:=hid h;clear e hj;refine acg Q5 ?_;refine ay ?_;simp only [AV.frz,<- ahN,aO];have h':=h.out;rw [<- ahN] at h';exact ab (by simp only [AV.refs,cQ]) h'
section
variable {P:Program} {w0:World} {S0:SB} {N:Nat} {own:Nat->Nat->Nat} {Q:Exit->Tm->List Blk->Prop} {T:Tm} {L:List Blk}
theorem YU {c:Code} {g:Opd} {ps:List Nat} {x y:bc} (hc:aJ P N own c=some (.rangeF g ps x y)) :
  ∃ g0 ps0 ca cb,c=.rangeFunc g0 ps0 ca cb/\bB g0=some g/\ps0.toList=ps/\aJ P N own ca=some x/\aJ P N own cb=some y/\x.hasRF=false/\y.hasRF=false/\∀ p∈ps,p<N:=by
 cases c
 case rangeFunc g0 ps0 ca cb =>
  simp only [aJ] at hc;split at hc<;>try cases hc
  rename_i g1 x1 y1 h1 h2 h3
  split at hc<;>cases hc
  rename_i hb
  simp only [aht,ah7,Array.all_eq_true_iff_forall_mem,decide_eq_true_eq] at hb;exact ⟨g0,ps0,ca,cb,rfl,h1,rfl,h2,h3,hb.1.1,hb.1.2,fun p hp=>hb.2 p (by simpa using hp)⟩
 case region id ops draw =>
  cases draw<;>simp only [aJ] at hc
  all_goals
   (repeat' split at hc)
   all_goals (first|(cases hc;done)|(simp only [ahG] at hc;obtain ⟨_,_,hc⟩:=hc;cases hc;done)|(simp only [aip] at hc;obtain ⟨_,_,hc⟩:=hc;split at hc<;>cases hc;done))
 all_goals
  simp only [aJ] at hc
  (repeat' split at hc)
  all_goals (first|(cases hc;done)|(simp only [ahG] at hc;obtain ⟨_,_,hc⟩:=hc;cases hc;done))
def N1:List Nat->List AV->Tm->Tm
 | p::ps,a::as',T=>N1 ps as' ((p,a)::T)
 | _,_,T=>T
theorem UK {E:Env}:∀ (ps:List Nat) (as':List AV) (vs:List Value) (T:Tm) (tm:Array Value),ps.length=as'.length->VRL E as' vs->(∀ p∈ps,p<tm.size)->(∀ t v,az T t=some v->VR E v (tm.getD t undef)) ->
  ∀ t v,az (N1 ps as' T) t=some v->VR E v (((ps.zip vs).foldl (fun tm (p:Nat×Value)=>tm.setIfInBounds p.1 p.2) tm).getD t undef)
 | [],[],vs,T,tm,_,_,_,h,t,v,ht=>by simpa [N1] using h t v (by simpa [N1] using ht)
 | [],_::_,_,_,_,hl,_,_,_,_,_,_=>by simp at hl
 | _::_,[],_,_,_,hl,_,_,_,_,_,_=>by simp at hl
 | p::ps,a::as',vs,T,tm,hl,hv,hp,h,t,v,ht=>by
   simp only [VRL] at hv;obtain ⟨x,xs,rfl,h1,h2⟩:=hv;simp only [aj1,aiO];have hps:=hp p (by simp);refine UK ps as' xs ((p,a)::T) (tm.setIfInBounds p x) (by simpa using hl) h2 (fun q hq=>by simpa using hp q (by simp [hq])) (fun t' v' ht'=>?_) t v (by simpa [N1] using ht);simp only [az] at ht';split at ht'
   ·rename_i e;subst e;cases ht'
    simpa [aie,hps] using h1
   ·rename_i e
    have:=h t' v' ht';simpa [aie,ajq,e] using this
theorem Zf (l:List (Nat×Value)):∀ tm:Array Value,(l.foldl (fun tm (p:Nat×Value)=>tm.setIfInBounds p.1 p.2) tm).size=tm.size:=by
 induction l with
 | nil=>intro tm;rfl
 | cons a l ih=>intro tm;rw [aiO,ih];simp
def ahl (i:Nat) (b0 b1:Blk) (K:AV->List Blk->Prop) (e:Exit) (T:Tm) (L:List Blk):Prop:=e=.normal/\L[i]?=some b0/\K (.bool true) (L.set i b1)
theorem WR {i:Nat} {fn:FuncId} {ps:List Nat} {ca cb:Code} {args:List AV} {K:AV->List Blk->Prop} {x y:bc} (hL:L[i]?=some (.lrec T N fn ps ca cb false)) (hx:aJ P N own ca=some x.raw) (hy:aJ P N own cb=some y.raw) (hfx:x.hasRF=false) (hfy:y.hasRF=false)
  (hlen:ps.length=args.length) (hps:∀ p∈ps,p<N)
  (h:AW P N own x (Yc (fun T1 L1=>L1[i]?=some (.lrec T N fn ps ca cb false)/\AW P N own y (ahl i (.lrec T N fn ps ca cb true) (.lrec T N fn ps ca cb false) K) T1 (L1.set i (.lrec T N fn ps ca cb true))) (fun _ _ _=>False)) (N1 ps args T) L):Ve P i args L K:=by
 intro w0 S0 E w vs hR hv c hc;have hB:=hR.blk i _ hL;simp only [bh,ahJ,if_false] at hB;obtain ⟨c',D,tm,h1,h2,h3,h4,h5⟩:=hB;rw [hc] at h1;cases h1;have hvl:=hv.length;have hyd:=run_yield (P:=P) (args:=⟨vs⟩) h2 (by simp [hvl,hlen]);refine ⟨fn,_,ca,cb,hyd,roundIn_of_wpIn (F:=fX none) (n:=0) trivial ?_⟩;have hst:St w ⟨QM E L,w.heap.size⟩ N E (N1 ps args T) L { tmps:=((⟨ps⟩:Array Tmp).zip ⟨vs⟩).foldl (fun tmps (t,a)=>tmps.setIfInBounds t a) tm,defers:=[] } w:=by
  have e:((⟨ps⟩:Array Tmp).zip ⟨vs⟩).foldl (fun tmps (t,a)=>tmps.setIfInBounds t a) tm=(ps.zip vs).foldl (fun tm (p:Nat×Value)=>tm.setIfInBounds p.1 p.2) tm:=by
   rw [<- Array.foldl_toList];simp [Array.toList_zip]
  refine ⟨hR.enter _,fun t v ht=>?_,?_,Ye.nil (ahn _)⟩
  ·simp only [e];exact UK ps args vs T tm hlen hv (fun p hp=>by rw [h4];exact hps p hp) h5 t v ht
  ·simp only [e];rw [Zf];exact h4
 refine wpIn_mono (h ca hx (some c.blk) (fun e=>by rw [hfx] at e;cases e) w _ E _ w hst) fun e a1 wA ⟨w1,S1,E1,T1,L1,b1,le1,q1,st1⟩=>?_
 cases e
 case normal =>
  obtain ⟨hL1,hAW⟩:=q1;have hc1:=le1.loc _ _ hc;have hB1:=st1.1.blk i _ hL1;simp only [bh,ahJ,if_false] at hB1;obtain ⟨c1,D1,tm1,k1,k2,k3,k4,k5⟩:=hB1;rw [hc1] at k1;cases k1;have hlt1:c.blk<wA.heap.size:=(ah4.1 k2).1;refine ⟨_,run_beginRound k2 rfl,?_⟩;have st2:St w1 S1 N E1 T1 (L1.set i (.lrec T N fn ps ca cb true)) a1 (wA.putObj c.blk (.loop { state:=.busy,pending:=none,fn:=fn,tmps:=tm1,params:=⟨ps⟩,assign:=ca,body:=cb,defers:=D1 })):=by
   refine ⟨st1.1.turn hL1 rfl hc1 (by simp) (fun b hb=>ajH hb) rfl rfl rfl ⟨c,D1,tm1,hc1,by rw [World.putObj_heap_same hlt1];rfl,k3,k4,k5⟩ (fun _ _ e=>by cases e),st1.2⟩
  refine wpIn_mono (hAW cb hy (some c.blk) (fun e=>by rw [hfy] at e;cases e) w1 S1 E1 a1 _ st2) fun e a2 w4 ⟨w3,S3,E3,T2,L2,b3,le3,q3,st3⟩=>?_
  obtain ⟨rfl,hL2,hK⟩:=q3;have hc3:=le3.loc _ _ hc1;have hB3:=st3.1.blk i _ hL2;simp only [bh,if_true] at hB3;obtain ⟨c3,D3,tm3,m1,m2,m3,m4,m5⟩:=hB3;rw [hc3] at m1;cases m1;have hlt3:c.blk<w4.heap.size:=(ah4.1 m2).1;refine ⟨_,_,run_endRound none m2,E3,_,.bool true,_,rfl,le1.trans le3,hK,rfl,hR.back ((b1.trans b3).rel ?_)⟩;exact st3.1.turn hL2 rfl hc3 (by simp) (fun b hb=>ajH hb) rfl rfl rfl ⟨c,D3,tm3,hc3,by rw [World.putObj_heap_same hlt3];simp,m3,m4,m5⟩ (fun _ _ e=>by cases e)
 all_goals exact q1
theorem Rp {g:Opd} {ps:List Nat} {x y:bc} {f:FuncId} {caps:List AV} (he:∀ args w,(callFunc f args).run P w=.ok (.enter f args) w) (hg:evX T g=some (.func f caps))
  (h:∀ fn ca cb,aJ P N own ca=some x.raw->aJ P N own cb=some y.raw->x.hasRF=false->y.hasRF=false->(∀ p∈ps,p<N) ->
   ae P f (.yld L.length::caps) (L++[.lrec T N fn ps ca cb false]) fun _ L'=>L'[L.length]?=some (.lrec T N fn ps ca cb false)/\Q .normal T (L'.set L.length .dead)) :
  AW P N own (.rangeF g ps x y) Q T L:=fun c hc r hr w0 S0 E a w hst=>by
 obtain ⟨g0,ps0,ca,cb,rfl,hg0,hps0,hca,hcb,hfx,hfy,hps⟩:=YU hc;rw [bc.hasRF_raw] at hfx hfy;have hrn:r=none:=hr rfl;subst hrn;obtain ⟨hR,hT,hN,hMk⟩:=hst;have hgv:=ak hg0 hg hT;simp only [VR] at hgv;obtain ⟨lb,hgv,hlb⟩:=hgv;refine wpIn_rangeFunc fun fn _=>?_
 have ha:∀ (v:World) (o:Obj),(v.alloc o)={ v with heap:=v.heap.push o }:=fun _ _=>rfl
 have hR0:Rel w0 S0 E L { w with heap:=w.heap.push (.deferred (some [])) }:=hR.grown ⟨fun b hb=>by
  show (w.heap.push _)[b]?=_
  rw [aix hb,<- ah6 hb],by simp,rfl,rfl,rfl⟩
 obtain ⟨rec,hrec⟩:∃ rec:Loop,rec={ state:=.ready,pending:=none,fn,tmps:=a.tmps,params:=ps0,assign:=ca,body:=cb,defers:=w.heap.size }:=⟨_,rfl⟩;obtain ⟨E1,hE1⟩:∃ E1:Env,E1={ E with loc:=fun i=>if i=L.length then some ⟨w.heap.size+1,0,0⟩ else E.loc i }:=⟨_,rfl⟩;have hl1:E1.loc L.length=some ⟨w.heap.size+1,0,0⟩:=by rw [hE1];simp
 have leE:E.le E1:=⟨fun _ _ _ x=>by rw [hE1];exact x,fun i c x=>by
  rw [hE1];show (if i=L.length then _ else E.loc i)=_
  rw [if_neg (fun e=>by rw [hR.fresh i (by omega)] at x;cases x)];exact x,fun i t x=>⟨t,by rw [hE1];exact x,.inl rfl⟩⟩
 obtain ⟨le1,hR1⟩:=hR0.push (.loop rec) (.lrec T N fn ps ca cb false) ⟨w.heap.size+1,0,0⟩ (by simp) rfl (by
  rw [<- hE1];refine ⟨⟨w.heap.size+1,0,0⟩,w.heap.size,a.tmps,hl1,?_,rfl,hN,fun t v hv=>VR.mono leE _ _ (hT t v hv)⟩;show ((w.heap.push _).push _)[w.heap.size+1]?=_
  rw [ajZ,if_pos (by simp),hrec,<- hps0];rfl)
 rw [<- hE1] at le1 hR1;obtain ⟨W1,hW1⟩:∃ W1:World,W1={ ({ w with heap:=w.heap.push (.deferred (some [])) }:World) with heap:=(w.heap.push (.deferred (some []))).push (.loop rec) }:=⟨_,rfl⟩;rw [<- hW1] at hR1;have hWs:W1.heap.size=w.heap.size+2:=by rw [hW1];simp
 have hWl:W1.heap[w.heap.size+1]?=some (.loop rec):=by
  rw [hW1];show ((w.heap.push _).push _)[w.heap.size+1]?=_
  rw [ajZ,if_pos (by simp)]
 have hWd:W1.heap[w.heap.size]?=some (.deferred (some [])):=by
  rw [hW1];show ((w.heap.push _).push _)[w.heap.size]?=_
  rw [aix (by simp)];simp
 have hcall:=h fn ca cb hca hcb hfx hfy hps W1 ⟨QM E1 (L++[.lrec T N fn ps ca cb false]),S0.B⟩ E1 W1 (.func (.yield (w.heap.size+1)) #[] #[]::lb) (hR1.enter _) ⟨_,lb,rfl,⟨_,hl1,rfl⟩,VRL.mono le1 _ _ hlb⟩;have hnoD:¬ QM E1 (L++[.lrec T N fn ps ca cb false]) w.heap.size:=by
  rintro (⟨i,k,c,h1,h2,h3,h4⟩|⟨i,n,sz,t,k,h1,h2,h3,h4⟩)
  ·by_cases hi:i=L.length
   ·subst hi;rw [hl1] at h3;cases h3;simp at h4
   ·have hi':i<L.length:=by have:=(ahm.1 h1).1;simp at this;omega
    rw [ahq hi'] at h1;have h3':E.loc i=some c:=by rw [hE1] at h3;simpa [hi] using h3
    obtain ⟨c',o,g1,g2⟩:=(hR.blk i k h1).loc h2;rw [h3'] at g1;cases g1;rw [h4] at g2;have:=(ah4.1 g2).1;omega
  ·have hi':i<L.length:=by
    rcases ahT i L.length with h5|h5
    ·exact h5
    ·rw [ahu h5] at h1;rcases aiA (i - L.length) with h6|h6
     ·rw [h6] at h1;cases h1
     ·rw [aiM (by simp;omega)] at h1;cases h1
   rw [ahq hi'] at h1;have hb:=hR.blk i _ h1;simp only [bh] at hb;obtain ⟨t',g1,_,_,g2⟩:=hb;have h2':E.tok i=some t:=by rw [hE1] at h2;exact h2
   rw [h2'] at g1;cases g1;obtain ⟨cs,ty,fr,g3,_⟩:=g2 k h3;rw [h4] at g3;have:=(ah4.1 g3).1;omega
 refine ⟨w.heap.size+1,[mkD w.heap.size],W1,{ target:=.fn (.func f) ⟨lb⟩,args:=#[.func (.yield (w.heap.size+1)) #[] #[]] },W1,f,#[.func (.yield (w.heap.size+1)) #[] #[]]++⟨lb⟩,W1,?_,?_,fun _ _=>trivial,?_,fun e=>(by cases e),?_⟩
 ·have:=run_enterLoop_outer (P:=P) (w:=w) fn a.tmps ps0 ca cb;rw [ha,ha] at this;rw [hW1,hrec];exact this
 ·simp only [resolve,hgv];simp [go_sem]
 ·simp [invoke,go_sem,he]
 ·rcases hcall with ⟨_,hcalls⟩|⟨_,_,_,_,_,hv2,_⟩
  ·refine Ux none _ ?_;have e:(#[Value.func (.yield (w.heap.size+1)) #[] #[]]++(⟨lb⟩:Array Value))=⟨.func (.yield (w.heap.size+1)) #[] #[]::lb⟩:=by apply Array.ext';simp
   rw [e];refine hcalls.mono fun en w3 ⟨E3,v,av,L3,e1,le3,⟨hL3,hQ⟩,_,hR3⟩=>?_
   subst e1;have hl3:=le3.loc _ _ hl1;have hB3:=hR3.blk _ _ hL3;simp only [bh,ahJ,if_false] at hB3;obtain ⟨c3,D3,tm3,m1,m2,m3,m4,m5⟩:=hB3;rw [hl3] at m1;cases m1;have hlt3:w.heap.size+1<w3.heap.size:=(ah4.1 m2).1;have hR4:=hR3.turn hL3 rfl hl3 (k':=.dead) (w':=w3.putObj (w.heap.size+1) (.loop { state:=.exhausted,pending:=none,fn:=fn,tmps:=tm3,params:=⟨ps⟩,assign:=ca,body:=cb,defers:=D3 })) (by simp) (fun b hb=>ajH hb) rfl rfl rfl trivial (fun _ _ e=>by cases e);have hbs:Bs w0 S0 W1 ⟨QM E1 (L++[.lrec T N fn ps ca cb false]),S0.B⟩:=hR1.bs;refine ⟨none,_,run_endLoop m2 (by simp),W1,⟨QM E1 (L++[.lrec T N fn ps ca cb false]),S0.B⟩,E3,T,_,hbs,le1.trans le3,hQ,hR4,(hT.mono le1).mono le3,hN,?_⟩;have hM:=hMk.bs hbs;refine ⟨hM.1,aiJ.2 ⟨fun hm=>?_,hM.2.1⟩,fun d hd=>?_⟩
   ·obtain ⟨D,g1,_,g2,_⟩:=hMk.2.2 _ hm;have:w.heap.size=D:=by injection g1 with g1 _;injection g1
    have:=hR.size;omega
   ·rcases ahR.1 hd with rfl|hd
    ·exact ⟨_,rfl,by have:=hMk.1;have:=hR.size;show S0.B<=_;omega,by omega,hnoD,hWd⟩
    ·exact hM.2.2 d hd
  ·rw [he] at hv2;cases hv2
end
variable {L:List Blk} {K:afC}
set_option maxHeartbeats 8000000
set_option maxRecDepth 100000
theorem ae0 {rows:List AV} {cap:Option Nat} {i j:Nat} (hn:rows.length<=1100000) {Inv:Nat->List Blk->Prop} {L:List Blk} {K:afC}
  (hj:∀ k L',Inv k L'->L'[j]?=some (.cells [.sl rows rows.length cap])/\L.length<=L'.length) (h0:Inv rows.length L)
  (hs:∀ k L' (Q:AV->List Blk->Prop),k<rows.length->Inv (k+1) L'->(∀ L'',Inv k L''->Q (.bool true) L'')->Ve Tryz.prog i [.int .i64 (k:Int),rows.getD k .undef] L' Q)
  (hK:∀ L',Inv 0 L'->Fin L (.tup []) L' K) :
  afB 142 [.yld i,.ptr j 0] L K:=by
 have e0:=(hj _ _ h0).1;have g0:IntKind.i64.wrap ((rows.length:Int) - 1)=(rows.length:Int) - 1:=ac (by omega) (by omega);replace hj:=hid hj;replace hs:=hid hs;replace hK:=hid hK;replace h0:=hid h0;refine acg ib ?_;refine ah (fun n T' L'=>∃ (k:Nat) (x:Int),n=k/\k<=rows.length/\Hid (Inv k L')/\x=(k:Int) - 1/\T'=[(3,.int .i64 x),(0,.yld i),(1,.ptr j 0)]) (CutS (b:=ahn _)) ⟨rows.length,_,rfl,ahn _,h0,rfl,rfl⟩ ?_;rintro k _ L' ⟨_,x,rfl,hk,hI,hx,rfl⟩;have e1:=(hj.out _ _ hI.out).1;have e2:=(hj.out _ _ hI.out).2;cases k with
 | zero =>
   have hx':x=-1:=by omega
   subst hx';clear hx;refine wk ?_;exact ⟨.inl rfl,True,[],rfl,trivial,hK.out _ hI.out⟩
 | succ k =>
   have hx':x=(k:Int):=by omega
   subst hx';clear hx;have g1:(0:Int)<=(k:Int):=by omega
   have g2:IntKind.i64.wrap ((k:Int) - 1)=(k:Int) - 1:=ac (by omega) (by omega);have g3:(k:Int)<(rows.length:Int):=by omega
   have g4:k<rows.length:=hk;refine wk ?_;rw [UV];refine hs.out k L' _ g4 hI.out fun L'' h''=>?_
   have e3:=(hj.out _ _ h'').1;have e4:=(hj.out _ _ h'').2;replace h'':=hid h'';clear hI e1 e2;refine sk ?_;refine wk ?_;exact aq _ _ _ (by omega) (CutL (b:=by omega)) ⟨k,_,rfl,by omega,hid h''.out,rfl,rfl⟩
theorem aeZ {rows:List AV} {cap:Option Nat} {i j:Nat} (hn:rows.length<=1100000) {Inv:Nat->List Blk->Prop} {L:List Blk} {K:afC}
  (hj:∀ k L',Inv k L'->L'[j]?=some (.cells [.sl rows rows.length cap])/\L.length<=L'.length) (h0:Inv rows.length L)
  (hs:∀ k L' (Q:AV->List Blk->Prop),k<rows.length->Inv (k+1) L'->(∀ L'',Inv k L''->Q (.bool true) L'')->Ve Tryz.prog i [.int .i64 (k:Int),rows.getD k .undef] L' Q)
  (hK:∀ L',Inv 0 L'->Fin L (.tup []) L' K) :
  afB 145 [.yld i,.ptr j 0] L K:=by
 have e0:=(hj _ _ h0).1;have g0:IntKind.i64.wrap ((rows.length:Int) - 1)=(rows.length:Int) - 1:=ac (by omega) (by omega);replace hj:=hid hj;replace hs:=hid hs;replace hK:=hid hK;replace h0:=hid h0;refine acg iO ?_;refine ah (fun n T' L'=>∃ (k:Nat) (x:Int),n=k/\k<=rows.length/\Hid (Inv k L')/\x=(k:Int) - 1/\T'=[(3,.int .i64 x),(0,.yld i),(1,.ptr j 0)]) (CutS (b:=ahn _)) ⟨rows.length,_,rfl,ahn _,h0,rfl,rfl⟩ ?_;rintro k _ L' ⟨_,x,rfl,hk,hI,hx,rfl⟩;have e1:=(hj.out _ _ hI.out).1;have e2:=(hj.out _ _ hI.out).2;cases k with
 | zero =>
   have hx':x=-1:=by omega
   subst hx';clear hx;refine wk ?_;exact ⟨.inl rfl,True,[],rfl,trivial,hK.out _ hI.out⟩
 | succ k =>
   have hx':x=(k:Int):=by omega
   subst hx';clear hx;have g1:(0:Int)<=(k:Int):=by omega
   have g2:IntKind.i64.wrap ((k:Int) - 1)=(k:Int) - 1:=ac (by omega) (by omega);have g3:(k:Int)<(rows.length:Int):=by omega
   have g4:k<rows.length:=hk;refine wk ?_;rw [UV];refine hs.out k L' _ g4 hI.out fun L'' h''=>?_
   have e3:=(hj.out _ _ h'').1;have e4:=(hj.out _ _ h'').2;replace h'':=hid h'';clear hI e1 e2;refine sk ?_;refine wk ?_;exact aq _ _ _ (by omega) (CutL (b:=by omega)) ⟨k,_,rfl,by omega,hid h''.out,rfl,rfl⟩
theorem ag2 {rows:List AV} {n:Nat} {cap:Option Nat} (h:K (.func 142 [.ptr L.length 0]) (L++[.cells [.sl rows n cap]])) :
  afB 111 [.sl rows n cap] L K:=by
 replace h:=hid h;refine acg jJ ?_;exact af h.out
theorem ag1 {rows:List AV} {n:Nat} {cap:Option Nat} (h:K (.func 145 [.ptr L.length 0]) (L++[.cells [.sl rows n cap]])) :
  afB 117 [.sl rows n cap] L K:=by
 replace h:=hid h;refine acg jQ ?_;exact af h.out
theorem OkD.one {d:List Rdn} (h:OkD d) {r:Rdn} (hr:r∈d):OkD [r]:=by
 obtain ⟨a,b,rfl⟩:=List.append_of_mem hr;have h':OkD (r::b):=OkD.app h;rw [Qu] at h' ⊢;obtain ⟨h1,h2,h3,h4⟩:=h';refine ⟨by simp,fun x hx=>h2 x (by rw [ahI.1 hx];simp),?_,ahV ?_ h4⟩
 ·unfold yA at h3 ⊢;rw [List.any_cons,ajw] at h3;rw [List.any_cons,h3.1];rfl
 ·have e1:=oi ([r].map (cn false)) 44;have e2:=oi ((r::b).map (cn false)) 44;rw [if_neg (by simp)] at e1 e2;simp only [ahH,aif,aiD,List.sum_nil,ahD,ahZ] at e1 e2;unfold aQ;simp only [ahH,aif];omega
theorem afO {d:List Rdn} {cap:Option Nat} (hd:OkD d) (h:K (.sl (aF (NK d).reverse) d.length none) L) :
  afB 81 [.sl (d.map aw) d.length cap] L K:=by
 have hlen:=hd.len;replace h:=hid h;have kk1:Hid (∀ {L:List Blk} {K:afC},K (.func 142 [.ptr L.length 0]) (L++[.cells [.sl (d.map aw) d.length cap]])->afB 111 [.sl (d.map aw) d.length cap] L K):=@hid _ (by intro L K q;exact ag2 q);refine acg Uz ?_;have hl:∀ (a b c x y:Blk) (Z:List Blk),(L++([a,b,c]++Z))[(L++[x,y]).length]?=some c:=fun a b c x y Z=>by
  rw [ahu (by simp)];simp
 have hrl:(d.map aw).length=d.length:=ahF _;refine Rp (f:=142) (caps:=[.ptr (L.length+1) 0]) (fun args w=>rfl) rfl (fun fn ca cb hca hcb hfx hfy hps=>?_);refine ae0 (rows:=d.map aw) (cap:=cap) (Inv:=fun k L'=>∃ (v:AV) (Z:List Blk),L'=L++([.cells [v],.cells [.sl (d.map aw) d.length cap],.lrec [(9,.func 142 [.ptr (L.length+1) 0]),(3,.ptr L.length 0),(2,.sl [] 0 (some 0)),(0,.sl (d.map aw) d.length cap)] 23 fn [10,11] ca cb false]++Z)/\((k=d.length/\v=.sl [] 0 (some 0))\/∃ m,v=.lsl (L.length+3+m) 0 (d.length - k) none 1/\Z[m]?=some (.cells (aF ((NK d).reverse.take (d.length - k)))))) (by omega) ?_ ?_ ?_ ?_
 ·rintro k L' ⟨v,Z,rfl,_⟩;refine ⟨?_,by simp⟩;rw [hrl,ahu (by omega)];simp
 ·exact ⟨.sl [] 0 (some 0),[],by simp,.inl ⟨hrl,rfl⟩⟩
 ·rintro k L' Q hk ⟨v,Z,rfl,hv⟩ hQ;rw [hrl] at hk;obtain ⟨r,hr⟩:=aaR (d.getD k []);have er:(d.map aw).getD k .undef=.sl (aN r) r.length none:=by rw [mw hk,hr]
  have hrm:r∈d:=by rw [<- hr];simp [hk]
  have ho1:=hd.one hrm;have etk:(NK d).reverse.take (d.length - k)=(NK d).reverse.take (d.length - (k+1))++[cn true r]:=by
   rw [show d.length - k=d.length - (k+1)+1 by omega,ahK (by rw [aim,be];omega)]
   congr 2
   rw [akt];simp only [NK,List.getElem_map,ahF]
   congr 1
   rw [<- hr];simp only [ahE];rw [ahB hk];simp only [ah9]
   congr 1;omega
  obtain ⟨s,hs⟩:=aaR (cn true r);rw [hs] at etk;have kk2:Hid (∀ {c:Option Nat} {L:List Blk} {K:afC},K (.tup [.str s,.int .i64 0]) L->afB 44 [.sl [.sl (aN r) r.length none] 1 c] L K):=@hid _ (by
   intro c L K q;refine Oc (d:=[r]) ho1.m.b.1 ho1.m.b.2 ?_;rw [gg ho1,show aQ true [r]=s from by simp [aQ,Lib.join,hs]];exact q)
  rw [er];refine WR (hl _ _ _ _ _ _) hca hcb hfx hfy rfl hps ?_;simp only [N1];replace hQ:=hid hQ;replace etk:=hid etk;clear hr hrm ho1 hs er hca hcb hfx hfy hps kk1 hl h;have hset:∀ (a b c c':Blk) (Z:List Blk),(L++a::b::c::Z).set (L.length+2) c'=L++([a,b,c']++Z):=fun a b c c' Z=>by
   rw [ahP _ _ (by omega),show L.length+2 - L.length=2 by omega];rfl
  have hget:∀ (a b c:Blk) (Z:List Blk),(L++a::b::c::Z)[L.length+2]?=some c:=fun a b c Z=>by
   rw [ahu (by omega),show L.length+2 - L.length=2 by omega];rfl
  replace hset:=hid hset;replace hget:=hid hget;rcases hv with ⟨hk0,rfl⟩|⟨m,rfl,hZ⟩
  ·refine wk ?_;refine ⟨rfl,hget.out _ _ _ _,?_⟩;rw [hset.out];refine hQ.out _ ⟨_,Z++[.cells [.str s]],rfl,.inr ⟨Z.length,?_,?_⟩⟩
   ·rw [show d.length - k=1 by omega,show L.length+(Z.length+1+1+1)=L.length+3+Z.length by omega]
   ·rw [etk.out,show d.length - (k+1)=0 by omega];simp
  ·obtain ⟨j,hj⟩:=aaR (d.length - (k+1));obtain ⟨C,hC⟩:=aaR (aF ((NK d).reverse.take (d.length - (k+1))));have hCl:C.length=j:=by rw [<- hC,ahF,ail,aim,be];omega
   have hCt:List.take j C=C:=ah0 (by omega);rw [hC] at hZ;rw [hj];have hm:m<Z.length:=(ahm.1 hZ).1;have hLZ:∀ (a b c:Blk),(L++a::b::c::Z)[L.length+3+m]?=some (.cells C):=fun a b c=>by
    rw [ahu (by omega),show L.length+3+m - L.length=m+1+1+1 by omega];simpa using hZ
   have hj2:j<=32:=by omega
   have hds:∀ (a b c:Blk),(L++a::b::c::Z).set (L.length+3+m) .dead=L++a::b::c::Z.set m .dead:=fun a b c=>by
    rw [ahP _ _ (by omega),show L.length+3+m - L.length=m+1+1+1 by omega];rfl
   refine wk ?_;refine ⟨rfl,hget.out _ _ _ _,?_⟩;rw [hset.out];refine hQ.out _ ⟨_,Z.set m .dead++[.cells (C++[.str s])],rfl,.inr ⟨Z.length,?_,?_⟩⟩
   ·rw [show d.length - k=j+1 by omega,show L.length+(Z.length+1+1+1)=L.length+3+Z.length by omega]
   ·rw [etk.out,<- hC,ahu (by simp)];simp
 ·have hls:∀ (a b c c' x y:Blk) (Z:List Blk),(L++([a,b,c]++Z)).set (L++[x,y]).length c'=L++a::b::c'::Z:=fun a b c c' x y Z=>by
   rw [ahP _ _ (by simp),show (L++[x,y]).length - L.length=2 by simp];rfl
  rintro L' ⟨v,Z,rfl,hv⟩;refine af ⟨hl _ _ _ _ _ _,?_⟩;rw [hls];clear hls hl hca hcb hfx hfy hps kk1;rcases hv with ⟨h0,rfl⟩|⟨m,rfl,hZ⟩
  ·have hnil:d=[]:=ahX.1 h0.symm;subst hnil;clear h0 hlen hrl hd;refine wk ?_;refine ay ?_;rw [show (AV.sl [] 0 (some 0)).frz=.sl (aF (NK []).reverse) ([]:List Rdn).length none from rfl];exact ab rfl h.out
  ·rw [ajg,ah0 (by rw [aim,be];omega)] at hZ;rw [ajg];obtain ⟨C,hC⟩:=aaR (aF (NK d).reverse);have hCl:C.length=d.length:=by rw [<- hC,ahF,aim,be]
   rw [hC] at hZ h;have hLZ:∀ (a b c:Blk),(L++a::b::c::Z)[L.length+3+m]?=some (.cells C):=fun a b c=>by
    rw [ahu (by omega),show L.length+3+m - L.length=m+1+1+1 by omega];simpa using hZ
   refine wk ?_;refine KW (i:=L.length+3+m) (l:=C) (hLZ _ _ _) ?_;rw [show (AV.lsl (L.length+3+m) 0 d.length none 1).snap (L.length+3+m) C=.sl C d.length none from by simp [AV.snap,<- hCl],ahP _ _ (by omega)];exact ab (by rw [<- hC];simp only [AV.refs];exact qn _ _) h.out
end Go.Proofs.YtobihfefmlgaoaaGreat.Av
