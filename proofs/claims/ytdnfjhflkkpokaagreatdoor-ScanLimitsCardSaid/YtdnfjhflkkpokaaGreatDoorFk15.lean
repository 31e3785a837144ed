/- Joined texts of the walk, made small by a program. -/
import Derived.Test.YtdnfjhflkkpokaaGreatDoorFk7
import Derived.Test.YtdnfjhflkkpokaaGreatDoorFk6
import Derived.Test.YtdnfjhflkkpokaaGreatDoorFk5
import Derived.Lib.IndexMore
import Derived.Test.YtdnfjhflkkpokaaGreatDoorFk12
import Derived.Test.YtdnfjhflkkpokaaGreatDoorFk14
import Derived.Test.YtdnfjhflkkpokaaGreatDoorFk4
import Derived.Test.YtdnfjhflkkpokaaGreatDoorRows
import Derived.KernelRfl
import Derived.Test.YtdnfjhflkkpokaaGreatDoorFk10
import Derived.Test.YtdnfjhflkkpokaaGreatDoorFk11
set_option linter.unusedSimpArgs false
set_option linter.unusedVariables false
namespace Go.Proofs.YtdnfjhflkkpokaaGreatDoor.Av
open Go
variable {L:List Blk}{K:apr}
set_option maxHeartbeats 8000000
set_option maxRecDepth 100000
abbrev Pc:=Int×List UInt8
def pcA(p:Pc):List AV:=[.int .i64 p.1,.str p.2]
def rB(l:List Pc):List AV:=l.flatMap pcA
theorem ZA(l:List Pc):(rB l).length=l.length*2:=by
 induction l with
 |nil=>rfl
 |cons a l ih=>simp only[rB,ap5,apB,pcA,apC,ap9]at ih⊢;omega
theorem YU:∀{l:List Pc}{k:Nat},k<l.length->((rB l).drop (k*2)).take 2=pcA (l.getD k (0,[]))
 |a::l,0,_=>rfl
 |a::l,k+1,h=>by have b:=@YU l k (by simpa using h);rw[show(k+1)*2=k*2+1+1 by omega];simpa[rB,pcA]using b
def agx(n i:Nat)(p:Pc):Bool:=decide (p.2=[]\/p.1<0\/2<p.1\/(p.1=0/\0<i)\/(p.1=2/\i+1<n))
def ZB(n:Nat):Nat->List Pc->Bool
 |_,[]=>true
 |i,p::t => !(agx n i p)&&ZB n (i+1) t
def NY(l:List Pc):Bool:=ZB l.length 0 l&&decide (0<l.length)
theorem adJ{l:List Pc}{cap:Option Nat}(C:l.length<=1100000)(h:K (.bool (NY l)) L):apq 167 [.sl (rB l) l.length cap] L K:=by
 unfold NY at h;obtain⟨R,m⟩:=apl (ZB l.length 0 l);rw[m]at h;replace h:=hid h;have B:IntKind.i64.wrap ((l.length:Int)-1)=(l.length:Int)-1:=ae asP asP;refine apo Xg ?_;refine aj (λn T' L'=>∃(i:Nat) (X:List Blk),n=l.length-i/\i<=l.length/\Hid (ZB l.length i (l.drop i)=R)/\T'=[(7,.int .i64 (i:Int)),(6,.int .i64 l.length),(5,.sl (rB l) l.length cap),(0,.sl (rB l) l.length cap)]/\L'=L++X) asT ⟨0,[],rfl,apv _,hid (by simpa using m),rfl,asQ⟩ ?_;rintro _ _ _ ⟨i,X,rfl,z,u,rfl,rfl⟩;by_cases f:i<l.length
 .have g1:(i:Int)<(l.length:Int):=asP;have A:=apn i asP;have s:=YU f;have y:i*2+2<=(rB l).length:=(by rw[ZA];omega);obtain⟨⟨x,t⟩,q⟩:∃a,l.getD i (0,[])=a:=⟨_,rfl⟩;have k:l.drop i=(x,t)::l.drop (i+1):=(by rw[apY f,<- q];simp[f]);rw[q]at s;simp only[pcA]at s;have c:=u.o;rw[k,ZB]at c;have b:agx l.length i (x,t)=true->K (.bool false) L:=λe=>by have g:=h.o;rw[e]at c;simp only[arg,aqg]at c;rw[<- c]at g;simpa using g
  have d:agx l.length i (x,t)=false->ZB l.length (i+1) (l.drop (i+1))=R:=λe=>by rw[e]at c;simpa using c
  simp only[agx,decide_eq_true_eq,decide_eq_false_iff_not]at b d;replace b:=hid b;replace d:=hid d;clear k q c m
  repeat' first
   |refine bG ?_
   | (first|refine bw asR ?_|refine aN asR ?_|refine aQ ?_|refine cS ?_|refine bJ (fun _=>?_)|refine aF ?_|refine bA ?_)
     refine sm ?_
   | (first|refine bq asR ?_|refine bm ?_|refine aP ?_|refine bz ?_|refine bO (aE ?_))
     refine sl ?_
   |exact bK
   |first|apply bL|apply br|apply bM|apply bu|apply bN|apply bv
   |refine aT ?_
   |refine aO ?_
   |first|refine aR rfl ?_|refine aS rfl ?_|refine aB rfl ?_ ?_|refine aW rfl (λ_=>?_) (λ_=>?_)|refine aV rfl (λ_=>?_) (λ_=>?_)
   |((first|refine aA (λ_=>?_) (λ_=>?_)|refine aD (λ_=>?_) (λ_=>?_))<;>try refine sm ?_)
   |refine And.intro trivial ?_
   |refine And.intro asP ?_
   |refine bd rfl (λ_=>?_) (λ_=>?_)
   |refine And.intro ?_ ?_
  rename_i j;refine ac rfl (b.o ?_);rcases j with(e|e)|e;exact .inl e;exact .inr (.inl e);exact .inr (.inr (.inl e));rename_i j v;exact ac rfl (b.o (.inr (.inr (.inr asP))));rename_i j v;refine asU asP asS ⟨i+1,_,rfl,f,hid (d.o λw=>?_),rfl,rfl⟩;rcases w with e|e|e|e;exact j (.inl (.inl e));exact j (.inl (.inr e));exact j (.inr e);exact v asP
 have p:i=l.length:=asP;subst p;have g1:¬(l.length:Int)<(l.length:Int):=asP;have r:=u.o;rw[aqe,ZB]at r;have g:=h.o;rw[<- r,ap0,show decide (0<l.length)=decide ((0:Int)<(l.length:Int))by simp]at g;replace g:=hid g;clear r m;refine wk ?_;exact ac rfl g.o
abbrev aou(l:List Pc)(cap:Option Nat):AV:=.agg [.int .i64 4,.str [97],.str [],.sl (rB l) l.length cap,.sl [] 0 (some 0)]
theorem akt{l:List Pc}{cap:Option Nat}{p:Nat}(i:l.length<=1100000){L:List Blk}(g:L[p]?=some (.cells [.int .i64 0])){K:apr}(h:K (.int .i64 (if NY l=true then 0 else 4)) (L.set p (.cells [.int .i64 1]))):
  apq 112 [.ptr p 0,aou l cap,.int .i64 1] L K:=by
 have c:p<L.length:=(aps.1 g).1;have q:∀X:List Blk,(L++X)[p]?=some (.cells [.int .i64 0]):=λX=>by rw[apx c];exact g
 have s:∀(X:List Blk) A,(L++X).set p A=L.set p A++X:=λX A=>aqB _ _ c
 have n:∀(X:List Blk) A,(L.set p A++X)[p]?=some A:=λX A=>by rw[apx (by simpa using c),ap3,if_pos rfl,if_pos c]
 have f4:∀A:Blk,(L.set p A).length=L.length:=λA=>asQ
 have t:∀(X:List Blk) A,(L.set p A++X)[L.length]?=X[0]?:=λX A=>by rw[apH asQ];simp
 have f:jG [97]=true:=by decide
 have a:∀(X:List Blk) (r:Int),K (.int .i64 r) (L.set p (.cells [.int .i64 1]))->Fin L (.int .i64 r) (L.set p (.cells [.int .i64 1])++X) K:=λX r j =>
  aaT (f4 _) (λm k d=>by rcases asD d with e|e;exact m k e;subst e;rfl) rfl j
 replace a:=hid a;replace h:=hid h;refine apo Ew ?_;refine aci ?_;rw[f];refine sk ?_;cases hok:NY l with
 | true =>
   have b:=h.o;rw[hok,if_pos rfl]at b;replace b:=hid b;have kk1:=@asW _ _ _ _ (adJ (cap:=cap) i);refine wk ?_;exact a.o _ _ b.o
 | false =>
   have b:=h.o;rw[hok,if_neg asQ]at b;replace b:=hid b;have kk1:=@asW _ _ _ _ (adJ (cap:=cap) i);refine wk ?_;exact a.o _ _ b.o
theorem tO{l:List Pc}{cap:Option Nat}(b:l.length<=1100000)(h:K (.int .i64 (if NY l=true then 0 else 4)) L):
  apq 71 [aou l cap] L K:=by
 obtain⟨r,a⟩:∃r:Int,(if NY l=true then 0 else 4)=r:=⟨_,rfl⟩;rw[a]at h;replace h:=hid h;refine apo YL ?_;refine akt b (by rw[nK];rfl) ?_;rw[a];refine asX ?_;exact ac rfl h.o
def pcT(ex:Bool)(p:Pc):List UInt8:=if ex=true then p.2 else ak p.2
def afq(ex:Bool):List UInt8->List Pc->Bool
 |_,[]=>true
 | s,p::t=>if (p.1=0/\Lib.hasPrefix s (pcT ex p)=false)\/(p.1=2/\Lib.hasSuffix s (pcT ex p)=false)\/Lib.index s (pcT ex p)<0 then false
   else afq ex (s.drop ((Lib.index s (pcT ex p)).toNat+(pcT ex p).length)) t
def N6(syn:Int)(v:List UInt8)(l:List Pc):Option Bool:=match dm syn v with
 |none=>none
 |some s=>if(syn=1\/syn=2\/syn=3)/\NY l=true then some (afq (decide (syn=2)) s l)else none
def ad3:Option Bool->AV
 |none=>.tup [.bool false,.bool false]
 |some b=>.tup [.bool b,.bool true]
theorem adS{syn:Int}{v s:List UInt8}(h:dm syn v=some s)(a:syn=1\/syn=2\/syn=3):s.length<=4096:=by have c:=WB h;have b:=Ec v;unfold dm at h;split at h;cases h;unfold adT at h;rcases a with rfl|rfl|rfl;rw[if_pos rfl]at h;split at h;cases h;split at h;cases h;omega;cases h;rw[if_neg (by decide),if_pos rfl]at h;split at h;cases h;split at h;cases h;omega;cases h;rw[if_neg (by decide),if_neg (by decide),if_pos rfl]at h;split at h;cases h;omega;cases h
theorem afp{syn:Int}{v:List UInt8}{l:List Pc}{cap:Option Nat}(B:l.length<=1100000)(U:∀p∈l,(p.2.length:Int)<=140737488351232)(h:K (ad3 (N6 syn v l)) L):
  apq 74 [.int .i64 syn,.str v,.sl (rB l) l.length cap] L K:=by
 unfold N6 at h;refine apo WW ?_;refine iT ?_;rcases hs:dm syn v with _|s;rw[hs]at h;simp only[ad3]at h;replace h:=hid h;simp only[kj];refine asX ?_;exact aa h.o;rw[hs]at h;simp only at h;simp only[kj];by_cases k:syn=1\/syn=2\/syn=3;rotate_left;rw[if_neg (λe=>k e.1)]at h;simp only[ad3]at h;replace h:=hid h;have k1:¬syn=1:=λe=>k (.inl e)
 have Q:¬syn=2:=λe=>k (.inr (.inl e))
 have k3:¬syn=3:=λe=>k (.inr (.inr e))
 clear hs k;refine asX ?_;exact aa h.o;have F:=adS hs k;clear hs;have M:(!decide (syn=1) && !decide (syn=2) && !decide (syn=3))=false:=by rcases k with rfl|rfl|rfl<;>rfl
 cases hok:NY l with
 | false =>
   rw[hok,if_neg asQ]at h;simp only[ad3]at h;replace h:=hid h;have e4:(if false=true then(0:Int)else 4)=4:=rfl;rcases k with rfl|rfl|rfl
   .refine sk ?_;have kk1:=@asW _ _ _ _ (tO (cap:=cap) B);refine wk ?_;exact aa h.o
   .refine sk ?_;have kk1:=@asW _ _ _ _ (tO (cap:=cap) B);refine wk ?_;exact aa h.o
   .refine sk ?_;have kk1:=@asW _ _ _ _ (tO (cap:=cap) B);refine wk ?_;exact aa h.o
 |true =>
 rw[if_pos ⟨k,hok⟩]at h;obtain⟨R,y⟩:=apl (afq (decide (syn=2)) s l);rw[y]at h;simp only[ad3]at h;replace h:=hid h;obtain⟨I,g⟩:=apl (decide (syn=2));rw[g]at y;replace y:=hid y;replace U:=hid U;refine sk ?_
 iterate 1 first
  |refine bG ?_
  | (first|refine bw asR ?_|refine aN asR ?_|refine aQ ?_|refine cS ?_|refine bJ (fun _=>?_)|refine aF ?_|refine bA ?_)
    simp(config:={maxSteps:=2000000}) only[Kon,push_cast,reduceIte,Nat.reduceEqDiff,Nat.reduceAdd,Nat.reduceMul,Nat.reduceSub,Nat.reduceLT,Nat.reduceLeDiff,Int.reduceLT,Int.reduceLE,Int.reduceAdd,Int.reduceSub,Int.reduceNeg,Int.reduceToNat,Int.reduceEq,reduceCtorEq, *]
  | (first|refine bq asR ?_|refine bm ?_|refine aP ?_|refine bz ?_|refine bO (aE ?_))
    simp only[push_cast,reduceIte,Nat.reduceEqDiff,Nat.reduceAdd,Nat.reduceMul,Nat.reduceSub,Nat.reduceLT,Nat.reduceLeDiff,Int.reduceLT,Int.reduceLE,Int.reduceAdd,Int.reduceSub,Int.reduceNeg,Int.reduceToNat,Int.reduceEq,reduceCtorEq, *]
  |exact bK
  |first|apply bL|apply br|apply bM|apply bu|apply bN|apply bv
  |refine aT ?_
  |refine aO ?_
  |first|refine aR rfl ?_|refine aS rfl ?_|refine aB rfl ?_ ?_|refine aW rfl (λ_=>?_) (λ_=>?_)|refine aV rfl (λ_=>?_) (λ_=>?_)
  |((first|refine aA (λ_=>?_) (λ_=>?_)|refine aD (λ_=>?_) (λ_=>?_))<;>try simp(config:={maxSteps:=2000000}) only[Kon,push_cast,reduceIte,Nat.reduceEqDiff,Nat.reduceAdd,Nat.reduceMul,Nat.reduceSub,Nat.reduceLT,Nat.reduceLeDiff,Int.reduceLT,Int.reduceLE,Int.reduceAdd,Int.reduceSub,Int.reduceNeg,Int.reduceToNat,Int.reduceEq,reduceCtorEq, *])
  |refine And.intro trivial ?_
  |refine And.intro asP ?_
  |refine bd rfl (λ_=>?_) (λ_=>?_)
  |refine And.intro ?_ ?_
 refine OV (λT L2=>T=[(8,.str s),(0,.int .i64 syn),(2,.sl (rB l) l.length cap)]/\L=L2) ?_ ?_;rcases k with rfl|rfl|rfl;have kk1:=@asW _ _ _ _ (tO (cap:=cap) B);refine wk ?_;exact jQ _ _ asS ⟨rfl,rfl⟩;have kk1:=@asW _ _ _ _ (tO (cap:=cap) B);refine wk ?_;exact jQ _ _ asS ⟨rfl,rfl⟩;have kk1:=@asW _ _ _ _ (tO (cap:=cap) B);refine wk ?_;exact jQ _ _ asS ⟨rfl,rfl⟩;rintro _ _ ⟨rfl,rfl⟩ -;clear M hok;refine wk ?_;refine aj (λn T' L'=>∃(i:Nat) (u:List UInt8) (Z:List Blk),n=l.length-i/\i<=l.length/\u.length<=4096/\Hid (afq I u (l.drop i)=R)/\T'=[(42,.int .i64 (i:Int)),(41,.int .i64 l.length),(40,.sl (rB l) l.length cap),(8,.str u),(0,.int .i64 syn)]/\L'=L++Z) asT ⟨0,s,[],rfl,apv _,F,hid (by simpa using y.o),rfl,asQ⟩ ?_;clear F y;rintro _ _ _ ⟨i,u,X,rfl,hi,ad,S,rfl,rfl⟩;by_cases j:i<l.length;rotate_left;have P:i=l.length:=asP;subst P;have g1:¬(l.length:Int)<(l.length:Int):=asP;have C:=h.o;rw[<- S.o,aqe,afq]at C;replace C:=hid C;refine wk ?_;exact ac rfl C.o;have g1:(i:Int)<(l.length:Int):=asP;have g2:=apn i asP;have Y:=YU j;have e4:i*2+2<=(rB l).length:=by rw[ZA];omega
 obtain⟨⟨x,t⟩,H⟩:∃a,l.getD i (0,[])=a:=⟨_,rfl⟩;have E:l.drop i=(x,t)::l.drop (i+1):=by rw[apY j,<- H];simp[j]
 have D:=U.o (x,t) (by rw[<- H];simp[j]);simp only at D;rw[H]at Y;simp only[pcA]at Y;have d:=S.o;rw[E,afq]at d;simp only at d;obtain⟨w,q⟩:=apl (pcT I (x,t));rw[q]at d;clear E H S;replace d:=hid d
 iterate 15 first
  |refine bG ?_
  | (first|refine bw asR ?_|refine aN asR ?_|refine aQ ?_|refine cS ?_|refine bJ (fun _=>?_)|refine aF ?_|refine bA ?_)
    simp(config:={maxSteps:=2000000}) only[Kon,push_cast,reduceIte,Nat.reduceEqDiff,Nat.reduceAdd,Nat.reduceMul,Nat.reduceSub,Nat.reduceLT,Nat.reduceLeDiff,Int.reduceLT,Int.reduceLE,Int.reduceAdd,Int.reduceSub,Int.reduceNeg,Int.reduceToNat,Int.reduceEq,reduceCtorEq, *]
  | (first|refine bq asR ?_|refine bm ?_|refine aP ?_|refine bz ?_|refine bO (aE ?_))
    simp only[push_cast,reduceIte,Nat.reduceEqDiff,Nat.reduceAdd,Nat.reduceMul,Nat.reduceSub,Nat.reduceLT,Nat.reduceLeDiff,Int.reduceLT,Int.reduceLE,Int.reduceAdd,Int.reduceSub,Int.reduceNeg,Int.reduceToNat,Int.reduceEq,reduceCtorEq, *]
  |exact bK
  |first|apply bL|apply br|apply bM|apply bu|apply bN|apply bv
  |refine aT ?_
  |refine aO ?_
  |first|refine aR rfl ?_|refine aS rfl ?_|refine aB rfl ?_ ?_|refine aW rfl (λ_=>?_) (λ_=>?_)|refine aV rfl (λ_=>?_) (λ_=>?_)
  |((first|refine aA (λ_=>?_) (λ_=>?_)|refine aD (λ_=>?_) (λ_=>?_))<;>try simp(config:={maxSteps:=2000000}) only[Kon,push_cast,reduceIte,Nat.reduceEqDiff,Nat.reduceAdd,Nat.reduceMul,Nat.reduceSub,Nat.reduceLT,Nat.reduceLeDiff,Int.reduceLT,Int.reduceLE,Int.reduceAdd,Int.reduceSub,Int.reduceNeg,Int.reduceToNat,Int.reduceEq,reduceCtorEq, *])
  |refine And.intro trivial ?_
  |refine And.intro asP ?_
  |refine bd rfl (λ_=>?_) (λ_=>?_)
  |refine And.intro ?_ ?_
 refine OV (λT L2=>T=[(12,.str w),(11,.ptr (L.length+X.length) 0),(42,.int .i64 (i:Int)),(41,.int .i64 l.length),(40,.sl (rB l) l.length cap),(8,.str u),(0,.int .i64 syn)]/\L2=L++(X++[.cells [.int .i64 x,.str t]])) ?_ ?_;unfold pcT at q;cases I with
 | true =>
   rw[if_pos rfl]at q;have Q:syn=2:=(by simpa using g);simp only at q;subst q;subst Q;refine wk ?_;exact jQ _ _ asS ⟨rfl,rfl⟩
 | false =>
   rw[if_neg asQ]at q;have Q:¬syn=2:=(by simpa using g);simp only at q;clear g;have kk1:=@asW _ _ _ _ (jD D);refine wk ?_;exact jQ _ _ asS ⟨rfl,rfl⟩
 rintro _ _ ⟨rfl,rfl⟩ -;clear g q;obtain⟨V,O⟩:=apl (Lib.hasPrefix u w);obtain⟨W,J⟩:=apl (Lib.hasSuffix u w);obtain⟨z,N⟩:=apl (Lib.index u w);have f:=d.o;rw[O,J,N]at f;have c:((x=0/\V=false)\/(x=2/\W=false)\/z<0)->K (.tup [.bool false,.bool true]) L:=λe=>by rw[if_pos e]at f;have C:=h.o;rwa[<- f]at C
 have r:¬((x=0/\V=false)\/(x=2/\W=false)\/z<0)->afq I (u.drop (z.toNat+w.length)) (l.drop (i+1))=R:=λe=>by rw[if_neg e]at f;exact f
 replace c:=hid c;replace r:=hid r;clear d f;have b:u.length<=1100000:=asP;by_cases G:z<0
 .repeat' first
   |refine bG ?_
   | (first|refine bw asR ?_|refine aN asR ?_|refine aQ ?_|refine cS ?_|refine bJ (fun _=>?_)|refine aF ?_|refine bA ?_|refine jU ?_|refine jT b ?_|refine nO b ?_|refine bf (jU ⟨rfl,rfl⟩) (jU ⟨rfl,rfl⟩) ?_|refine bf (jT b ⟨rfl,rfl⟩) (jT b ⟨rfl,rfl⟩) ?_|refine bf (nO b ⟨rfl,rfl⟩) (nO b ⟨rfl,rfl⟩) ?_|refine aM (jU ⟨rfl,rfl⟩) ?_|refine aM (jT b ⟨rfl,rfl⟩) ?_|refine aM (nO b ⟨rfl,rfl⟩) ?_)
     simp(config:={maxSteps:=2000000}) only[Kon,push_cast,reduceIte,Nat.reduceEqDiff,Nat.reduceAdd,Nat.reduceMul,Nat.reduceSub,Nat.reduceLT,Nat.reduceLeDiff,Int.reduceLT,Int.reduceLE,Int.reduceAdd,Int.reduceSub,Int.reduceNeg,Int.reduceToNat,Int.reduceEq,reduceCtorEq, *]
   | (first|refine bq asR ?_|refine bm ?_|refine aP ?_|refine bz ?_|refine bO (aE ?_))
     simp only[push_cast,reduceIte,Nat.reduceEqDiff,Nat.reduceAdd,Nat.reduceMul,Nat.reduceSub,Nat.reduceLT,Nat.reduceLeDiff,Int.reduceLT,Int.reduceLE,Int.reduceAdd,Int.reduceSub,Int.reduceNeg,Int.reduceToNat,Int.reduceEq,reduceCtorEq, *]
   |exact bK
   |first|apply bL|apply br|apply bM|apply bu|apply bN|apply bv
   |refine aT ?_
   |refine aO ?_
   |first|refine aR rfl ?_|refine aS rfl ?_|refine aB rfl ?_ ?_|refine aW rfl (λ_=>?_) (λ_=>?_)|refine aV rfl (λ_=>?_) (λ_=>?_)
   |((first|refine aA (λ_=>?_) (λ_=>?_)|refine aD (λ_=>?_) (λ_=>?_))<;>try simp(config:={maxSteps:=2000000}) only[Kon,push_cast,reduceIte,Nat.reduceEqDiff,Nat.reduceAdd,Nat.reduceMul,Nat.reduceSub,Nat.reduceLT,Nat.reduceLeDiff,Int.reduceLT,Int.reduceLE,Int.reduceAdd,Int.reduceSub,Int.reduceNeg,Int.reduceToNat,Int.reduceEq,reduceCtorEq, *])
   |refine And.intro trivial ?_
   |refine And.intro asP ?_
   |refine bd rfl (λ_=>?_) (λ_=>?_)
   |refine And.intro ?_ ?_
  rename_i m;exact ac rfl (c.o (.inl (by simpa using m)));rename_i m A;exact ac rfl (c.o (.inr (.inl (by simpa using A))));exact ac rfl (c.o (.inr (.inr G)))
 .have hroom:=Lib.index_room u w (by rw[N];omega);rw[N]at hroom;obtain⟨a,rfl⟩:∃a:Nat,z=(a:Int):=⟨z.toNat,asP⟩;have m1:IntKind.i64.wrap ((a:Int)+(w.length:Int))=(a:Int)+(w.length:Int):=ae asP asP;have m2:((a:Int)+(w.length:Int)).toNat=a+w.length:=asP;have m3:(u.drop (a+w.length)).take (u.length-(a+w.length))=u.drop (a+w.length):=ap2 asQ;have m4:(0:Int)<=(a:Int)+(w.length:Int):=asP
  repeat' first
   |refine bG ?_
   | (first|refine bw asR ?_|refine aN asR ?_|refine aQ ?_|refine cS ?_|refine bJ (fun _=>?_)|refine aF ?_|refine bA ?_|refine jU ?_|refine jT b ?_|refine nO b ?_|refine bf (jU ⟨rfl,rfl⟩) (jU ⟨rfl,rfl⟩) ?_|refine bf (jT b ⟨rfl,rfl⟩) (jT b ⟨rfl,rfl⟩) ?_|refine bf (nO b ⟨rfl,rfl⟩) (nO b ⟨rfl,rfl⟩) ?_|refine aM (jU ⟨rfl,rfl⟩) ?_|refine aM (jT b ⟨rfl,rfl⟩) ?_|refine aM (nO b ⟨rfl,rfl⟩) ?_)
     simp(config:={maxSteps:=2000000}) only[Kon,push_cast,reduceIte,Nat.reduceEqDiff,Nat.reduceAdd,Nat.reduceMul,Nat.reduceSub,Nat.reduceLT,Nat.reduceLeDiff,Int.reduceLT,Int.reduceLE,Int.reduceAdd,Int.reduceSub,Int.reduceNeg,Int.reduceToNat,Int.reduceEq,reduceCtorEq, *]
   | (first|refine bq asR ?_|refine bm ?_|refine aP ?_|refine bz ?_|refine bO (aE ?_))
     simp only[push_cast,reduceIte,Nat.reduceEqDiff,Nat.reduceAdd,Nat.reduceMul,Nat.reduceSub,Nat.reduceLT,Nat.reduceLeDiff,Int.reduceLT,Int.reduceLE,Int.reduceAdd,Int.reduceSub,Int.reduceNeg,Int.reduceToNat,Int.reduceEq,reduceCtorEq, *]
   |exact bK
   |first|apply bL|apply br|apply bM|apply bu|apply bN|apply bv
   |refine aT ?_
   |refine aO ?_
   |first|refine aR rfl ?_|refine aS rfl ?_|refine aB rfl ?_ ?_|refine aW rfl (λ_=>?_) (λ_=>?_)|refine aV rfl (λ_=>?_) (λ_=>?_)
   |((first|refine aA (λ_=>?_) (λ_=>?_)|refine aD (λ_=>?_) (λ_=>?_))<;>try simp(config:={maxSteps:=2000000}) only[Kon,push_cast,reduceIte,Nat.reduceEqDiff,Nat.reduceAdd,Nat.reduceMul,Nat.reduceSub,Nat.reduceLT,Nat.reduceLeDiff,Int.reduceLT,Int.reduceLE,Int.reduceAdd,Int.reduceSub,Int.reduceNeg,Int.reduceToNat,Int.reduceEq,reduceCtorEq, *])
   |refine And.intro trivial ?_
   |refine And.intro asP ?_
   |refine bd rfl (λ_=>?_) (λ_=>?_)
   |refine And.intro ?_ ?_
  rename_i m;exact ac rfl (c.o (.inl (by simpa using m)));rename_i m A;exact ac rfl (c.o (.inr (.inl (by simpa using A))));rename_i m A;refine asU asP asS ⟨i+1,u.drop (a+w.length),_,rfl,j,?_,hid ?_,rfl,rfl⟩;simp;omega;have:=r.o (λe=>by rcases e with e|e|e;rw[decide_eq_true e.1,e.2]at m;simp at m;rw[decide_eq_true e.1,e.2]at A;simp at A;omega)
  simpa using this
inductive Flt where
 |mk (kind:Int) (attr val:List UInt8) (ps:List Pc) (kids:List Flt)
def Flt.kind:Flt->Int
 |.mk k _ _ _ _=>k
def Flt.attr:Flt->List UInt8
 |.mk _ a _ _ _=>a
def Flt.val:Flt->List UInt8
 |.mk _ _ v _ _=>v
def Flt.ps:Flt->List Pc
 |.mk _ _ _ p _=>p
def Flt.kids:Flt->List Flt
 |.mk _ _ _ _ l=>l
abbrev agA:Flt:=.mk 0 [] [] [] []
instance:Inhabited Flt:=⟨agA⟩
def tf1(b:Bool):Int:=if b=true then 1 else 0
def amN(ts:List Typ)(l:List Atr)(ty:Typ)(k:Int)(a v:List UInt8)(ps:List Pc):Int :=
 if k=7 then tf1 (!(i8 l a).isEmpty)else
 if k=3\/k=8 then(if(dm ty.2.1 v).isNone=true then 2 else tf1 (ajV ts l a v))else
 if k=4 then(if 3<ty.2.1\/NY ps=false then 2 else tf1 ((i8 l a).any λx=>(N6 ty.2.1 x ps).getD false))else
 if(ti ty.2.1 v v).isNone=true then 2 else tf1 ((i8 l a).any λx=>let o:=(ti ty.2.1 x v).getD 0;decide (o=0) ||(decide (0<o) == decide (k=5)))
def amL(ts:List Typ)(l:List Atr)(k:Int)(a v:List UInt8)(ps:List Pc):Int:=match gV ts a with
 |none=>2
 |some ty=>if k<0\/8<k then 2 else amN ts l ty k a v ps
def ad6(k:Int)(l:List Int):Int:=if k=0 then ac4 l else if k=1 then orV l else if l.length≠1 then 2 else N0 (l.getD 0 0)
mutual
def ofM(ts:List Typ)(l:List Atr):Flt->Int
 |.mk k a v ps ks=>if k=0\/k=1\/k=2 then ad6 k (alM ts l ks)else amL ts l k a v ps
def alM(ts:List Typ)(l:List Atr):List Flt->List Int
 |[]=>[]
 |f::r=>ofM ts l f::alM ts l r
end
theorem adP(ts:List Typ)(l:List Atr):∀ks:List Flt,alM ts l ks=ks.map (ofM ts l)
 |[]=>rfl
 |f::r=>by rw[alM,adP ts l r];rfl
mutual
def fA:Flt->List AV
 |.mk k a v ps ks=>[.int .i64 k,.str a,.str v,.sl (rB ps) ps.length none,.sl (fsA ks) (fsN ks) none]
def fsA:List Flt->List AV
 |[]=>[]
 |f::l=>fA f++fsA l
def fsN:List Flt->Nat
 |[]=>0
 |_::l=>fsN l+1
end
theorem ake:∀l:List Flt,fsN l=l.length
 |[]=>rfl
 |_::l=>by simp only[fsN,apC,ake l]
theorem Wc(k:Int)(a v:List UInt8)(ps:List Pc)(ks:List Flt):fA (.mk k a v ps ks)=[.int .i64 k,.str a,.str v,.sl (rB ps) ps.length none,.sl (fsA ks) ks.length none]:=by rw[fA,ake]
theorem abT(f:Flt):fA f=[.int .i64 f.kind,.str f.attr,.str f.val,.sl (rB f.ps) f.ps.length none,.sl (fsA f.kids) f.kids.length none]:=by obtain⟨k,a,v,ps,ks⟩:=f;exact Wc k a v ps ks
theorem acN:∀l:List Flt,(fsA l).length=l.length*5
 |[]=>rfl
 |n::l=>by simp only[fsA,apB,acN l,abT,apC,ap9];omega
theorem afN:∀{l:List Flt}{k:Nat},k<l.length->((fsA l).drop (k*5)).take 5=fA (l.getD k agA)
 |n::l,0,_=>by simp[fsA,abT]
 | n::l,k+1,h=>by
   have a:=@afN l k (by simpa using h);have e:(fsA (n::l)).drop ((k+1)*5)=(fsA l).drop (k*5):=by
    rw[fsA,List.drop_append,abT]
    grind
   simp[*]
def Tr(v:Int):Prop:=v=0\/v=1\/v=2
theorem ao7{v:Int}(h:Tr v):N0 (N0 v)=v:=by rcases h with rfl|rfl|rfl<;>decide
mutual
theorem acP{P:Flt->Prop}(h:∀k a v ps ks,(∀x∈ks,P x)->P (.mk k a v ps ks)):∀f,P f
 |.mk k a v ps ks=>h k a v ps ks (aeq h ks)
theorem aeq{P:Flt->Prop}(h:∀k a v ps ks,(∀x∈ks,P x)->P (.mk k a v ps ks)):∀(l:List Flt),∀x∈l,P x
 |[],x,hx=>by cases hx
 | f::r,x,hx=>by
   rcases apP.1 hx with e|e
   .rw[e];exact acP h f
   .exact aeq h r x e
end
mutual
def FlB(A V N T M:Nat):Flt->Prop
 |.mk _ a v ps ks=>a.length<=A/\v.length<=V/\ps.length<=N/\(∀p∈ps,p.2.length<=T)/\ks.length<=M/\af5 A V N T M ks
def af5(A V N T M:Nat):List Flt->Prop
 |[]=>True
 |f::r=>FlB A V N T M f/\af5 A V N T M r
end
theorem aaS{A V N T M:Nat}:∀{l:List Flt},af5 A V N T M l->∀x∈l,FlB A V N T M x
 |[],_,x,hx=>by cases hx
 | f::r,h,x,hx=>by
   rw[af5]at h;rcases apP.1 hx with rfl|e
   .simp[*]
   .exact aaS h.2 x e
theorem ada{A V N T M:Nat}:∀{l:List Flt},(∀x∈l,FlB A V N T M x)->af5 A V N T M l
 |[],_=>by rw[af5];trivial
 |f::r,h=>by rw[af5];exact⟨h f asQ,ada λx a=>h x (by simp[a])⟩
abbrev ain:Flt->Prop:=FlB 140737488351232 140737488351232 9223372036854775807 140737488351232 9223372036854775807
abbrev abh:Flt->Prop:=FlB 140737488351232 3000 20 100 60
end Go.Proofs.YtdnfjhflkkpokaaGreatDoor.Av
set_option maxRecDepth 100000
namespace Go.Proofs.YtdnfjhflkkpokaaGreatDoor.Av
open Go
variable {f:FuncId}{cap:Option Nat}
def T9:LSO:=[Az 3 0,Az 4 1,Ac 6 0]
def T8:LSO:=[Ad 17 0 4,Ab 18 1 17]
def T7:LSO:=[An 20 18 0,Aa 19 20]
def T6:LSO:=[An 21 18 1,Aa 19 21]
def T5:LSO:=[An 22 18 2,Aa 19 22]
def TZ:LSO:=[Ak 7]
def TY:LSO:=[Ad 23 4 4,Ab 24 1 23,Ah 25 24,Ac 26 0]
def TX:LSO:=[Al 27 26 25]
def TW:LSO:=[Am 28 5 24 26,Ar 29 5 28,BU 9,Ap 5 9 29]
def TV:LSO:=[Aa 30 7,Ar 31 2 3,Ar 32 5 9,Aa 33 2,AI 34 27 31 32 33,Cx 35 34,o1 36 (.app 1 1 8 [(.int .i64 0)] (tm 30) (tm 35)),Aa 7 36]
def PA:LSO:=[Ai 37 26 1,Aa 26 37]
def Pz:LSO:=[Ad 39 0 4,Ab 40 1 39,An 41 40 0,Aa 38 41]
def Py:LSO:=[Aa 42 7,Aj 43 64 42,Aa 6 43]
def Px:LSO:=[Ad 45 0 4,Ab 46 1 45,An 47 46 1,Aa 44 47]
def Pw:LSO:=[Aa 48 7,Aj 49 65 48,Aa 6 49]
def Pv:LSO:=[Aa 51 7,Ah 52 51,AB 53 52 1,Aa 50 53]
def Pu:LSO:=[Ac 6 2]
def Pt:LSO:=[Aa 54 7,o1 55 (.iaddr 1 (tm 54) (iv 0)),Ab 56 1 55,Aj 57 66 56,Aa 6 57]
def Ps:LSO:=[Ar 59 2 3,Ad 60 1 4,Ab 61 1 60,As 62 45 59 61,Aa 58 62,Ao 63 58,Aq 64 58,By 10,Ap 4 10 63,Aa 11 64]
def Pr:LSO:=[Aa 65 11,A7 66 65,Aa 67 66,.grp none 67 false
 [A3 68 67 0 4,Ay 69 67 1 68,Bh 70 67 69 0]
 71 (tm 70),Aa 72 71,.grp none 72 false
 [A3 73 72 0 4,Ay 74 72 1 73,AC 75 72 74 8]
 76 (tm 75)]
def Pq:LSO:=[Ac 6 2]
def Pp:LSO:=[Aa 77 2,Ad 78 1 4,Ab 79 1 78,As 80 67 77 79,Aa 12 80]
def Po:LSO:=[Ad 82 1 10,Ab 83 1 82,Ad 84 2 4,Ab 85 1 84,As 86 68 83 85,Aa 81 86,Ao 87 81,Aq 88 81,Aa 13 87,Aa 14 88]
def Pn:LSO:=[Ad 89 0 4,Ab 90 1 89]
def Pm:LSO:=[An 92 90 7,Aa 91 92]
def Pl:LSO:=[Aa 93 12,Ah 94 93,A8 95 94 0,Aj 96 69 95,Aa 6 96]
def Pk:LSO:=[An 98 90 3,Aa 97 98]
def Pj:LSO:=[An 99 90 8,Aa 97 99]
def Pi:LSO:=[Aa 100 14,A7 101 100]
def Ph:LSO:=[Ac 6 2]
def Pg:LSO:=[Ar 102 2 3,Aa 103 2,Ad 104 1 4,Ab 105 1 104,Ad 106 2 4,Ab 107 1 106,o1 108 (.call 70 [(tm 102),(tm 103),(tm 105),(tm 107)]),Aj 109 69 108,Aa 6 109]
def Pf:LSO:=[An 111 90 4,Aa 110 111]
def Pe:LSO:=[Ad 112 1 10,Ab 113 1 112,A8 114 113 3,Aa 115 114,.grp none 115 false
 [A3 116 115 3 4,Ay 117 115 1 116,
 og 118 115 false (.build [(.int .i64 0),(.str []),(.str []),(.sl [] 0 (some 0)),(.sl [] 0 (some 0))] [(0,(1,(iv 4))),(1,(1,(.av (.str [97])))),(3,(1,(tm 117)))]),
 AN 119 115 71 118,Bk 120 115 119 0]
 121 (tm 120)]
def Pd:LSO:=[Ac 6 2]
def Pb:LSO:=[Aa 122 12,o1 123 (.mkfn 73 [(tm 10),(tm 4)]),As 124 72 122 123,Aj 125 69 124,Aa 6 125]
def Pa:LSO:=[Ad 127 1 10,Ab 128 1 127,Ad 129 2 4,Ab 130 1 129,Ad 131 2 4,Ab 132 1 131,AI 133 75 128 130 132,Aa 126 133,Ao 134 126,Aq 135 126,Aa 15 134,Aa 16 135]
def O9:LSO:=[Aa 136 16,A7 137 136]
def O8:LSO:=[Ac 6 2]
def O7:LSO:=[Aa 138 12,o1 139 (.mkfn 76 [(tm 10),(tm 4)]),As 140 72 138 139,Aj 141 69 140,Aa 6 141]
def jL:aK:=⟨142,(asI T9 [] (.seq (asI T8 C4 (.block 0 (.seq (asI T7 C4 (asJ 19 .skip (asI T6 C4 (asJ 19 .skip (.sreg T5 C4))))) (asJ 19 (asI TZ [] (.seq (asI TY CJ (asL 1 (asI TX [] (.seq (asM 27 1) (.seq (.block 2 (asI TW C6 (.sreg TV CE))) (.sreg PA C4)))))) (.seq (.block 3 (asI Pz C7 (asJ 38 (asI Py C6 .ret) (asI Px C7 (asJ 44 (asI Pw C6 .ret) (asI Pv C7 (asK 50 (.sreg Pu [])))))))) (asI Pt CA .ret)))) .skip)))) (asI Ps CR (.seq (asI Pr CB (asK 76 (.sreg Pq []))) (asI Pp CA (asI Po CG (.seq (asI Pn C4 (.block 4 (asI Pm C4 (asJ 91 (asI Pl CA .ret) (.seq (asI Pk C4 (asJ 97 .skip (.sreg Pj C4))) (asJ 97 (.seq (asI Pi C4 (asK 101 (.sreg Ph []))) (asI Pg CM .ret)) (asI Pf C4 (asJ 110 (.seq (asI Pe CA (asK 121 (.sreg Pd []))) (asI Pb CA .ret)) .skip)))))))) (.seq (asI Pa CK (asI O9 C4 (asK 137 (.sreg O8 [])))) (asI O7 CA .ret))))))))),[(.tmp 6)]⟩
attribute [push_cast] T9 T8 T7 T6 T5 TZ TY TX TW TV PA Pz Py Px Pw Pv Pu Pt Ps Pr Pq Pp Po Pn Pm Pl Pk Pj Pi Ph Pg Pf Pe Pd Pb Pa O9 O8 O7
theorem wm:asN 27=asO jL:=asR
def Ko:LSO:=[Af 4]
def Kn:LSO:=[Ad 8 1 1,Ab 9 1 8,Aa 10 0,Ad 11 3 2,Ab 12 1 11,AI 13 74 9 10 12,Aa 7 13,Ao 14 7,Aq 15 7,Aa 5 14,Aa 6 15]
def Km:LSO:=[Aa 16 5,Aa 4 16]
def EY:aK:=⟨17,(asI Ko [] (asI Kn Ds (asI Km C4 .ret))),[(.tmp 4)]⟩
attribute [push_cast] Ko Kn Km
theorem Yt:asN 73=asO EY:=asR
def Kl:LSO:=[Af 4]
def Kk:LSO:=[Ad 8 1 1,Ab 9 1 8,Aa 10 0,Ad 11 2 2,Ab 12 1 11,AI 13 75 9 10 12,Aa 7 13,Ao 14 7,Aq 15 7,Aa 5 14,Aa 6 15]
def Kj:LSO:=[Aa 16 5,An 17 16 0,Aa 18 17,.grp none 18 false
 [Ag 19 18 5,AC 20 18 19 0,A3 21 18 0 2,Ay 22 18 1 21,AH 23 18 22 5,og 24 18 false (.eqk false .bool (tm 20) (tm 23))]
 25 (tm 24),Aa 4 25]
def EX:aK:=⟨26,(asI Kl [] (asI Kk Ds (asI Kj CA .ret))),[(.tmp 4)]⟩
attribute [push_cast] Kl Kk Kj
theorem Ys:asN 76=asO EX:=asR
def O6:LSO:=[Ac 2 0]
def O5:LSO:=[Aa 3 0]
def O4:LSO:=[Ac 2 1]
def O3:LSO:=[Ac 2 0]
def o8:aK:=⟨4,(asI O6 [] (.seq (asI O5 [] (asK 3 (.sreg O4 []))) (asI O3 [] .ret))),[(.tmp 2)]⟩
attribute [push_cast] O6 O5 O4 O3
theorem Od:asN 69=asO o8:=asR
def d6:LSO:=[Af 4]
def dZ:LSO:=[Aa 5 0,Aa 6 1,As 7 113 5 6,AL 8 7 0,Aa 4 8]
def dr:aK:=⟨9,(asI d6 [] (asI dZ CA .ret)),[(.tmp 4)]⟩
attribute [push_cast] d6 dZ
theorem iW:asN 72=asO dr:=asR
def eR:LSO:=[Ac 4 0]
def eQ:LSO:=[Aa 6 0,Ah 7 6,Ac 8 0]
def eP:LSO:=[Al 9 8 7]
def eO:LSO:=[Aa 10 8,Aa 5 10]
def eN:LSO:=[Aa 11 1,Aa 12 0,Aa 13 5,Am 14 1 12 13,Ab 15 1 14,B1 16 11 15]
def eM:LSO:=[Aa 17 5,Aa 4 17]
def eL:LSO:=[Ai 18 8 1,Aa 8 18]
def eK:LSO:=[Ac 4 (-1)]
def dB:aK:=⟨19,(asI eR [] (.seq (asI eQ CD (asL 0 (asI eP [] (.seq (asM 9 0) (.seq (.block 1 (asI eO C4 (asI eN CB (asK 16 (.sreg eM C4))))) (.sreg eL C4)))))) (asI eK [] .ret))),[(.tmp 4)]⟩
attribute [push_cast] eR eQ eP eO eN eM eL eK
theorem jy:asN 113=asO dB:=asR
def Jm:LSO:=[Az 3 0,Af 6]
def Jl:LSO:=[Aa 11 1,Au 12 11,Ab 13 1 12,Ai 14 13 1,Au 15 11,Ap 1 15 14]
def Jk:LSO:=[Aa 16 1,Au 17 16,Ab 18 1 17,A8 19 18 60,Aa 20 19,.grp none 20 false
 [Ag 21 20 2,AC 22 20 21 64]
 23 (tm 22),Aa 24 23,.grp none 24 false
 [A3 25 24 2 3,Ay 26 24 1 25,Bt 27 24 26,AC 28 24 27 3000]
 29 (tm 28),Aa 30 29,.grp none 30 false
 [A3 31 30 3 3,Ay 32 30 1 31,AM 33 30 32,AC 34 30 33 20]
 35 (tm 34),Aa 36 35,.grp none 36 false
 [A3 37 36 4 3,Ay 38 36 1 37,AM 39 36 38,AC 40 36 39 60]
 41 (tm 40)]
def Jj:LSO:=[Af 6]
def Ji:LSO:=[Ad 42 3 3,Ab 43 1 42,Ah 44 43,Ac 45 0]
def Jh:LSO:=[Al 46 45 44]
def Jg:LSO:=[Am 47 2 43 45,Ar 48 2 47,Ct 8,Ap 2 8 48]
def Jf:LSO:=[Ad 49 1 8,Ab 50 1 49,Ax 51 50,A8 52 51 100]
def Je:LSO:=[Af 6]
def Jd:LSO:=[Ai 53 45 1,Aa 45 53]
def DQ:LSO:=[Ad 54 4 3,Ab 55 1 54,Ah 56 55,Ac 57 0]
def DP:LSO:=[Al 58 57 56]
def DO:LSO:=[Am 59 5 55 57,Ar 60 5 59,BU 10,Ap 5 10 60]
def DN:LSO:=[Ar 61 5 10,Aa 62 1,Aa 63 2,Ai 64 63 1,AI 65 96 61 62 64,A7 66 65]
def DM:LSO:=[Af 6]
def DL:LSO:=[Ai 67 57 1,Aa 57 67]
def DK:LSO:=[A0 6]
def wL:aK:=⟨68,(asI Jm [] (asI Jl CQ (.seq (asI Jk CK (asK 41 (.sreg Jj []))) (.seq (asI Ji CJ (asL 0 (asI Jh [] (.seq (asM 46 0) (.seq (.block 1 (asI Jg C6 (asI Jf C7 (asK 52 (.sreg Je []))))) (.sreg Jd C4)))))) (.seq (asI DQ CJ (asL 2 (asI DP [] (.seq (asM 58 2) (.seq (.block 3 (asI DO C6 (asI DN CB (asK 66 (.sreg DM []))))) (.sreg DL C4)))))) (asI DK [] .ret)))))),[(.tmp 6)]⟩
attribute [push_cast] Jm Jl Jk Jj Ji Jh Jg Jf Je Jd DQ DP DO DN DM DL DK
theorem Xd:asN 96=asO wL:=asR
def Jp:LSO:=[Az 1 0,Af 2]
def Jo:LSO:=[Cs 3,Cd 1 3 0]
def Jn:LSO:=[Ar 4 5 1,Bv 5 96 4 3 1,Aa 2 5]
def wM:aK:=⟨6,(asI Jp [] (asI Jo [] (asI Jn C6 .ret))),[(.tmp 2)]⟩
attribute [push_cast] Jp Jo Jn
theorem Xe:asN 50=asO wM:=asR
attribute [push_cast] jL EY EX o8 dr dB wM
variable {L:List Blk}{K:apr}
set_option maxHeartbeats 8000000
set_option maxRecDepth 100000
theorem ahf:∀(f:Flt),ain f->∀{p:Nat}{n d:Int}{L:List Blk}{K:apr},L[p]?=some (.cells [.int .i64 n])->0<=n->n<=60->1<=d->d<=65->(∀(b:Bool) (m:Int),0<=m->m<=61->(b=true->m<=60/\abh f)->K (.bool b) (L.set p (.cells [.int .i64 m]))) ->
  apq 96 [.agg (fA f),.ptr p 0,.int .i64 d] L K:=by
 refine acP λk a v ps ks ih I p n d L K hL an av a0 ap h=>?_
 simp only[FlB]at I;obtain⟨r1,r2,r3,r4,r5,r6⟩:=I;replace r6:=hid (aaS r6);replace ih:=hid ih;have M:p<L.length:=(aps.1 hL).1;have f1:∀X:List Blk,(L++X)[p]?=some (.cells [.int .i64 n]):=λX=>by rw[apx M];exact hL
 have f2:∀(X:List Blk) A,(L++X).set p A=L.set p A++X:=λX A=>aqB _ _ M
 have f3:∀(X:List Blk) A,(L.set p A++X)[p]?=some A:=λX A=>by rw[apx (by simpa using M),ap3,if_pos rfl,if_pos M]
 have f4:∀A:Blk,(L.set p A).length=L.length:=λA=>asQ
 have f5:∀(X:List Blk) A,(L.set p A++X)[L.length]?=X[0]?:=λX A=>by rw[apH asQ];simp
 have f6:∀(X:List Blk) A k,(L.set p A++X)[L.length+k]?=X[k]?:=λX A k=>by rw[apH asQ];simp
 have f7:∀(X:List Blk) A k C,(L.set p A++X).set (L.length+k) C=L.set p A++X.set k C:=λX A k C=>by rw[apW _ _ asQ];simp
 have f8:∀(X:List Blk) A C,(L.set p A++X).set p C=L.set p C++X:=λX A C=>by rw[aqB _ _ (by simpa using M),List.set_set]
 have g0:IntKind.i64.wrap (n+1)=n+1:=ae asP asP;have g9:IntKind.i64.wrap (d+1)=d+1:=ae asP asP;have l:∀(X:List Blk) (b:Bool) (m:Int),K (.bool b) (L.set p (.cells [.int .i64 m]))->Fin L (.bool b) (L.set p (.cells [.int .i64 m])++X) K:=λX b m hk =>
  aaT (f4 _) (λhh k ai=>by rcases asD ai with e|e;exact hh k e;subst e;rfl) rfl hk
 replace l:=hid l;replace h:=hid h;rw[Wc];refine ab Xd (by simp[wL]) ?_;simp only[wL,ag];obtain⟨R,r⟩:∃P,P=rB ps:=⟨_,rfl⟩;obtain⟨U,s⟩:∃P,P=fsA ks:=⟨_,rfl⟩;rw[<- r,<- s];replace r:=hid r;replace s:=hid s
 repeat' first
  |refine bG ?_
  | (first|refine bw asR ?_|refine aN asR ?_|refine aQ ?_|refine cS ?_|refine bJ (fun _=>?_)|refine aF ?_|refine bA ?_)
    refine sm ?_
  | (first|refine bq asR ?_|refine bm ?_|refine aP ?_|refine bz ?_|refine bO (aE ?_))
    refine sl ?_
  |exact bK
  |first|apply bL|apply br|apply bM|apply bu|apply bN|apply bv
  |refine aT ?_
  |refine aO ?_
  |first|refine aR rfl ?_|refine aS rfl ?_|refine aB rfl ?_ ?_|refine aW rfl (λ_=>?_) (λ_=>?_)|refine aV rfl (λ_=>?_) (λ_=>?_)
  |((first|refine aA (λ_=>?_) (λ_=>?_)|refine aD (λ_=>?_) (λ_=>?_))<;>try refine sm ?_)
  |refine And.intro trivial ?_
  |refine And.intro asP ?_
  |refine bd rfl (λ_=>?_) (λ_=>?_)
  |refine And.intro ?_ ?_
 rename_i u;exact l.o _ _ _ (h.o false (n+1) asP asP (λe=>by cases e));rename_i u;have b1:n+1<=60/\d<=64/\v.length<=3000/\ps.length<=20/\ks.length<=60:=by
  refine⟨?_,?_,?_,?_,?_⟩;exact arq.1 λe=>u (.inl (.inl (.inl (.inl e))))
  exact arq.1 λe=>u (.inl (.inl (.inl (.inr e))))
  have:=arq.1 λe=>u (.inl (.inl (.inr e)));omega
  have:=arq.1 λe=>u (.inl (.inr e));omega
  have:=arq.1 λe=>u (.inr e);omega
 clear u;obtain⟨b1,b2,b3,b4,b5⟩:=b1;obtain⟨B,S⟩:=apl (Blk.cells [AV.int IntKind.i64 k,AV.str a,AV.str v,AV.sl R ps.length none,AV.sl U ks.length none]);rw[S];refine aj (λm T' L'=>∃(i:Nat) (X:List Blk),m=ps.length-i/\i<=ps.length/\(∀x∈ps.take i,x.2.length<=100)/\T'=[(45,.int .i64 (i:Int)),(44,.int .i64 ps.length),(43,.sl R ps.length none),(3,.ptr L.length 0),(1,.ptr p 0),(2,.int .i64 d)]/\L'=L.set p (.cells [.int .i64 (n+1)])++(B::X)) asT ⟨0,[],rfl,apv _,asQ,rfl,rfl⟩ ?_;rintro _ _ _ ⟨i,X,rfl,hi,E,rfl,rfl⟩;by_cases g:i<ps.length
 .have g1:(i:Int)<(ps.length:Int):=asP;have g2:=apn i asP;have O:=YU g;have e4:i*2+2<=R.length:=(by rw[r.o,ZA];omega);obtain⟨⟨x,t⟩,W⟩:∃a,ps.getD i (0,[])=a:=⟨_,rfl⟩;have j:ps.take (i+1)=ps.take i++[(x,t)]:=(by rw[apK g,show ps[i]=(x,t)by rw[<- W];simp[g]]);rw[W,<- r.o]at O;simp only[pcA]at O;replace E:=hid E;clear W;replace j:=hid j;clear r
  repeat' first
   |refine bG ?_
   | (first|refine bw asR ?_|refine aN asR ?_|refine aQ ?_|refine cS ?_|refine bJ (fun _=>?_)|refine aF ?_|refine bA ?_)
     refine sm ?_
   | (first|refine bq asR ?_|refine bm ?_|refine aP ?_|refine bz ?_|refine bO (aE ?_))
     refine sl ?_
   |exact bK
   |first|apply bL|apply br|apply bM|apply bu|apply bN|apply bv
   |refine aT ?_
   |refine aO ?_
   |first|refine aR rfl ?_|refine aS rfl ?_|refine aB rfl ?_ ?_|refine aW rfl (λ_=>?_) (λ_=>?_)|refine aV rfl (λ_=>?_) (λ_=>?_)
   |((first|refine aA (λ_=>?_) (λ_=>?_)|refine aD (λ_=>?_) (λ_=>?_))<;>try refine sm ?_)
   |refine And.intro trivial ?_
   |refine And.intro asP ?_
   |refine bd rfl (λ_=>?_) (λ_=>?_)
   |refine And.intro ?_ ?_
  rename_i u;exact l.o _ _ _ (h.o false (n+1) asP asP (λe=>by cases e));rename_i u;refine asU asP asS ⟨i+1,_,rfl,g,?_,rfl,rfl⟩;rw[j.o];intro y hy;rcases apy.1 hy with e|e;exact E.o y e;rw[apT]at e;subst e;have ar:¬(100:Int)<(t.length:Int):=u;show t.length<=100;omega
 have G:i=ps.length:=asP;subst G;have g1:¬(ps.length:Int)<(ps.length:Int):=asP;rw[apJ]at E;replace E:=hid E;subst S;refine wk ?_;obtain⟨B,S⟩:=apl (Blk.cells [AV.int IntKind.i64 k,AV.str a,AV.str v,AV.sl R ps.length none,AV.sl U ks.length none]);rw[S];refine aj (λm T' L'=>∃(i:Nat) (y:Int) (Y:List Blk),m=ks.length-i/\i<=ks.length/\0<=y/\y<=60/\X.length<=Y.length/\(∀x∈ks.take i,abh x)/\T'=[(57,.int .i64 (i:Int)),(56,.int .i64 ks.length),(55,.sl U ks.length none),(3,.ptr L.length 0),(1,.ptr p 0),(2,.int .i64 d)]/\L'=L.set p (.cells [.int .i64 y])++(B::Y)) asT ⟨0,n+1,_,rfl,apv _,asP,b1,apt _,asQ,rfl,rfl⟩ ?_;rintro _ _ _ ⟨i,y,Y,rfl,hi,J,N,al,D,rfl,rfl⟩;by_cases g:i<ks.length;have g1:(i:Int)<(ks.length:Int):=asP;have g2:=apn i asP;have O:=afN g;have e4:i*5+5<=U.length:=by rw[s.o,acN];omega
 obtain⟨q,T⟩:=apl (ks.getD i agA);have H:q∈ks:=by rw[<- T];simp[g]
 have j:ks.take (i+1)=ks.take i++[q]:=by rw[apK g,show ks[i]=q by rw[<- T];simp[g]]
 have w:∀{p:Nat}{n d:Int}{L:List Blk}{K:apr},L[p]?=some (.cells [.int .i64 n])->0<=n->n<=60->1<=d->d<=65->(∀(b:Bool) (m:Int),0<=m->m<=61->(b=true->m<=60/\abh q)->K (.bool b) (L.set p (.cells [.int .i64 m])))->apq 96 [.agg (fA q),.ptr p 0,.int .i64 d] L K:=λa b c d e f=>ih.o q H (r6.o q H) a b c d e f
 replace w:=@hid _ @w;rw[T,<- s.o]at O;obtain⟨qk,qa,qv,qp,qs⟩:=q;rw[Wc]at O;simp only[Wc]at w;replace D:=hid D;replace j:=hid j;clear T H;clear s;refine wk ?_;refine w.o (f3 _ _) J N asP asP λb m Q ad V=>?_
 rw[f8];cases b with
 | false =>
   clear V;refine asX ?_;exact l.o _ _ _ (h.o false m Q ad (λe=>by cases e))
 | true =>
   obtain⟨Z,F⟩:=V rfl;replace F:=hid F;clear V;refine asX ?_;refine asU asP (CutL (b:=by simp;omega)) ⟨i+1,m,_,rfl,g,Q,Z,by simp;omega,?_,rfl,rfl⟩;rw[j.o];intro z hz;rcases apy.1 hz with e|e
   .exact D.o z e
   .rw[apT]at e;subst e;exact F.o
 have G:i=ks.length:=asP;subst G;have g1:¬(ks.length:Int)<(ks.length:Int):=asP;rw[apJ]at D;replace D:=hid D;refine wk ?_;refine l.o _ _ _ (h.o true y J asP λ_=>⟨N,?_⟩);simp only[abh,FlB];exact⟨r1,b3,b4,E.o,b5,ada D.o⟩
theorem aif{f:Flt}(i:ain f)(h:∀b:Bool,(b=true->abh f)->K (.bool b) L):
  apq 50 [.agg (fA f)] L K:=by
 obtain⟨k,a,v,ps,ks⟩:=f;have c:=λ{p:Nat}{n d:Int}{L:List Blk}{K:apr}=>ahf (.mk k a v ps ks) i (p:=p) (n:=n) (d:=d) (L:=L) (K:=K)
 replace h:=hid h;replace c:=@hid _ @c;clear i;rw[Wc]at *;refine apo Xe ?_;refine c.o (show _=some (Blk.cells [AV.int .i64 0])by simp) asP asP asP asP λb m _ _ g=>?_
 have j:=hid (h.o b λe=>(g e).2);simp only[apW _ _ (Nat.le_add_right _ _),Nat.add_sub_cancel_left,aqS,List.set_cons_zero];clear g;refine asX ?_;exact ac rfl j.o
theorem anw{caps:List AV}{vs:List (List UInt8)}{q:List UInt8->Bool}{L:List Blk}(x:vs.length<=1100000)(l:∀(v:List UInt8) (K:AV->List Blk->Prop),v∈vs->K (.bool (q v)) L->apq f (.str v::caps) L K){K:apr}(r:vs.any q=false->K (.int .i64 (-1)) L)(t:∀k:Nat,vs.any q=true->K (.int .i64 k) L):
  apq 113 [.sl (vs.map AV.str) vs.length cap,.func f caps] L K:=by
 replace l:=hid l;replace r:=hid r;replace t:=hid t;refine apo jy ?_;refine aj (λn T' L'=>∃k:Nat,n=vs.length-k/\k<=vs.length/\T'=[(8,.int .i64 (k:Int)),(7,.int .i64 vs.length),(0,.sl (vs.map AV.str) vs.length cap),(1,.func f caps)]/\L=L'/\(vs.drop k).any q=vs.any q) (CutS (b:=apt _)) ⟨0,rfl,apv _,rfl,rfl,rfl⟩ ?_;rintro _ _ L' ⟨k,rfl,u,rfl,e,h⟩;subst e;replace h:=hid h;by_cases d:k<vs.length;have g1:(k:Int)<(vs.length:Int):=asP;have w:=apn k asP;obtain⟨v,i⟩:=apl (vs.getD k []);have g3:(vs.map AV.str).getD k .undef=.str v:=by rw[<- i];simp[d]
 have g4:k<(vs.map AV.str).length:=by simpa using d
 have j:v∈vs:=by rw[<- i];simp[d]
 have g:vs.drop k=v::vs.drop (k+1):=by rw[apY d,<- i];simp[d]
 have c:=h.o;rw[g,ar5]at c;rcases hqk:q v with _|_;have kk1:Hid (∀{K:apr},K (.bool false) L->apq f (.str v::caps) L K):=hid λa=>l.o v _ j (by rw[hqk];exact a)
 rw[hqk,aqG]at c;replace c:=hid c;clear hqk g h i j;refine wk ?_;exact asU asP asS ⟨k+1,rfl,d,rfl,rfl,c.o⟩;have kk1:Hid (∀{K:apr},K (.bool true) L->apq f (.str v::caps) L K):=hid λa=>l.o v _ j (by rw[hqk];exact a)
 rw[hqk,ari]at c;have p:=hid (t.o k c.symm);clear hqk g h i j c;refine wk ?_;exact aa p.o;have m:k=vs.length:=asP;subst m;have g1:¬(vs.length:Int)<(vs.length:Int):=asP;have c:=h.o;rw[aqe]at c;have s:=hid (r.o c.symm);clear h c;refine wk ?_;exact aa s.o
theorem aku{caps:List AV}{vs:List (List UInt8)}{q:List UInt8->Bool}{L:List Blk}(b:vs.length<=1100000)(a:∀(v:List UInt8) (K:AV->List Blk->Prop),v∈vs->K (.bool (q v)) L->apq f (.str v::caps) L K){K:apr}(h:K (.bool (vs.any q)) L):
  apq 72 [.sl (vs.map AV.str) vs.length cap,.func f caps] L K:=by
 refine apo iW ?_;refine anw (q:=q) b a (λe=>?_) (λk e=>?_);rw[e]at h;replace h:=hid h;refine asX ?_;exact aa h.o;rw[e]at h;replace h:=hid h;have g1:(0:Int)<=(k:Int):=asP;refine asX ?_;exact aa h.o
theorem alN{c c2 A:List AV}{d f e:Nat}{a b:Option Nat}(h:K (.int .i64 1) L):
  apq 27 [.agg [.sl c d a,.sl c2 f b],.agg [.int .i64 0,.str [],.str [],.sl [] 0 (some 0),.sl [] 0 (some 0)],.sl A e cap] L K:=by
 have kk1:Hid (∀{i:Nat}{L:List Blk}{K:apr},K (.int .i64 1) L->apq 64 [.gsl [] 0 i 1] L K):=@hid _ (λ{i L K} q=>Xm (xs:=[]) (by decide) q);replace h:=hid h;refine apo wm ?_;refine bR (l:=[]) (n:=0) 7 1 rfl (apU 1).symm ?_;rw[show ∀A B:Blk,(L++[A,B]).length=L.length+2 from λA B=>by simp];refine aj (λm T' L'=>m=0/\T'=[(26,.int .i64 0),(25,.int .i64 0),(24,.sl [] 0 (some 0)),(7,.gsl [] 0 (L.length+2) 1),(4,.ptr (L.length+1) 0),(3,.ptr L.length 0),(2,.sl A e cap)]/\L'=L++[.cells [.sl c d a,.sl c2 f b],.cells [.int .i64 0,.str [],.str [],.sl [] 0 (some 0),.sl [] 0 (some 0)],.spare 0 1]) asT ⟨rfl,rfl,asQ⟩ ?_;rintro _ _ _ ⟨rfl,rfl,rfl⟩;refine wk ?_;exact ac rfl h.o
theorem aoR:∀u∈awU,afZ u:=by intro u a;simp only[awU,apP,aqq,or_false]at a;rcases a with rfl|rfl;exact⟨⟨⟨by decide,by decide⟩,by decide⟩,⟨⟨by decide,by decide⟩,by decide⟩,by decide,by decide⟩;exact⟨⟨⟨by decide,by decide⟩,by decide⟩,⟨⟨by decide,by decide⟩,by decide⟩,by decide,by decide⟩
theorem anN:∀x∈awE,x.av.length<=1100000/\∀a∈x.av,bS a.1/\a.2.length<=1100000:=by intro x b;simp only[awE,apP,aqq,or_false]at b;rcases b with rfl|rfl;exact⟨by decide,asQ⟩;exact⟨by decide,by simp[bS]⟩
theorem aoS{L:List Blk}{iv mn mi:Nat}{nb bn:Int->Nat}{ck ci:Nat}{f:List TKy}{ib:Nat}{cb:Option Nat}(i:TOk eJ 2 awE)(j:b9 L iv mn mi nb bn ck ci f eJ 2 awE)(d:L[ib]?=some (.cells [dnA [],.sl (kr awR) awR.length cb])){s z:Int}{K:apr}(h:K (srA (tR aX awE awP (λ_=>1) eJ s [] false z 0)) L):
  apq 21 [.ptr iv 0,.agg [.sl (cV aX) aX.length none,.sl abY 9 none],.ptr ib 0,.agg [.sl [] 0 (some 0),dnA eJ,.int .i64 s,.int .i64 0,.str [],.str [],.sl [] 0 (some 0),.sl [] 0 (some 0),.sl [] 0 (some 0),.bool false,.int .i64 z,.int .i64 0],.sl [] 0 (some 0)] L K :=
 adt (names:=[]) ⟨rC.1,rC.2.1⟩ i (by decide) anN adq.m.b (by decide) asQ (@hid _ (λ{vs c} e {L K} q=>aag e q)) j d
  (@hid _ (λx g n e r a {X K} q=>amK (adm:=[]) (rs:=awR) (who:=[]) (by unfold Y5;omega) (by intro r a;simp only[awR,apP,aqq,or_false]at a;subst a;decide) (by intro r a;simp only[awR,apP,aqq,or_false]at a;subst a;simp[bS]) e (by decide) ⟨asQ,asQ⟩ ⟨asQ,asQ⟩ (i.ok x g).m.b (apm d) q))
  (@hid _ (λx g {X K} q=>alN q)) h
theorem afX(h:∀L',K (.bool true) L'):apq 9 [] L K:=by
 obtain⟨x,j⟩:=apl (cV aX);obtain⟨y,i⟩:=apl (aX.length);obtain⟨C,f⟩:=apl (abY);have kk2:Hid (Ctr Tryz.prog 15 [] (.agg [.sl x y none,.sl C 9 none])):=@hid _ (λ{L K} q=>afT (by rw[j,f,i];exact q));have b:Hid (∀{L:List Blk}{K:apr},(∀L' it iv mn mi rt nb bn ck ci m c ib cb,aeQ L' it iv mn mi rt nb bn ck ci m c eJ 2 awE->L'[ib]?=some (.cells [dnA [],.sl (kr awR) awR.length cb])->K (.tup [.agg [.ptr it 0,.ptr ib 0,.ptr rt 0,.sl [] 0 none,.sl (ii awR) 1 none],.bool true]) L') ->
  apq 7 [.agg [.sl (awU.flatMap rA) 2 none,.sl [] 0 none,.sl (ii awR) 1 none]] L K):=@hid _ (λ{L K} q=>agL (us:=awU) (adm:=[]) (rs:=awR) aoR (by decide) (by decide) (by intro r E;simp only[awR,apP,aqq,or_false]at E;subst E;simp[bS]) ⟨⟨by decide,asQ⟩,asQ⟩ (λg=>absurd akA g) (λL' it iv mn mi rt nb bn ck ci m c last l ib cb p k _ _ _ w _ _=>by
  rw[amo]at w;cases w;exact q L' it iv mn mi rt nb bn ck ci m c ib cb p k))
 obtain⟨d,u⟩:=apl (eJ);have kk1:Hid (Ctr Tryz.prog 31 [] (.sl (d.map aq) 1 none)):=@hid _ (λ{L K} q=>agk (by rw[u];unfold dnA;rw[show d.length=1 by rw[<- u];rfl];exact q));have v:AV.frzL (d.map aq)=d.map aq:=bB d;have t:=hid u;obtain⟨n,a⟩:=apl (d.map aq);rw[a]at kk1 v;have F:n.length=1:=by rw[<- a,<- u];rfl
 replace h:=hid h;replace j:=hid j;replace i:=hid i;replace f:=hid f;replace a:=hid a;clear u;refine apo Xb ?_;refine iL ?_;rw[show AV.frzL _=[AV.agg [.sl (awU.flatMap rA) 2 none,.sl [] 0 none,.sl (ii awR) 1 none]]from by simp only[AV.frzL,AV.frz,v,<- a.o,<- t.o];rfl]
 refine b.o (λL' it iv mn mi rt nb bn ck ci m c ib cb p k=>?_);have D:∀{s z:Int}{r:List Fnd×Int×List Rdn},tR aX awE awP (λ_=>1) eJ s [] false z 0=r->∀{X:List Blk}{K:apr},K (srA r) (L'++X)->apq 21 [.ptr iv 0,.agg [.sl x y none,.sl C 9 none],.ptr ib 0,.agg [.sl [] 0 (some 0),.sl n 1 none,.int .i64 s,.int .i64 0,.str [],.str [],.sl [] 0 (some 0),.sl [] 0 (some 0),.sl [] 0 (some 0),.bool false,.int .i64 z,.int .i64 0],.sl [] 0 (some 0)] (L'++X) K:=λ{s z r} e {X K} q=>by rw[<- a.o,<- t.o,<- j.o,<- i.o,<- f.o];exact aoS p.ok (p.code.app X) (apm k) (by rw[e];exact q)
 have kk3:Hid (∀{X:List Blk}{K:apr},K (.tup [.sl [dnA eJ,.sl [] 0 none] 1 none,.int .i64 4,.sl [] 0 none]) (L'++X)->apq 21 [.ptr iv 0,.agg [.sl x y none,.sl C 9 none],.ptr ib 0,.agg [.sl [] 0 (some 0),.sl n 1 none,.int .i64 2,.int .i64 0,.str [],.str [],.sl [] 0 (some 0),.sl [] 0 (some 0),.sl [] 0 (some 0),.bool false,.int .i64 1,.int .i64 0],.sl [] 0 (some 0)] (L'++X) K):=@hid _ (λ{X K} q=>D (aoQ p.ok) q);have kk4:Hid (∀{X:List Blk}{K:apr},K (.tup [.sl [dnA ([([99,110],[97])]::eJ),.sl (aJ [([99,110],[[97]])]) 1 none] 1 none,.int .i64 0,.sl [] 0 none]) (L'++X)->apq 21 [.ptr iv 0,.agg [.sl x y none,.sl C 9 none],.ptr ib 0,.agg [.sl [] 0 (some 0),.sl n 1 none,.int .i64 1,.int .i64 0,.str [],.str [],.sl [] 0 (some 0),.sl [] 0 (some 0),.sl [] 0 (some 0),.bool false,.int .i64 0,.int .i64 0],.sl [] 0 (some 0)] (L'++X) K):=@hid _ (λ{X K} q=>D (aoP p.ok) q);have G:∀A B:Blk,(L'++[A,B])[it]?=some (.cells [.ptr iv 0]):=λA B=>apm p.it
 generalize dnA eJ=D1 at kk3;generalize dnA ([([99,110],[97])]::eJ)=D2 at kk4;generalize aJ [([99,110],[[97]])]=A2 at kk4;clear D p k b a t j i f;refine asX ?_;exact aa (h.o _)
theorem am8{P:Program}{b:Bool}(h:af P f [] [] λv _=>v=.bool b)(m:K (.bool b) L):af P f [] L K:=λw0 S0 E w vs g q=>by
 have j:Rel w ⟨λ_=>False,0⟩ {mem:=E.mem,loc:=λ_=>none,tok:=λ_=>none} [] w:=by
  refine⟨g.mem,?_,λ_ _=>rfl,?_,?_,λ_ _=>rfl,?_,?_,?_,λ_ _ _=>rfl,apt _,rfl,rfl,rfl,g.glob,g.gsz⟩
  all_goals intros;simp_all
 have key:∀{E':Env}{L':List Blk}{w':World},Rel w ⟨λ_=>False,0⟩ E' L' w'->EC w w':=λk=>⟨λb p=>k.frame b p (λx=>x),k.size,k.os,k.tape,k.output⟩
 have i:VRL {mem:=E.mem,loc:=λ_=>none,tok:=λ_=>none} [] vs:=by simpa only[VRL]using q
 rcases h w _ _ w vs j i with⟨l,n⟩|⟨E',v,av,L',w',l,n,o,h4,s⟩;refine .inl ⟨l,n.mono λe w' ⟨E',v,av,L',a,b,c,d,r⟩=>⟨E,v,_,L,a,.refl E,m,?_,g.grown (key r)⟩⟩;subst c;simpa only[VR]using d;refine .inr ⟨E,v,_,L,w',l,.refl E,m,?_,g.grown (key s)⟩;subst o;simpa only[VR]using h4
theorem ah8(h:K (.bool true) L):apq 9 [] L K:=am8 (afX λ_=>rfl) h
end Go.Proofs.YtdnfjhflkkpokaaGreatDoor.Av
