/- Joined texts of the walk, made small by a program. -/
import Derived.Test.YtdnfjhflkkpokaaGreatDoorGk8
import Derived.Test.YtdnfjhflkkpokaaGreatDoorGk7
import Derived.Test.YtdnfjhflkkpokaaGreatDoorGk5
import Derived.Lib.IndexMore
import Derived.Test.YtdnfjhflkkpokaaGreatDoorGk13
import Derived.Test.YtdnfjhflkkpokaaGreatDoorGk15
import Derived.Test.YtdnfjhflkkpokaaGreatDoorGk4
import Derived.Test.YtdnfjhflkkpokaaGreatDoorRows
import Derived.KernelRfl
import Derived.Test.YtdnfjhflkkpokaaGreatDoorGk11
import Derived.Test.YtdnfjhflkkpokaaGreatDoorGk12
import Derived.Test.YtdnfjhflkkpokaaGreatDoorGk14
set_option linter.unusedSimpArgs false
set_option linter.unusedVariables false
namespace Go.Proofs.YtdnfjhflkkpokaaGreatDoor.Av
open Go
variable {L:List Blk}{K:aoY}
set_option maxHeartbeats 8000000
set_option maxRecDepth 100000
abbrev Pc:=Int×List UInt8
def pcA(p:Pc):List AV:=[.int .i64 p.1,.str p.2]
def rI(l:List Pc):List AV:=l.flatMap pcA
theorem Y8(l:List Pc):(rI l).length=l.length*2:=by
 induction l with
 |nil=>rfl
 |cons a l ih=>simp only[rI,apD,apd,pcA,apb,apJ]at ih⊢;omega
theorem Ys:∀{l:List Pc}{k:Nat},k<l.length->((rI l).drop (k*2)).take 2=pcA (l.getD k (0,[]))
 |a::l,0,_=>rfl
 |a::l,k+1,h=>by have b:=@Ys l k (by simpa using h);rw[show(k+1)*2=k*2+1+1 by omega];simpa[rI,pcA]using b
def af5(n i:Nat)(p:Pc):Bool:=decide (p.2=[]\/p.1<0\/2<p.1\/(p.1=0/\0<i)\/(p.1=2/\i+1<n))
def Y9(n:Nat):Nat->List Pc->Bool
 |_,[]=>true
 |i,p::t => !(af5 n i p)&&Y9 n (i+1) t
def Np(l:List Pc):Bool:=Y9 l.length 0 l&&decide (0<l.length)
theorem adc{l:List Pc}{cap:Option Nat}(z:l.length<=1100000)(h:K (.bool (Np l)) L):aoX 167 [.sl (rI l) l.length cap] L K:=by
 unfold Np at h;obtain⟨R,m⟩:=aoT (Y9 l.length 0 l);rw[m]at h;replace h:=hid h;have C:IntKind.i64.wrap ((l.length:Int)-1)=(l.length:Int)-1:=ae aso aso;refine aoW WI ?_;refine ak (λn T' L'=>∃(i:Nat) (X:List Blk),n=l.length-i/\i<=l.length/\Hid (Y9 l.length i (l.drop i)=R)/\T'=[(7,.int .i64 (i:Int)),(6,.int .i64 l.length),(5,.sl (rI l) l.length cap),(0,.sl (rI l) l.length cap)]/\L'=L++X) ass ⟨0,[],rfl,ao2 _,hid (by simpa using m),rfl,asp⟩ ?_;rintro _ _ _ ⟨i,X,rfl,A,u,rfl,rfl⟩;by_cases f:i<l.length
 .have g1:(i:Int)<(l.length:Int):=aso;have B:=aoV i aso;have s:=Ys f;have y:i*2+2<=(rI l).length:=(by rw[Y8];omega);obtain⟨⟨x,t⟩,p⟩:∃a,l.getD i (0,[])=a:=⟨_,rfl⟩;have k:l.drop i=(x,t)::l.drop (i+1):=(by rw[apw f,<- p];simp[f]);rw[p]at s;simp only[pcA]at s;have c:=u.o;rw[k,Y9]at c;have b:af5 l.length i (x,t)=true->K (.bool false) L:=λe=>by have g:=h.o;rw[e]at c;simp only[aqO,apO]at c;rw[<- c]at g;simpa using g
  have d:af5 l.length i (x,t)=false->Y9 l.length (i+1) (l.drop (i+1))=R:=λe=>by rw[e]at c;simpa using c
  simp only[af5,decide_eq_true_eq,decide_eq_false_iff_not]at b d;replace b:=hid b;replace d:=hid d;clear k p c m
  repeat' first
   |refine bH ?_
   | (first|refine bv asq ?_|refine aP asq ?_|refine aS ?_|refine cT ?_|refine bJ (fun _=>?_)|refine aH ?_|refine bz ?_)
     refine sm ?_
   | (first|refine bp asq ?_|refine bm ?_|refine aR ?_|refine bw ?_|refine bP (aG ?_))
     refine sl ?_
   |exact bL
   |first|apply bM|apply bq|apply bN|apply br|apply bO|apply bu
   |refine aV ?_
   |refine aQ ?_
   |first|refine aT rfl ?_|refine aU rfl ?_|refine aB rfl ?_ ?_|refine aX rfl (λ_=>?_) (λ_=>?_)|refine aW rfl (λ_=>?_) (λ_=>?_)
   |((first|refine aA (λ_=>?_) (λ_=>?_)|refine aE (λ_=>?_) (λ_=>?_))<;>try refine sm ?_)
   |refine And.intro trivial ?_
   |refine And.intro aso ?_
   |refine be rfl (λ_=>?_) (λ_=>?_)
   |refine And.intro ?_ ?_
  rename_i j;refine ac rfl (b.o ?_);rcases j with(e|e)|e;exact .inl e;exact .inr (.inl e);exact .inr (.inr (.inl e));rename_i j v;exact ac rfl (b.o (.inr (.inr (.inr aso))));rename_i j v;refine ast aso asr ⟨i+1,_,rfl,f,hid (d.o λw=>?_),rfl,rfl⟩;rcases w with e|e|e|e;exact j (.inl (.inl e));exact j (.inl (.inr e));exact j (.inr e);exact v aso
 have r:i=l.length:=aso;subst r;have g1:¬(l.length:Int)<(l.length:Int):=aso;have q:=u.o;rw[apM,Y9]at q;have g:=h.o;rw[<- q,apy,show decide (0<l.length)=decide ((0:Int)<(l.length:Int))by simp]at g;replace g:=hid g;clear q m;refine wk ?_;exact ac rfl g.o
abbrev an0(l:List Pc)(cap:Option Nat):AV:=.agg [.int .i64 4,.str [97],.str [],.sl (rI l) l.length cap,.sl [] 0 (some 0)]
theorem aj5{l:List Pc}{cap:Option Nat}{p:Nat}(g:l.length<=1100000){L:List Blk}(i:L[p]?=some (.cells [.int .i64 0])){K:aoY}(h:K (.int .i64 (if Np l=true then 0 else 4)) (L.set p (.cells [.int .i64 1]))):
  aoX 112 [.ptr p 0,an0 l cap,.int .i64 1] L K:=by
 have c:p<L.length:=(aoZ.1 i).1;have n:∀X:List Blk,(L++X)[p]?=some (.cells [.int .i64 0]):=λX=>by rw[ao4 c];exact i
 have t:∀(X:List Blk) A,(L++X).set p A=L.set p A++X:=λX A=>ap3 _ _ c
 have s:∀(X:List Blk) A,(L.set p A++X)[p]?=some A:=λX A=>by rw[ao4 (by simpa using c),apB,if_pos rfl,if_pos c]
 have f4:∀A:Blk,(L.set p A).length=L.length:=λA=>asp
 have q:∀(X:List Blk) A,(L.set p A++X)[L.length]?=X[0]?:=λX A=>by rw[ape asp];simp
 have f:jE [97]=true:=by decide
 have b:∀(X:List Blk) (r:Int),K (.int .i64 r) (L.set p (.cells [.int .i64 1]))->Fin L (.int .i64 r) (L.set p (.cells [.int .i64 1])++X) K:=λX r j =>
  aap (f4 _) (λm k d=>by rcases asd d with e|e;exact m k e;subst e;rfl) rfl j
 replace b:=hid b;replace h:=hid h;refine aoW Eu ?_;refine abJ ?_;rw[f];refine sk ?_;cases hok:Np l with
 | true =>
   have a:=h.o;rw[hok,if_pos rfl]at a;replace a:=hid a;have kk1:=@asv _ _ _ _ (adc (cap:=cap) g);refine wk ?_;exact b.o _ _ a.o
 | false =>
   have a:=h.o;rw[hok,if_neg asp]at a;replace a:=hid a;have kk1:=@asv _ _ _ _ (adc (cap:=cap) g);refine wk ?_;exact b.o _ _ a.o
theorem tT{l:List Pc}{cap:Option Nat}(b:l.length<=1100000)(h:K (.int .i64 (if Np l=true then 0 else 4)) L):
  aoX 71 [an0 l cap] L K:=by
 obtain⟨r,a⟩:∃r:Int,(if Np l=true then 0 else 4)=r:=⟨_,rfl⟩;rw[a]at h;replace h:=hid h;refine aoW Yi ?_;refine aj5 b (by rw[nu];rfl) ?_;rw[a];refine asw ?_;exact ac rfl h.o
def pcT(ex:Bool)(p:Pc):List UInt8:=if ex=true then p.2 else aj p.2
def aeX(ex:Bool):List UInt8->List Pc->Bool
 |_,[]=>true
 | s,p::t=>if (p.1=0/\Lib.hasPrefix s (pcT ex p)=false)\/(p.1=2/\Lib.hasSuffix s (pcT ex p)=false)\/Lib.index s (pcT ex p)<0 then false
   else aeX ex (s.drop ((Lib.index s (pcT ex p)).toNat+(pcT ex p).length)) t
def Nz(syn:Int)(v:List UInt8)(l:List Pc):Option Bool:=match dl syn v with
 |none=>none
 |some s=>if(syn=1\/syn=2\/syn=3)/\Np l=true then some (aeX (decide (syn=2)) s l)else none
def ady:Option Bool->AV
 |none=>.tup [.bool false,.bool false]
 |some b=>.tup [.bool b,.bool true]
theorem adn{syn:Int}{v s:List UInt8}(h:dl syn v=some s)(a:syn=1\/syn=2\/syn=3):s.length<=4096:=by have c:=Wb h;have b:=Eb v;unfold dl at h;split at h;cases h;unfold ado at h;rcases a with rfl|rfl|rfl;rw[if_pos rfl]at h;split at h;cases h;split at h;cases h;omega;cases h;rw[if_neg (by decide),if_pos rfl]at h;split at h;cases h;split at h;cases h;omega;cases h;rw[if_neg (by decide),if_neg (by decide),if_pos rfl]at h;split at h;cases h;omega;cases h
theorem aeW{syn:Int}{v:List UInt8}{l:List Pc}{cap:Option Nat}(A:l.length<=1100000)(Q:∀p∈l,(p.2.length:Int)<=140737488351232)(h:K (ady (Nz syn v l)) L):
  aoX 74 [.int .i64 syn,.str v,.sl (rI l) l.length cap] L K:=by
 unfold Nz at h;refine aoW Wq ?_;refine iS ?_;rcases hs:dl syn v with _|s;rw[hs]at h;simp only[ady]at h;replace h:=hid h;simp only[kg];refine asw ?_;exact aa h.o;rw[hs]at h;simp only at h;simp only[kg];by_cases k:syn=1\/syn=2\/syn=3;rotate_left;rw[if_neg (λe=>k e.1)]at h;simp only[ady]at h;replace h:=hid h;have k1:¬syn=1:=λe=>k (.inl e)
 have J:¬syn=2:=λe=>k (.inr (.inl e))
 have k3:¬syn=3:=λe=>k (.inr (.inr e))
 clear hs k;refine asw ?_;exact aa h.o;have F:=adn hs k;clear hs;have P:(!decide (syn=1) && !decide (syn=2) && !decide (syn=3))=false:=by rcases k with rfl|rfl|rfl<;>rfl
 cases hok:Np l with
 | false =>
   rw[hok,if_neg asp]at h;simp only[ady]at h;replace h:=hid h;have e4:(if false=true then(0:Int)else 4)=4:=rfl;rcases k with rfl|rfl|rfl
   .refine sk ?_;have kk1:=@asv _ _ _ _ (tT (cap:=cap) A);refine wk ?_;exact aa h.o
   .refine sk ?_;have kk1:=@asv _ _ _ _ (tT (cap:=cap) A);refine wk ?_;exact aa h.o
   .refine sk ?_;have kk1:=@asv _ _ _ _ (tT (cap:=cap) A);refine wk ?_;exact aa h.o
 |true =>
 rw[if_pos ⟨k,hok⟩]at h;obtain⟨R,B⟩:=aoT (aeX (decide (syn=2)) s l);rw[B]at h;simp only[ady]at h;replace h:=hid h;obtain⟨H,j⟩:=aoT (decide (syn=2));rw[j]at B;replace B:=hid B;replace Q:=hid Q;refine sk ?_
 iterate 1 first
  |refine bH ?_
  | (first|refine bv asq ?_|refine aP asq ?_|refine aS ?_|refine cT ?_|refine bJ (fun _=>?_)|refine aH ?_|refine bz ?_)
    simp(config:={maxSteps:=2000000}) only[Kon,push_cast,reduceIte,Nat.reduceEqDiff,Nat.reduceAdd,Nat.reduceMul,Nat.reduceSub,Nat.reduceLT,Nat.reduceLeDiff,Int.reduceLT,Int.reduceLE,Int.reduceAdd,Int.reduceSub,Int.reduceNeg,Int.reduceToNat,Int.reduceEq,reduceCtorEq, *]
  | (first|refine bp asq ?_|refine bm ?_|refine aR ?_|refine bw ?_|refine bP (aG ?_))
    simp only[push_cast,reduceIte,Nat.reduceEqDiff,Nat.reduceAdd,Nat.reduceMul,Nat.reduceSub,Nat.reduceLT,Nat.reduceLeDiff,Int.reduceLT,Int.reduceLE,Int.reduceAdd,Int.reduceSub,Int.reduceNeg,Int.reduceToNat,Int.reduceEq,reduceCtorEq, *]
  |exact bL
  |first|apply bM|apply bq|apply bN|apply br|apply bO|apply bu
  |refine aV ?_
  |refine aQ ?_
  |first|refine aT rfl ?_|refine aU rfl ?_|refine aB rfl ?_ ?_|refine aX rfl (λ_=>?_) (λ_=>?_)|refine aW rfl (λ_=>?_) (λ_=>?_)
  |((first|refine aA (λ_=>?_) (λ_=>?_)|refine aE (λ_=>?_) (λ_=>?_))<;>try simp(config:={maxSteps:=2000000}) only[Kon,push_cast,reduceIte,Nat.reduceEqDiff,Nat.reduceAdd,Nat.reduceMul,Nat.reduceSub,Nat.reduceLT,Nat.reduceLeDiff,Int.reduceLT,Int.reduceLE,Int.reduceAdd,Int.reduceSub,Int.reduceNeg,Int.reduceToNat,Int.reduceEq,reduceCtorEq, *])
  |refine And.intro trivial ?_
  |refine And.intro aso ?_
  |refine be rfl (λ_=>?_) (λ_=>?_)
  |refine And.intro ?_ ?_
 refine Oo (λS L2=>S=[(8,.str s),(0,.int .i64 syn),(2,.sl (rI l) l.length cap)]/\L=L2) ?_ ?_;rcases k with rfl|rfl|rfl;have kk1:=@asv _ _ _ _ (tT (cap:=cap) A);refine wk ?_;exact jO _ _ asr ⟨rfl,rfl⟩;have kk1:=@asv _ _ _ _ (tT (cap:=cap) A);refine wk ?_;exact jO _ _ asr ⟨rfl,rfl⟩;have kk1:=@asv _ _ _ _ (tT (cap:=cap) A);refine wk ?_;exact jO _ _ asr ⟨rfl,rfl⟩;rintro _ _ ⟨rfl,rfl⟩ -;clear P hok;refine wk ?_;refine ak (λn T' L'=>∃(i:Nat) (u:List UInt8) (Z:List Blk),n=l.length-i/\i<=l.length/\u.length<=4096/\Hid (aeX H u (l.drop i)=R)/\T'=[(42,.int .i64 (i:Int)),(41,.int .i64 l.length),(40,.sl (rI l) l.length cap),(8,.str u),(0,.int .i64 syn)]/\L'=L++Z) ass ⟨0,s,[],rfl,ao2 _,F,hid (by simpa using B.o),rfl,asp⟩ ?_;clear F B;rintro _ _ _ ⟨i,u,X,rfl,hi,ad,T,rfl,rfl⟩;by_cases g:i<l.length;rotate_left;have M:i=l.length:=aso;subst M;have g1:¬(l.length:Int)<(l.length:Int):=aso;have y:=h.o;rw[<- T.o,apM,aeX]at y;replace y:=hid y;refine wk ?_;exact ac rfl y.o;have g1:(i:Int)<(l.length:Int):=aso;have g2:=aoV i aso;have V:=Ys g;have e4:i*2+2<=(rI l).length:=by rw[Y8];omega
 obtain⟨⟨x,t⟩,I⟩:∃a,l.getD i (0,[])=a:=⟨_,rfl⟩;have E:l.drop i=(x,t)::l.drop (i+1):=by rw[apw g,<- I];simp[g]
 have G:=Q.o (x,t) (by rw[<- I];simp[g]);simp only at G;rw[I]at V;simp only[pcA]at V;have d:=T.o;rw[E,aeX]at d;simp only at d;obtain⟨w,m⟩:=aoT (pcT H (x,t));rw[m]at d;clear E I T;replace d:=hid d
 iterate 15 first
  |refine bH ?_
  | (first|refine bv asq ?_|refine aP asq ?_|refine aS ?_|refine cT ?_|refine bJ (fun _=>?_)|refine aH ?_|refine bz ?_)
    simp(config:={maxSteps:=2000000}) only[Kon,push_cast,reduceIte,Nat.reduceEqDiff,Nat.reduceAdd,Nat.reduceMul,Nat.reduceSub,Nat.reduceLT,Nat.reduceLeDiff,Int.reduceLT,Int.reduceLE,Int.reduceAdd,Int.reduceSub,Int.reduceNeg,Int.reduceToNat,Int.reduceEq,reduceCtorEq, *]
  | (first|refine bp asq ?_|refine bm ?_|refine aR ?_|refine bw ?_|refine bP (aG ?_))
    simp only[push_cast,reduceIte,Nat.reduceEqDiff,Nat.reduceAdd,Nat.reduceMul,Nat.reduceSub,Nat.reduceLT,Nat.reduceLeDiff,Int.reduceLT,Int.reduceLE,Int.reduceAdd,Int.reduceSub,Int.reduceNeg,Int.reduceToNat,Int.reduceEq,reduceCtorEq, *]
  |exact bL
  |first|apply bM|apply bq|apply bN|apply br|apply bO|apply bu
  |refine aV ?_
  |refine aQ ?_
  |first|refine aT rfl ?_|refine aU rfl ?_|refine aB rfl ?_ ?_|refine aX rfl (λ_=>?_) (λ_=>?_)|refine aW rfl (λ_=>?_) (λ_=>?_)
  |((first|refine aA (λ_=>?_) (λ_=>?_)|refine aE (λ_=>?_) (λ_=>?_))<;>try simp(config:={maxSteps:=2000000}) only[Kon,push_cast,reduceIte,Nat.reduceEqDiff,Nat.reduceAdd,Nat.reduceMul,Nat.reduceSub,Nat.reduceLT,Nat.reduceLeDiff,Int.reduceLT,Int.reduceLE,Int.reduceAdd,Int.reduceSub,Int.reduceNeg,Int.reduceToNat,Int.reduceEq,reduceCtorEq, *])
  |refine And.intro trivial ?_
  |refine And.intro aso ?_
  |refine be rfl (λ_=>?_) (λ_=>?_)
  |refine And.intro ?_ ?_
 refine Oo (λS L2=>S=[(12,.str w),(11,.ptr (L.length+X.length) 0),(42,.int .i64 (i:Int)),(41,.int .i64 l.length),(40,.sl (rI l) l.length cap),(8,.str u),(0,.int .i64 syn)]/\L2=L++(X++[.cells [.int .i64 x,.str t]])) ?_ ?_;unfold pcT at m;cases H with
 | true =>
   rw[if_pos rfl]at m;have J:syn=2:=(by simpa using j);simp only at m;subst m;subst J;refine wk ?_;exact jO _ _ asr ⟨rfl,rfl⟩
 | false =>
   rw[if_neg asp]at m;have J:¬syn=2:=(by simpa using j);simp only at m;clear j;have kk1:=@asv _ _ _ _ (jB G);refine wk ?_;exact jO _ _ asr ⟨rfl,rfl⟩
 rintro _ _ ⟨rfl,rfl⟩ -;clear j m;obtain⟨Y,N⟩:=aoT (Lib.hasPrefix u w);obtain⟨W,U⟩:=aoT (Lib.hasSuffix u w);obtain⟨z,O⟩:=aoT (Lib.index u w);have f:=d.o;rw[N,U,O]at f;have c:((x=0/\Y=false)\/(x=2/\W=false)\/z<0)->K (.tup [.bool false,.bool true]) L:=λe=>by rw[if_pos e]at f;have y:=h.o;rwa[<- f]at y
 have r:¬((x=0/\Y=false)\/(x=2/\W=false)\/z<0)->aeX H (u.drop (z.toNat+w.length)) (l.drop (i+1))=R:=λe=>by rw[if_neg e]at f;exact f
 replace c:=hid c;replace r:=hid r;clear d f;have b:u.length<=1100000:=aso;by_cases D:z<0
 .repeat' first
   |refine bH ?_
   | (first|refine bv asq ?_|refine aP asq ?_|refine aS ?_|refine cT ?_|refine bJ (fun _=>?_)|refine aH ?_|refine bz ?_|refine jS ?_|refine jR b ?_|refine nF b ?_|refine bg (jS ⟨rfl,rfl⟩) (jS ⟨rfl,rfl⟩) ?_|refine bg (jR b ⟨rfl,rfl⟩) (jR b ⟨rfl,rfl⟩) ?_|refine bg (nF b ⟨rfl,rfl⟩) (nF b ⟨rfl,rfl⟩) ?_|refine aM (jS ⟨rfl,rfl⟩) ?_|refine aM (jR b ⟨rfl,rfl⟩) ?_|refine aM (nF b ⟨rfl,rfl⟩) ?_)
     simp(config:={maxSteps:=2000000}) only[Kon,push_cast,reduceIte,Nat.reduceEqDiff,Nat.reduceAdd,Nat.reduceMul,Nat.reduceSub,Nat.reduceLT,Nat.reduceLeDiff,Int.reduceLT,Int.reduceLE,Int.reduceAdd,Int.reduceSub,Int.reduceNeg,Int.reduceToNat,Int.reduceEq,reduceCtorEq, *]
   | (first|refine bp asq ?_|refine bm ?_|refine aR ?_|refine bw ?_|refine bP (aG ?_))
     simp only[push_cast,reduceIte,Nat.reduceEqDiff,Nat.reduceAdd,Nat.reduceMul,Nat.reduceSub,Nat.reduceLT,Nat.reduceLeDiff,Int.reduceLT,Int.reduceLE,Int.reduceAdd,Int.reduceSub,Int.reduceNeg,Int.reduceToNat,Int.reduceEq,reduceCtorEq, *]
   |exact bL
   |first|apply bM|apply bq|apply bN|apply br|apply bO|apply bu
   |refine aV ?_
   |refine aQ ?_
   |first|refine aT rfl ?_|refine aU rfl ?_|refine aB rfl ?_ ?_|refine aX rfl (λ_=>?_) (λ_=>?_)|refine aW rfl (λ_=>?_) (λ_=>?_)
   |((first|refine aA (λ_=>?_) (λ_=>?_)|refine aE (λ_=>?_) (λ_=>?_))<;>try simp(config:={maxSteps:=2000000}) only[Kon,push_cast,reduceIte,Nat.reduceEqDiff,Nat.reduceAdd,Nat.reduceMul,Nat.reduceSub,Nat.reduceLT,Nat.reduceLeDiff,Int.reduceLT,Int.reduceLE,Int.reduceAdd,Int.reduceSub,Int.reduceNeg,Int.reduceToNat,Int.reduceEq,reduceCtorEq, *])
   |refine And.intro trivial ?_
   |refine And.intro aso ?_
   |refine be rfl (λ_=>?_) (λ_=>?_)
   |refine And.intro ?_ ?_
  rename_i q;exact ac rfl (c.o (.inl (by simpa using q)));rename_i q C;exact ac rfl (c.o (.inr (.inl (by simpa using C))));exact ac rfl (c.o (.inr (.inr D)))
 .have hroom:=Lib.index_room u w (by rw[O];omega);rw[O]at hroom;obtain⟨a,rfl⟩:∃a:Nat,z=(a:Int):=⟨z.toNat,aso⟩;have m1:IntKind.i64.wrap ((a:Int)+(w.length:Int))=(a:Int)+(w.length:Int):=ae aso aso;have m2:((a:Int)+(w.length:Int)).toNat=a+w.length:=aso;have m3:(u.drop (a+w.length)).take (u.length-(a+w.length))=u.drop (a+w.length):=apA asp;have m4:(0:Int)<=(a:Int)+(w.length:Int):=aso
  repeat' first
   |refine bH ?_
   | (first|refine bv asq ?_|refine aP asq ?_|refine aS ?_|refine cT ?_|refine bJ (fun _=>?_)|refine aH ?_|refine bz ?_|refine jS ?_|refine jR b ?_|refine nF b ?_|refine bg (jS ⟨rfl,rfl⟩) (jS ⟨rfl,rfl⟩) ?_|refine bg (jR b ⟨rfl,rfl⟩) (jR b ⟨rfl,rfl⟩) ?_|refine bg (nF b ⟨rfl,rfl⟩) (nF b ⟨rfl,rfl⟩) ?_|refine aM (jS ⟨rfl,rfl⟩) ?_|refine aM (jR b ⟨rfl,rfl⟩) ?_|refine aM (nF b ⟨rfl,rfl⟩) ?_)
     simp(config:={maxSteps:=2000000}) only[Kon,push_cast,reduceIte,Nat.reduceEqDiff,Nat.reduceAdd,Nat.reduceMul,Nat.reduceSub,Nat.reduceLT,Nat.reduceLeDiff,Int.reduceLT,Int.reduceLE,Int.reduceAdd,Int.reduceSub,Int.reduceNeg,Int.reduceToNat,Int.reduceEq,reduceCtorEq, *]
   | (first|refine bp asq ?_|refine bm ?_|refine aR ?_|refine bw ?_|refine bP (aG ?_))
     simp only[push_cast,reduceIte,Nat.reduceEqDiff,Nat.reduceAdd,Nat.reduceMul,Nat.reduceSub,Nat.reduceLT,Nat.reduceLeDiff,Int.reduceLT,Int.reduceLE,Int.reduceAdd,Int.reduceSub,Int.reduceNeg,Int.reduceToNat,Int.reduceEq,reduceCtorEq, *]
   |exact bL
   |first|apply bM|apply bq|apply bN|apply br|apply bO|apply bu
   |refine aV ?_
   |refine aQ ?_
   |first|refine aT rfl ?_|refine aU rfl ?_|refine aB rfl ?_ ?_|refine aX rfl (λ_=>?_) (λ_=>?_)|refine aW rfl (λ_=>?_) (λ_=>?_)
   |((first|refine aA (λ_=>?_) (λ_=>?_)|refine aE (λ_=>?_) (λ_=>?_))<;>try simp(config:={maxSteps:=2000000}) only[Kon,push_cast,reduceIte,Nat.reduceEqDiff,Nat.reduceAdd,Nat.reduceMul,Nat.reduceSub,Nat.reduceLT,Nat.reduceLeDiff,Int.reduceLT,Int.reduceLE,Int.reduceAdd,Int.reduceSub,Int.reduceNeg,Int.reduceToNat,Int.reduceEq,reduceCtorEq, *])
   |refine And.intro trivial ?_
   |refine And.intro aso ?_
   |refine be rfl (λ_=>?_) (λ_=>?_)
   |refine And.intro ?_ ?_
  rename_i q;exact ac rfl (c.o (.inl (by simpa using q)));rename_i q C;exact ac rfl (c.o (.inr (.inl (by simpa using C))));rename_i q C;refine ast aso asr ⟨i+1,u.drop (a+w.length),_,rfl,g,?_,hid ?_,rfl,rfl⟩;simp;omega;have:=r.o (λe=>by rcases e with e|e|e;rw[decide_eq_true e.1,e.2]at q;simp at q;rw[decide_eq_true e.1,e.2]at C;simp at C;omega)
  simpa using this
inductive Flt where
 |mk (kind:Int) (attr val:List UInt8) (ps:List Pc) (kids:List Flt)
def Flt.kind:Flt->Int
 |.mk k _ _ _ _=>k
def Flt.attr:Flt->List UInt8
 |.mk _ a _ _ _=>a
def Flt.val:Flt->List UInt8
 |.mk _ _ v _ _=>v
def Flt.ps:Flt->List Pc
 |.mk _ _ _ p _=>p
def Flt.kids:Flt->List Flt
 |.mk _ _ _ _ l=>l
abbrev af8:Flt:=.mk 0 [] [] [] []
instance:Inhabited Flt:=⟨af8⟩
def tf1(b:Bool):Int:=if b=true then 1 else 0
def amo(ts:List Typ)(l:List Atr)(ty:Typ)(k:Int)(a v:List UInt8)(ps:List Pc):Int :=
 if k=7 then tf1 (!(gp l a).isEmpty)else
 if k=3\/k=8 then(if(dl ty.2.1 v).isNone=true then 2 else tf1 (ajx ts l a v))else
 if k=4 then(if 3<ty.2.1\/Np ps=false then 2 else tf1 ((gp l a).any λx=>(Nz ty.2.1 x ps).getD false))else
 if(tx ty.2.1 v v).isNone=true then 2 else tf1 ((gp l a).any λx=>let o:=(tx ty.2.1 x v).getD 0;decide (o=0) ||(decide (0<o) == decide (k=5)))
def amm(ts:List Typ)(l:List Atr)(k:Int)(a v:List UInt8)(ps:List Pc):Int:=match gX ts a with
 |none=>2
 |some ty=>if k<0\/8<k then 2 else amo ts l ty k a v ps
def adB(k:Int)(l:List Int):Int:=if k=0 then acz l else if k=1 then orV l else if l.length≠1 then 2 else Nr (l.getD 0 0)
mutual
def ofM(ts:List Typ)(l:List Atr):Flt->Int
 |.mk k a v ps ks=>if k=0\/k=1\/k=2 then adB k (aln ts l ks)else amm ts l k a v ps
def aln(ts:List Typ)(l:List Atr):List Flt->List Int
 |[]=>[]
 |f::r=>ofM ts l f::aln ts l r
end
theorem adj(ts:List Typ)(l:List Atr):∀ks:List Flt,aln ts l ks=ks.map (ofM ts l)
 |[]=>rfl
 |f::r=>by rw[aln,adj ts l r];rfl
mutual
def fA:Flt->List AV
 |.mk k a v ps ks=>[.int .i64 k,.str a,.str v,.sl (rI ps) ps.length none,.sl (fsA ks) (fsN ks) none]
def fsA:List Flt->List AV
 |[]=>[]
 |f::l=>fA f++fsA l
def fsN:List Flt->Nat
 |[]=>0
 |_::l=>fsN l+1
end
theorem ajQ:∀l:List Flt,fsN l=l.length
 |[]=>rfl
 |_::l=>by simp only[fsN,apb,ajQ l]
theorem VJ(k:Int)(a v:List UInt8)(ps:List Pc)(ks:List Flt):fA (.mk k a v ps ks)=[.int .i64 k,.str a,.str v,.sl (rI ps) ps.length none,.sl (fsA ks) ks.length none]:=by rw[fA,ajQ]
theorem abo(f:Flt):fA f=[.int .i64 f.kind,.str f.attr,.str f.val,.sl (rI f.ps) f.ps.length none,.sl (fsA f.kids) f.kids.length none]:=by obtain⟨k,a,v,ps,ks⟩:=f;exact VJ k a v ps ks
theorem aci:∀l:List Flt,(fsA l).length=l.length*5
 |[]=>rfl
 |n::l=>by simp only[fsA,apd,aci l,abo,apb,apJ];omega
theorem afk:∀{l:List Flt}{k:Nat},k<l.length->((fsA l).drop (k*5)).take 5=fA (l.getD k af8)
 |n::l,0,_=>by simp[fsA,abo]
 | n::l,k+1,h=>by
   have a:=@afk l k (by simpa using h);have e:(fsA (n::l)).drop ((k+1)*5)=(fsA l).drop (k*5):=by
    rw[fsA,List.drop_append,abo]
    grind
   simp[*]
def Tr(v:Int):Prop:=v=0\/v=1\/v=2
theorem aoF{v:Int}(h:Tr v):Nr (Nr v)=v:=by rcases h with rfl|rfl|rfl<;>decide
mutual
theorem ack{P:Flt->Prop}(h:∀k a v ps ks,(∀x∈ks,P x)->P (.mk k a v ps ks)):∀f,P f
 |.mk k a v ps ks=>h k a v ps ks (adV h ks)
theorem adV{P:Flt->Prop}(h:∀k a v ps ks,(∀x∈ks,P x)->P (.mk k a v ps ks)):∀(l:List Flt),∀x∈l,P x
 |[],x,hx=>by cases hx
 | f::r,x,hx=>by
   rcases apn.1 hx with e|e
   .rw[e];exact ack h f
   .exact adV h r x e
end
mutual
def FlB(A V N T M:Nat):Flt->Prop
 |.mk _ a v ps ks=>a.length<=A/\v.length<=V/\ps.length<=N/\(∀p∈ps,p.2.length<=T)/\ks.length<=M/\afC A V N T M ks
def afC(A V N T M:Nat):List Flt->Prop
 |[]=>True
 |f::r=>FlB A V N T M f/\afC A V N T M r
end
theorem aao{A V N T M:Nat}:∀{l:List Flt},afC A V N T M l->∀x∈l,FlB A V N T M x
 |[],_,x,hx=>by cases hx
 | f::r,h,x,hx=>by
   rw[afC]at h;rcases apn.1 hx with rfl|e
   .simp[*]
   .exact aao h.2 x e
theorem acF{A V N T M:Nat}:∀{l:List Flt},(∀x∈l,FlB A V N T M x)->afC A V N T M l
 |[],_=>by rw[afC];trivial
 |f::r,h=>by rw[afC];exact⟨h f asp,acF λx a=>h x (by simp[a])⟩
abbrev ahY:Flt->Prop:=FlB 140737488351232 140737488351232 9223372036854775807 140737488351232 9223372036854775807
abbrev aaN:Flt->Prop:=FlB 140737488351232 3000 20 100 60
end Go.Proofs.YtdnfjhflkkpokaaGreatDoor.Av
set_option maxRecDepth 100000
namespace Go.Proofs.YtdnfjhflkkpokaaGreatDoor.Av
open Go
def Tz:LSO:=[Ay 3 0,Ay 4 1,Ac 6 0]
def Ty:LSO:=[Ad 17 0 4,Ab 18 1 17]
def Tx:LSO:=[An 20 18 0,Aa 19 20]
def Tw:LSO:=[An 21 18 1,Aa 19 21]
def Tv:LSO:=[An 22 18 2,Aa 19 22]
def Tu:LSO:=[Ak 7]
def Tt:LSO:=[Ad 23 4 4,Ab 24 1 23,Ah 25 24,Ac 26 0]
def Ts:LSO:=[Al 27 26 25]
def Tq:LSO:=[Am 28 5 24 26,As 29 5 28,BU 9,Ap 5 9 29]
def Tp:LSO:=[Aa 30 7,As 31 2 3,As 32 5 9,Aa 33 2,AF 34 27 31 32 33,Cu 35 34,o1 36 (.app 1 1 8 [(.int .i64 0)] (tm 30) (tm 35)),Aa 7 36]
def O7:LSO:=[Ai 37 26 1,Aa 26 37]
def O6:LSO:=[Ad 39 0 4,Ab 40 1 39,An 41 40 0,Aa 38 41]
def O5:LSO:=[Aa 42 7,Aj 43 64 42,Aa 6 43]
def O4:LSO:=[Ad 45 0 4,Ab 46 1 45,An 47 46 1,Aa 44 47]
def O3:LSO:=[Aa 48 7,Aj 49 65 48,Aa 6 49]
def O2:LSO:=[Aa 51 7,Ah 52 51,AB 53 52 1,Aa 50 53]
def O1:LSO:=[Ac 6 2]
def O0:LSO:=[Aa 54 7,o1 55 (.iaddr 1 (tm 54) (iv 0)),Ab 56 1 55,Aj 57 66 56,Aa 6 57]
def OZ:LSO:=[As 59 2 3,Ad 60 1 4,Ab 61 1 60,Ar 62 45 59 61,Aa 58 62,Ao 63 58,Aq 64 58,Bx 10,Ap 4 10 63,Aa 11 64]
def OY:LSO:=[Aa 65 11,A3 66 65,Aa 67 66,.grp none 67 false
 [A8 68 67 0 4,A6 69 67 1 68,Bp 70 67 69 0]
 71 (tm 70),Aa 72 71,.grp none 72 false
 [A8 73 72 0 4,A6 74 72 1 73,AC 75 72 74 8]
 76 (tm 75)]
def OX:LSO:=[Ac 6 2]
def OW:LSO:=[Aa 77 2,Ad 78 1 4,Ab 79 1 78,Ar 80 67 77 79,Aa 12 80]
def OV:LSO:=[Ad 82 1 10,Ab 83 1 82,Ad 84 2 4,Ab 85 1 84,Ar 86 68 83 85,Aa 81 86,Ao 87 81,Aq 88 81,Aa 13 87,Aa 14 88]
def OU:LSO:=[Ad 89 0 4,Ab 90 1 89]
def OT:LSO:=[An 92 90 7,Aa 91 92]
def OS:LSO:=[Aa 93 12,Ah 94 93,A7 95 94 0,Aj 96 69 95,Aa 6 96]
def OR:LSO:=[An 98 90 3,Aa 97 98]
def OQ:LSO:=[An 99 90 8,Aa 97 99]
def OP:LSO:=[Aa 100 14,A3 101 100]
def OO:LSO:=[Ac 6 2]
def ON:LSO:=[As 102 2 3,Aa 103 2,Ad 104 1 4,Ab 105 1 104,Ad 106 2 4,Ab 107 1 106,o1 108 (.call 70 [(tm 102),(tm 103),(tm 105),(tm 107)]),Aj 109 69 108,Aa 6 109]
def OM:LSO:=[An 111 90 4,Aa 110 111]
def OL:LSO:=[Ad 112 1 10,Ab 113 1 112,A7 114 113 3,Aa 115 114,.grp none 115 false
 [A8 116 115 3 4,A6 117 115 1 116,
 og 118 115 false (.build [(.int .i64 0),(.str []),(.str []),(.sl [] 0 (some 0)),(.sl [] 0 (some 0))] [(0,(1,(iv 4))),(1,(1,(.av (.str [97])))),(3,(1,(tm 117)))]),
 AM 119 115 71 118,Bi 120 115 119 0]
 121 (tm 120)]
def OK:LSO:=[Ac 6 2]
def OJ:LSO:=[Aa 122 12,o1 123 (.mkfn 73 [(tm 10),(tm 4)]),Ar 124 72 122 123,Aj 125 69 124,Aa 6 125]
def OI:LSO:=[Ad 127 1 10,Ab 128 1 127,Ad 129 2 4,Ab 130 1 129,Ad 131 2 4,Ab 132 1 131,AF 133 75 128 130 132,Aa 126 133,Ao 134 126,Aq 135 126,Aa 15 134,Aa 16 135]
def OH:LSO:=[Aa 136 16,A3 137 136]
def OG:LSO:=[Ac 6 2]
def OF:LSO:=[Aa 138 12,o1 139 (.mkfn 76 [(tm 10),(tm 4)]),Ar 140 72 138 139,Aj 141 69 140,Aa 6 141]
def jK:aK:=⟨142,(ash Tz [] (.seq (ash Ty C4 (.block 0 (.seq (ash Tx C4 (asi 19 .skip (ash Tw C4 (asi 19 .skip (.sreg Tv C4))))) (asi 19 (ash Tu [] (.seq (ash Tt CJ (ask 1 (ash Ts [] (.seq (asl 27 1) (.seq (.block 2 (ash Tq C6 (.sreg Tp CE))) (.sreg O7 C4)))))) (.seq (.block 3 (ash O6 C7 (asi 38 (ash O5 C6 .ret) (ash O4 C7 (asi 44 (ash O3 C6 .ret) (ash O2 C7 (asj 50 (.sreg O1 [])))))))) (ash O0 CA .ret)))) .skip)))) (ash OZ CR (.seq (ash OY CB (asj 76 (.sreg OX []))) (ash OW CA (ash OV CG (.seq (ash OU C4 (.block 4 (ash OT C4 (asi 91 (ash OS CA .ret) (.seq (ash OR C4 (asi 97 .skip (.sreg OQ C4))) (asi 97 (.seq (ash OP C4 (asj 101 (.sreg OO []))) (ash ON CL .ret)) (ash OM C4 (asi 110 (.seq (ash OL CA (asj 121 (.sreg OK []))) (ash OJ CA .ret)) .skip)))))))) (.seq (ash OI CK (ash OH C4 (asj 137 (.sreg OG [])))) (ash OF CA .ret))))))))),[(.tmp 6)]⟩
attribute [push_cast] Tz Ty Tx Tw Tv Tu Tt Ts Tq Tp O7 O6 O5 O4 O3 O2 O1 O0 OZ OY OX OW OV OU OT OS OR OQ OP OO ON OM OL OK OJ OI OH OG OF
theorem wp:asm 27=asn jK:=asq
def J1:LSO:=[Af 4]
def J0:LSO:=[Ad 8 1 1,Ab 9 1 8,Aa 10 0,Ad 11 3 2,Ab 12 1 11,AF 13 74 9 10 12,Aa 7 13,Ao 14 7,Aq 15 7,Aa 5 14,Aa 6 15]
def JZ:LSO:=[Aa 16 5,Aa 4 16]
def EW:aK:=⟨17,(ash J1 [] (ash J0 Dr (ash JZ C4 .ret))),[(.tmp 4)]⟩
attribute [push_cast] J1 J0 JZ
theorem X0:asm 73=asn EW:=asq
def JY:LSO:=[Af 4]
def JX:LSO:=[Ad 8 1 1,Ab 9 1 8,Aa 10 0,Ad 11 2 2,Ab 12 1 11,AF 13 75 9 10 12,Aa 7 13,Ao 14 7,Aq 15 7,Aa 5 14,Aa 6 15]
def JW:LSO:=[Aa 16 5,An 17 16 0,Aa 18 17,.grp none 18 false
 [Ag 19 18 5,AC 20 18 19 0,A8 21 18 0 2,A6 22 18 1 21,AI 23 18 22 5,og 24 18 false (.eqk false .bool (tm 20) (tm 23))]
 25 (tm 24),Aa 4 25]
def EV:aK:=⟨26,(ash JY [] (ash JX Dr (ash JW CA .ret))),[(.tmp 4)]⟩
attribute [push_cast] JY JX JW
theorem XZ:asm 76=asn EV:=asq
def OE:LSO:=[Ac 2 0]
def OD:LSO:=[Aa 3 0]
def OC:LSO:=[Ac 2 1]
def OB:LSO:=[Ac 2 0]
def o5:aK:=⟨4,(ash OE [] (.seq (ash OD [] (asj 3 (.sreg OC []))) (ash OB [] .ret))),[(.tmp 2)]⟩
attribute [push_cast] OE OD OC OB
theorem NG:asm 69=asn o5:=asq
def dZ:LSO:=[Af 4]
def dY:LSO:=[Aa 5 0,Aa 6 1,Ar 7 113 5 6,AL 8 7 0,Aa 4 8]
def dq:aK:=⟨9,(ash dZ [] (ash dY CA .ret)),[(.tmp 4)]⟩
attribute [push_cast] dZ dY
theorem iV:asm 72=asn dq:=asq
def eR:LSO:=[Ac 4 0]
def eQ:LSO:=[Aa 6 0,Ah 7 6,Ac 8 0]
def eP:LSO:=[Al 9 8 7]
def eO:LSO:=[Aa 10 8,Aa 5 10]
def eN:LSO:=[Aa 11 1,Aa 12 0,Aa 13 5,Am 14 1 12 13,Ab 15 1 14,B0 16 11 15]
def eM:LSO:=[Aa 17 5,Aa 4 17]
def eL:LSO:=[Ai 18 8 1,Aa 8 18]
def eK:LSO:=[Ac 4 (-1)]
def dA:aK:=⟨19,(ash eR [] (.seq (ash eQ CD (ask 0 (ash eP [] (.seq (asl 9 0) (.seq (.block 1 (ash eO C4 (ash eN CB (asj 16 (.sreg eM C4))))) (.sreg eL C4)))))) (ash eK [] .ret))),[(.tmp 4)]⟩
attribute [push_cast] eR eQ eP eO eN eM eL eK
theorem jw:asm 113=asn dA:=asq
def I4:LSO:=[Ay 3 0,Af 6]
def I3:LSO:=[Aa 11 1,Au 12 11,Ab 13 1 12,Ai 14 13 1,Au 15 11,Ap 1 15 14]
def I2:LSO:=[Aa 16 1,Au 17 16,Ab 18 1 17,A7 19 18 60,Aa 20 19,.grp none 20 false
 [Ag 21 20 2,AC 22 20 21 64]
 23 (tm 22),Aa 24 23,.grp none 24 false
 [A8 25 24 2 3,A6 26 24 1 25,Br 27 24 26,AC 28 24 27 3000]
 29 (tm 28),Aa 30 29,.grp none 30 false
 [A8 31 30 3 3,A6 32 30 1 31,AS 33 30 32,AC 34 30 33 20]
 35 (tm 34),Aa 36 35,.grp none 36 false
 [A8 37 36 4 3,A6 38 36 1 37,AS 39 36 38,AC 40 36 39 60]
 41 (tm 40)]
def I1:LSO:=[Af 6]
def I0:LSO:=[Ad 42 3 3,Ab 43 1 42,Ah 44 43,Ac 45 0]
def IZ:LSO:=[Al 46 45 44]
def IY:LSO:=[Am 47 2 43 45,As 48 2 47,Cq 8,Ap 2 8 48]
def IX:LSO:=[Ad 49 1 8,Ab 50 1 49,Ax 51 50,A7 52 51 100]
def IW:LSO:=[Af 6]
def IV:LSO:=[Ai 53 45 1,Aa 45 53]
def DP:LSO:=[Ad 54 4 3,Ab 55 1 54,Ah 56 55,Ac 57 0]
def DO:LSO:=[Al 58 57 56]
def DN:LSO:=[Am 59 5 55 57,As 60 5 59,BU 10,Ap 5 10 60]
def DM:LSO:=[As 61 5 10,Aa 62 1,Aa 63 2,Ai 64 63 1,AF 65 96 61 62 64,A3 66 65]
def DL:LSO:=[Af 6]
def DK:LSO:=[Ai 67 57 1,Aa 57 67]
def DJ:LSO:=[A5 6]
def wN:aK:=⟨68,(ash I4 [] (ash I3 CQ (.seq (ash I2 CK (asj 41 (.sreg I1 []))) (.seq (ash I0 CJ (ask 0 (ash IZ [] (.seq (asl 46 0) (.seq (.block 1 (ash IY C6 (ash IX C7 (asj 52 (.sreg IW []))))) (.sreg IV C4)))))) (.seq (ash DP CJ (ask 2 (ash DO [] (.seq (asl 58 2) (.seq (.block 3 (ash DN C6 (ash DM CB (asj 66 (.sreg DL []))))) (.sreg DK C4)))))) (ash DJ [] .ret)))))),[(.tmp 6)]⟩
attribute [push_cast] I4 I3 I2 I1 I0 IZ IY IX IW IV DP DO DN DM DL DK DJ
theorem WF:asm 96=asn wN:=asq
def I7:LSO:=[Ay 1 0,Af 2]
def I6:LSO:=[Cp 3,Ca 1 3 0]
def I5:LSO:=[As 4 5 1,Bu 5 96 4 3 1,Aa 2 5]
def wO:aK:=⟨6,(ash I7 [] (ash I6 [] (ash I5 C6 .ret))),[(.tmp 2)]⟩
attribute [push_cast] I7 I6 I5
theorem WG:asm 50=asn wO:=asq
attribute [push_cast] jK EW EV o5 dq dA wO
variable {L:List Blk}{K:aoY}
set_option maxHeartbeats 8000000
set_option maxRecDepth 100000
theorem agP:∀(f:Flt),ahY f->∀{p:Nat}{n d:Int}{L:List Blk}{K:aoY},L[p]?=some (.cells [.int .i64 n])->0<=n->n<=60->1<=d->d<=65->(∀(b:Bool) (m:Int),0<=m->m<=61->(b=true->m<=60/\aaN f)->K (.bool b) (L.set p (.cells [.int .i64 m]))) ->
  aoX 96 [.agg (fA f),.ptr p 0,.int .i64 d] L K:=by
 refine ack λk a v ps ks ih O p n d L K hL ap a0 av al h=>?_
 simp only[FlB]at O;obtain⟨r1,r2,r3,r4,r5,W⟩:=O;replace W:=hid (aao W);replace ih:=hid ih;have N:p<L.length:=(aoZ.1 hL).1;have f1:∀X:List Blk,(L++X)[p]?=some (.cells [.int .i64 n]):=λX=>by rw[ao4 N];exact hL
 have f2:∀(X:List Blk) A,(L++X).set p A=L.set p A++X:=λX A=>ap3 _ _ N
 have f3:∀(X:List Blk) A,(L.set p A++X)[p]?=some A:=λX A=>by rw[ao4 (by simpa using N),apB,if_pos rfl,if_pos N]
 have f4:∀A:Blk,(L.set p A).length=L.length:=λA=>asp
 have f5:∀(X:List Blk) A,(L.set p A++X)[L.length]?=X[0]?:=λX A=>by rw[ape asp];simp
 have f6:∀(X:List Blk) A k,(L.set p A++X)[L.length+k]?=X[k]?:=λX A k=>by rw[ape asp];simp
 have f7:∀(X:List Blk) A k C,(L.set p A++X).set (L.length+k) C=L.set p A++X.set k C:=λX A k C=>by rw[apu _ _ asp];simp
 have f8:∀(X:List Blk) A C,(L.set p A++X).set p C=L.set p C++X:=λX A C=>by rw[ap3 _ _ (by simpa using N),arK]
 have g0:IntKind.i64.wrap (n+1)=n+1:=ae aso aso;have g9:IntKind.i64.wrap (d+1)=d+1:=ae aso aso;have s:∀(X:List Blk) (b:Bool) (m:Int),K (.bool b) (L.set p (.cells [.int .i64 m]))->Fin L (.bool b) (L.set p (.cells [.int .i64 m])++X) K:=λX b m hk =>
  aap (f4 _) (λhh k Z=>by rcases asd Z with e|e;exact hh k e;subst e;rfl) rfl hk
 replace s:=hid s;replace h:=hid h;rw[VJ];refine ab WF (by simp[wN]) ?_;simp only[wN,ag];obtain⟨S,l⟩:∃P,P=rI ps:=⟨_,rfl⟩;obtain⟨U,r⟩:∃P,P=fsA ks:=⟨_,rfl⟩;rw[<- l,<- r];replace l:=hid l;replace r:=hid r
 repeat' first
  |refine bH ?_
  | (first|refine bv asq ?_|refine aP asq ?_|refine aS ?_|refine cT ?_|refine bJ (fun _=>?_)|refine aH ?_|refine bz ?_)
    refine sm ?_
  | (first|refine bp asq ?_|refine bm ?_|refine aR ?_|refine bw ?_|refine bP (aG ?_))
    refine sl ?_
  |exact bL
  |first|apply bM|apply bq|apply bN|apply br|apply bO|apply bu
  |refine aV ?_
  |refine aQ ?_
  |first|refine aT rfl ?_|refine aU rfl ?_|refine aB rfl ?_ ?_|refine aX rfl (λ_=>?_) (λ_=>?_)|refine aW rfl (λ_=>?_) (λ_=>?_)
  |((first|refine aA (λ_=>?_) (λ_=>?_)|refine aE (λ_=>?_) (λ_=>?_))<;>try refine sm ?_)
  |refine And.intro trivial ?_
  |refine And.intro aso ?_
  |refine be rfl (λ_=>?_) (λ_=>?_)
  |refine And.intro ?_ ?_
 rename_i u;exact s.o _ _ _ (h.o false (n+1) aso aso (λe=>by cases e));rename_i u;have b1:n+1<=60/\d<=64/\v.length<=3000/\ps.length<=20/\ks.length<=60:=by
  refine⟨?_,?_,?_,?_,?_⟩;exact aqY.1 λe=>u (.inl (.inl (.inl (.inl e))))
  exact aqY.1 λe=>u (.inl (.inl (.inl (.inr e))))
  have:=aqY.1 λe=>u (.inl (.inl (.inr e)));omega
  have:=aqY.1 λe=>u (.inl (.inr e));omega
  have:=aqY.1 λe=>u (.inr e);omega
 clear u;obtain⟨b1,b2,b3,b4,b5⟩:=b1;obtain⟨B,T⟩:=aoT (Blk.cells [AV.int IntKind.i64 k,AV.str a,AV.str v,AV.sl S ps.length none,AV.sl U ks.length none]);rw[T];refine ak (λm T' L'=>∃(i:Nat) (X:List Blk),m=ps.length-i/\i<=ps.length/\(∀x∈ps.take i,x.2.length<=100)/\T'=[(45,.int .i64 (i:Int)),(44,.int .i64 ps.length),(43,.sl S ps.length none),(3,.ptr L.length 0),(1,.ptr p 0),(2,.int .i64 d)]/\L'=L.set p (.cells [.int .i64 (n+1)])++(B::X)) ass ⟨0,[],rfl,ao2 _,asp,rfl,rfl⟩ ?_;rintro _ _ _ ⟨i,X,rfl,hi,H,rfl,rfl⟩;by_cases g:i<ps.length
 .have g1:(i:Int)<(ps.length:Int):=aso;have g2:=aoV i aso;have J:=Ys g;have e4:i*2+2<=S.length:=(by rw[l.o,Y8];omega);obtain⟨⟨x,t⟩,ha⟩:∃a,ps.getD i (0,[])=a:=⟨_,rfl⟩;have j:ps.take (i+1)=ps.take i++[(x,t)]:=(by rw[aph g,show ps[i]=(x,t)by rw[<- ha];simp[g]]);rw[ha,<- l.o]at J;simp only[pcA]at J;replace H:=hid H;clear ha;replace j:=hid j;clear l
  repeat' first
   |refine bH ?_
   | (first|refine bv asq ?_|refine aP asq ?_|refine aS ?_|refine cT ?_|refine bJ (fun _=>?_)|refine aH ?_|refine bz ?_)
     refine sm ?_
   | (first|refine bp asq ?_|refine bm ?_|refine aR ?_|refine bw ?_|refine bP (aG ?_))
     refine sl ?_
   |exact bL
   |first|apply bM|apply bq|apply bN|apply br|apply bO|apply bu
   |refine aV ?_
   |refine aQ ?_
   |first|refine aT rfl ?_|refine aU rfl ?_|refine aB rfl ?_ ?_|refine aX rfl (λ_=>?_) (λ_=>?_)|refine aW rfl (λ_=>?_) (λ_=>?_)
   |((first|refine aA (λ_=>?_) (λ_=>?_)|refine aE (λ_=>?_) (λ_=>?_))<;>try refine sm ?_)
   |refine And.intro trivial ?_
   |refine And.intro aso ?_
   |refine be rfl (λ_=>?_) (λ_=>?_)
   |refine And.intro ?_ ?_
  rename_i u;exact s.o _ _ _ (h.o false (n+1) aso aso (λe=>by cases e));rename_i u;refine ast aso asr ⟨i+1,_,rfl,g,?_,rfl,rfl⟩;rw[j.o];intro y hy;rcases ao5.1 hy with e|e;exact H.o y e;rw[apr]at e;subst e;have ar:¬(100:Int)<(t.length:Int):=u;show t.length<=100;omega
 have E:i=ps.length:=aso;subst E;have g1:¬(ps.length:Int)<(ps.length:Int):=aso;rw[apg]at H;replace H:=hid H;subst T;refine wk ?_;obtain⟨B,T⟩:=aoT (Blk.cells [AV.int IntKind.i64 k,AV.str a,AV.str v,AV.sl S ps.length none,AV.sl U ks.length none]);rw[T];refine ak (λm T' L'=>∃(i:Nat) (y:Int) (Y:List Blk),m=ks.length-i/\i<=ks.length/\0<=y/\y<=60/\X.length<=Y.length/\(∀x∈ks.take i,aaN x)/\T'=[(57,.int .i64 (i:Int)),(56,.int .i64 ks.length),(55,.sl U ks.length none),(3,.ptr L.length 0),(1,.ptr p 0),(2,.int .i64 d)]/\L'=L.set p (.cells [.int .i64 y])++(B::Y)) ass ⟨0,n+1,_,rfl,ao2 _,aso,b1,ao0 _,asp,rfl,rfl⟩ ?_;rintro _ _ _ ⟨i,y,Y,rfl,hi,M,I,an,G,rfl,rfl⟩;by_cases g:i<ks.length;have g1:(i:Int)<(ks.length:Int):=aso;have g2:=aoV i aso;have J:=afk g;have e4:i*5+5<=U.length:=by rw[r.o,aci];omega
 obtain⟨q,R⟩:=aoT (ks.getD i af8);have F:q∈ks:=by rw[<- R];simp[g]
 have j:ks.take (i+1)=ks.take i++[q]:=by rw[aph g,show ks[i]=q by rw[<- R];simp[g]]
 have w:∀{p:Nat}{n d:Int}{L:List Blk}{K:aoY},L[p]?=some (.cells [.int .i64 n])->0<=n->n<=60->1<=d->d<=65->(∀(b:Bool) (m:Int),0<=m->m<=61->(b=true->m<=60/\aaN q)->K (.bool b) (L.set p (.cells [.int .i64 m])))->aoX 96 [.agg (fA q),.ptr p 0,.int .i64 d] L K:=λa b c d e f=>ih.o q F (W.o q F) a b c d e f
 replace w:=@hid _ @w;rw[R,<- r.o]at J;obtain⟨qk,qa,qv,qp,qs⟩:=q;rw[VJ]at J;simp only[VJ]at w;replace G:=hid G;replace j:=hid j;clear R F;clear r;refine wk ?_;refine w.o (f3 _ _) M I aso aso λb m Q ad V=>?_
 rw[f8];cases b with
 | false =>
   clear V;refine asw ?_;exact s.o _ _ _ (h.o false m Q ad (λe=>by cases e))
 | true =>
   obtain⟨ai,D⟩:=V rfl;replace D:=hid D;clear V;refine asw ?_;refine ast aso (CutL (b:=by simp;omega)) ⟨i+1,m,_,rfl,g,Q,ai,by simp;omega,?_,rfl,rfl⟩;rw[j.o];intro z hz;rcases ao5.1 hz with e|e
   .exact G.o z e
   .rw[apr]at e;subst e;exact D.o
 have E:i=ks.length:=aso;subst E;have g1:¬(ks.length:Int)<(ks.length:Int):=aso;rw[apg]at G;replace G:=hid G;refine wk ?_;refine s.o _ _ _ (h.o true y M aso λ_=>⟨I,?_⟩);simp only[aaN,FlB];exact⟨r1,b3,b4,H.o,b5,acF G.o⟩
theorem ahQ{f:Flt}(i:ahY f)(h:∀b:Bool,(b=true->aaN f)->K (.bool b) L):
  aoX 50 [.agg (fA f)] L K:=by
 obtain⟨k,a,v,ps,ks⟩:=f;have c:=λ{p:Nat}{n d:Int}{L:List Blk}{K:aoY}=>agP (.mk k a v ps ks) i (p:=p) (n:=n) (d:=d) (L:=L) (K:=K)
 replace h:=hid h;replace c:=@hid _ @c;clear i;rw[VJ]at *;refine aoW WG ?_;refine c.o (show _=some (Blk.cells [AV.int .i64 0])by simp) aso aso aso aso λb m _ _ g=>?_
 have j:=hid (h.o b λe=>(g e).2);simp only[apu _ _ (Nat.le_add_right _ _),Nat.add_sub_cancel_left,aqr,List.set_cons_zero];clear g;refine asw ?_;exact ac rfl j.o
theorem am3{f:FuncId}{caps:List AV}{vs:List (List UInt8)}{cap:Option Nat}{q:List UInt8->Bool}{L:List Blk}(w:vs.length<=1100000)(l:∀(v:List UInt8) (K:AV->List Blk->Prop),v∈vs->K (.bool (q v)) L->aoX f (.str v::caps) L K){K:aoY}(t:vs.any q=false->K (.int .i64 (-1)) L)(p:∀k:Nat,vs.any q=true->K (.int .i64 k) L):
  aoX 113 [.sl (vs.map AV.str) vs.length cap,.func f caps] L K:=by
 replace l:=hid l;replace t:=hid t;replace p:=hid p;refine aoW jw ?_;refine ak (λn T' L'=>∃k:Nat,n=vs.length-k/\k<=vs.length/\T'=[(8,.int .i64 (k:Int)),(7,.int .i64 vs.length),(0,.sl (vs.map AV.str) vs.length cap),(1,.func f caps)]/\L=L'/\(vs.drop k).any q=vs.any q) (CutS (b:=ao0 _)) ⟨0,rfl,ao2 _,rfl,rfl,rfl⟩ ?_;rintro _ _ L' ⟨k,rfl,u,rfl,e,g⟩;subst e;replace g:=hid g;by_cases d:k<vs.length;have g1:(k:Int)<(vs.length:Int):=aso;have x:=aoV k aso;obtain⟨v,i⟩:=aoT (vs.getD k []);have g3:(vs.map AV.str).getD k .undef=.str v:=by rw[<- i];simp[d]
 have g4:k<(vs.map AV.str).length:=by simpa using d
 have j:v∈vs:=by rw[<- i];simp[d]
 have h:vs.drop k=v::vs.drop (k+1):=by rw[apw d,<- i];simp[d]
 have c:=g.o;rw[h,arC]at c;rcases hqk:q v with _|_;have kk1:Hid (∀{K:aoY},K (.bool false) L->aoX f (.str v::caps) L K):=hid λa=>l.o v _ j (by rw[hqk];exact a)
 rw[hqk,aqg]at c;replace c:=hid c;clear hqk h g i j;refine wk ?_;exact ast aso asr ⟨k+1,rfl,d,rfl,rfl,c.o⟩;have kk1:Hid (∀{K:aoY},K (.bool true) L->aoX f (.str v::caps) L K):=hid λa=>l.o v _ j (by rw[hqk];exact a)
 rw[hqk,aqQ]at c;have s:=hid (p.o k c.symm);clear hqk h g i j c;refine wk ?_;exact aa s.o;have r:k=vs.length:=aso;subst r;have g1:¬(vs.length:Int)<(vs.length:Int):=aso;have c:=g.o;rw[apM]at c;have m:=hid (t.o c.symm);clear g c;refine wk ?_;exact aa m.o
theorem aj6{f:FuncId}{caps:List AV}{vs:List (List UInt8)}{cap:Option Nat}{q:List UInt8->Bool}{L:List Blk}(a:vs.length<=1100000)(b:∀(v:List UInt8) (K:AV->List Blk->Prop),v∈vs->K (.bool (q v)) L->aoX f (.str v::caps) L K){K:aoY}(h:K (.bool (vs.any q)) L):
  aoX 72 [.sl (vs.map AV.str) vs.length cap,.func f caps] L K:=by
 refine aoW iV ?_;refine am3 (q:=q) a b (λe=>?_) (λk e=>?_);rw[e]at h;replace h:=hid h;refine asw ?_;exact aa h.o;rw[e]at h;replace h:=hid h;have g1:(0:Int)<=(k:Int):=aso;refine asw ?_;exact aa h.o
theorem alo{f c2 A:List AV}{c d e:Nat}{b a cap:Option Nat}(h:K (.int .i64 1) L):
  aoX 27 [.agg [.sl f c b,.sl c2 d a],.agg [.int .i64 0,.str [],.str [],.sl [] 0 (some 0),.sl [] 0 (some 0)],.sl A e cap] L K:=by
 have kk1:Hid (∀{i:Nat}{L:List Blk}{K:aoY},K (.int .i64 1) L->aoX 64 [.gsl [] 0 i 1] L K):=@hid _ (λ{i L K} q=>WO (xs:=[]) (by decide) q);replace h:=hid h;refine aoW wp ?_;refine bR (l:=[]) (n:=0) 7 1 rfl (aps 1).symm ?_;rw[show ∀A B:Blk,(L++[A,B]).length=L.length+2 from λA B=>by simp];refine ak (λm T' L'=>m=0/\T'=[(26,.int .i64 0),(25,.int .i64 0),(24,.sl [] 0 (some 0)),(7,.gsl [] 0 (L.length+2) 1),(4,.ptr (L.length+1) 0),(3,.ptr L.length 0),(2,.sl A e cap)]/\L'=L++[.cells [.sl f c b,.sl c2 d a],.cells [.int .i64 0,.str [],.str [],.sl [] 0 (some 0),.sl [] 0 (some 0)],.spare 0 1]) ass ⟨rfl,rfl,asp⟩ ?_;rintro _ _ _ ⟨rfl,rfl,rfl⟩;refine wk ?_;exact ac rfl h.o
theorem aoo:∀u∈awU,afw u:=by intro u a;simp only[awU,apn,apX,or_false]at a;rcases a with rfl|rfl;exact⟨⟨⟨by decide,by decide⟩,by decide⟩,⟨⟨by decide,by decide⟩,by decide⟩,by decide,by decide⟩;exact⟨⟨⟨by decide,by decide⟩,by decide⟩,⟨⟨by decide,by decide⟩,by decide⟩,by decide,by decide⟩
theorem ank:∀x∈awE,x.av.length<=1100000/\∀a∈x.av,bI a.1/\a.2.length<=1100000:=by intro x b;simp only[awE,apn,apX,or_false]at b;rcases b with rfl|rfl;exact⟨by decide,asp⟩;exact⟨by decide,by simp[bI]⟩
theorem aoq{L:List Blk}{iv mn mi:Nat}{nb bn:Int->Nat}{ck ci:Nat}{e:List TKy}{ib:Nat}{cb:Option Nat}(i:TOk d9 2 awE)(j:bT L iv mn mi nb bn ck ci e d9 2 awE)(d:L[ib]?=some (.cells [dnA [],.sl (jt awR) awR.length cb])){s z:Int}{K:aoY}(h:K (srA (Ft aN awE awP (λ_=>1) d9 s [] false z 0)) L):
  aoX 21 [.ptr iv 0,.agg [.sl (cU aN) aN.length none,.sl abu 9 none],.ptr ib 0,.agg [.sl [] 0 (some 0),dnA d9,.int .i64 s,.int .i64 0,.str [],.str [],.sl [] 0 (some 0),.sl [] 0 (some 0),.sl [] 0 (some 0),.bool false,.int .i64 z,.int .i64 0],.sl [] 0 (some 0)] L K :=
 acV (names:=[]) ⟨ny.1,ny.2.1⟩ i (by decide) ank acS.m.b (by decide) asp (@hid _ (λ{vs c} f {L K} q=>ZM f q)) j d
  (@hid _ (λx g n f r a {X K} q=>ajd (adm:=[]) (rs:=awR) (who:=[]) (by unfold V0;omega) (by intro r a;simp only[awR,apn,apX,or_false]at a;subst a;decide) (by intro r a;simp only[awR,apn,apX,or_false]at a;subst a;simp[bI]) f (by decide) ⟨asp,asp⟩ ⟨asp,asp⟩ (i.ok x g).m.b (aoU d) q))
  (@hid _ (λx g {X K} q=>alo q)) h
theorem afu(h:∀L',K (.bool true) L'):aoX 9 [] L K:=by
 obtain⟨x,j⟩:=aoT (cU aN);obtain⟨y,f⟩:=aoT (aN.length);obtain⟨C,i⟩:=aoT (abu);have kk2:Hid (Ctr Tryz.prog 15 [] (.agg [.sl x y none,.sl C 9 none])):=@hid _ (λ{L K} q=>afq (by rw[j,i,f];exact q));have b:Hid (∀{L:List Blk}{K:aoY},(∀L' it iv mn mi rt nb bn ck ci m c ib cb,aem L' it iv mn mi rt nb bn ck ci m c d9 2 awE->L'[ib]?=some (.cells [dnA [],.sl (jt awR) awR.length cb])->K (.tup [.agg [.ptr it 0,.ptr ib 0,.ptr rt 0,.sl [] 0 none,.sl (gr awR) 1 none],.bool true]) L') ->
  aoX 7 [.agg [.sl (awU.flatMap rH) 2 none,.sl [] 0 none,.sl (gr awR) 1 none]] L K):=@hid _ (λ{L K} q=>agk (us:=awU) (adm:=[]) (rs:=awR) aoo (by decide) (by decide) (by intro r E;simp only[awR,apn,apX,or_false]at E;subst E;simp[bI]) ⟨⟨by decide,asp⟩,asp⟩ (λg=>absurd akd g) (λL' it iv mn mi rt nb bn ck ci m c last l ib cb p k _ _ _ u _ _=>by
  rw[al1]at u;cases u;exact q L' it iv mn mi rt nb bn ck ci m c ib cb p k))
 obtain⟨d,w⟩:=aoT (d9);have kk1:Hid (Ctr Tryz.prog 31 [] (.sl (d.map am) 1 none)):=@hid _ (λ{L K} q=>afR (by rw[w];unfold dnA;rw[show d.length=1 by rw[<- w];rfl];exact q));have v:AV.frzL (d.map am)=d.map am:=bB d;have t:=hid w;obtain⟨n,a⟩:=aoT (d.map am);rw[a]at kk1 v;have G:n.length=1:=by rw[<- a,<- w];rfl
 replace h:=hid h;replace j:=hid j;replace f:=hid f;replace i:=hid i;replace a:=hid a;clear w;refine aoW WE ?_;refine iK ?_;rw[show AV.frzL _=[AV.agg [.sl (awU.flatMap rH) 2 none,.sl [] 0 none,.sl (gr awR) 1 none]]from by simp only[AV.frzL,AV.frz,v,<- a.o,<- t.o];rfl]
 refine b.o (λL' it iv mn mi rt nb bn ck ci m c ib cb p k=>?_);have D:∀{s z:Int}{r:List Fnd×Int×List Rdn},Ft aN awE awP (λ_=>1) d9 s [] false z 0=r->∀{X:List Blk}{K:aoY},K (srA r) (L'++X)->aoX 21 [.ptr iv 0,.agg [.sl x y none,.sl C 9 none],.ptr ib 0,.agg [.sl [] 0 (some 0),.sl n 1 none,.int .i64 s,.int .i64 0,.str [],.str [],.sl [] 0 (some 0),.sl [] 0 (some 0),.sl [] 0 (some 0),.bool false,.int .i64 z,.int .i64 0],.sl [] 0 (some 0)] (L'++X) K:=λ{s z r} e {X K} q=>by rw[<- a.o,<- t.o,<- j.o,<- f.o,<- i.o];exact aoq p.ok (p.code.app X) (aoU k) (by rw[e];exact q)
 have kk3:Hid (∀{X:List Blk}{K:aoY},K (.tup [.sl [dnA d9,.sl [] 0 none] 1 none,.int .i64 4,.sl [] 0 none]) (L'++X)->aoX 21 [.ptr iv 0,.agg [.sl x y none,.sl C 9 none],.ptr ib 0,.agg [.sl [] 0 (some 0),.sl n 1 none,.int .i64 2,.int .i64 0,.str [],.str [],.sl [] 0 (some 0),.sl [] 0 (some 0),.sl [] 0 (some 0),.bool false,.int .i64 1,.int .i64 0],.sl [] 0 (some 0)] (L'++X) K):=@hid _ (λ{X K} q=>D (aon p.ok) q);have kk4:Hid (∀{X:List Blk}{K:aoY},K (.tup [.sl [dnA ([([99,110],[97])]::d9),.sl (aJ [([99,110],[[97]])]) 1 none] 1 none,.int .i64 0,.sl [] 0 none]) (L'++X)->aoX 21 [.ptr iv 0,.agg [.sl x y none,.sl C 9 none],.ptr ib 0,.agg [.sl [] 0 (some 0),.sl n 1 none,.int .i64 1,.int .i64 0,.str [],.str [],.sl [] 0 (some 0),.sl [] 0 (some 0),.sl [] 0 (some 0),.bool false,.int .i64 0,.int .i64 0],.sl [] 0 (some 0)] (L'++X) K):=@hid _ (λ{X K} q=>D (aom p.ok) q);have F:∀A B:Blk,(L'++[A,B])[it]?=some (.cells [.ptr iv 0]):=λA B=>aoU p.it
 generalize dnA d9=D1 at kk3;generalize dnA ([([99,110],[97])]::d9)=D2 at kk4;generalize aJ [([99,110],[[97]])]=A2 at kk4;clear D p k b a t j f i;refine asw ?_;exact aa (h.o _)
theorem amJ{P:Program}{f:FuncId}{b:Bool}(h:af P f [] [] λv _=>v=.bool b)(m:K (.bool b) L):af P f [] L K:=λw0 S0 E w vs g p=>by
 have j:Rel w ⟨λ_=>False,0⟩ {mem:=E.mem,loc:=λ_=>none,tok:=λ_=>none} [] w:=by
  refine⟨g.mem,?_,λ_ _=>rfl,?_,?_,λ_ _=>rfl,?_,?_,?_,λ_ _ _=>rfl,ao0 _,rfl,rfl,rfl,g.glob,g.gsz⟩
  all_goals intros;simp_all
 have key:∀{E':Env}{L':List Blk}{w':World},Rel w ⟨λ_=>False,0⟩ E' L' w'->EA w w':=λk=>⟨λb q=>k.frame b q (λx=>x),k.size,k.os,k.tape,k.output⟩
 have l:VRL {mem:=E.mem,loc:=λ_=>none,tok:=λ_=>none} [] vs:=by simpa only[VRL]using p
 rcases h w _ _ w vs j l with⟨i,n⟩|⟨E',v,av,L',w',i,n,o,h4,s⟩;refine .inl ⟨i,n.mono λe w' ⟨E',v,av,L',a,b,c,d,r⟩=>⟨E,v,_,L,a,.refl E,m,?_,g.grown (key r)⟩⟩;subst c;simpa only[VR]using d;refine .inr ⟨E,v,_,L,w',i,.refl E,m,?_,g.grown (key s)⟩;subst o;simpa only[VR]using h4
theorem ahJ(h:K (.bool true) L):aoX 9 [] L K:=amJ (afu λ_=>rfl) h
end Go.Proofs.YtdnfjhflkkpokaaGreatDoor.Av
set_option maxRecDepth 100000
namespace Go.Proofs.YtdnfjhflkkpokaaGreatDoor.Av
open Go
variable {l:List aC}{last k scope size time syn:Int}{ts:List Typ}{P:List Rdn->List UInt8->Int->Bool}{T:List Atr->Int}{names:List (List UInt8)}{tonly:Bool}{base:List Rdn}{F N:Nat}{t:TypeId}{X:Type}{a v:List UInt8}
def IK:LSO:=[Ay 1 0,Af 2]
def IJ:LSO:=[Ad 5 8 1,Ab 6 1 5,Ah 7 6,Ac 8 0]
def II:LSO:=[Al 9 8 7]
def IH:LSO:=[Am 10 1 6 8,Ab 11 1 10,Aa 4 11]
def IG:LSO:=[Ad 12 8 1,Ab 13 1 12,Ah 14 13,A7 15 14 20,Aa 16 15,.grp none 16 false
 [Ag 17 16 4,Br 18 16 17,AC 19 16 18 100]
 20 (tm 19)]
def IF:LSO:=[Af 2]
def IE:LSO:=[Ai 21 8 1,Aa 8 21]
def ID:LSO:=[Ad 22 0 1,Ab 23 1 22,Ad 24 1 1,Ab 25 1 24,
 o1 26 (.build [(.int .i64 0),(.sl [] 0 (some 0)),(.sl [] 0 (some 0)),(.sl [] 0 (some 0))] [(1,(1,(tm 23))),(2,(1,(tm 25)))]),Aj 27 8 26,Aa 28 27,Az 29 28 3 1,BJ 30 28 5 29,
 Bb 31 28 50 30,o1 32 (.pick (tm 28) (tm 31) (.av (.bool false))),Aa 2 32]
def wL:aK:=⟨33,(ash IK [] (.seq (ash IJ CJ (ask 0 (ash II [] (.seq (asl 9 0) (.seq (.block 1 (ash IH C6 (ash IG CB (asj 20 (.sreg IF []))))) (.sreg IE C4)))))) (ash ID CK .ret))),[(.tmp 2)]⟩
attribute [push_cast] IK IJ II IH IG IF IE ID
theorem WD:asm 20=asn wL:=asq
def rm:LSO:=[Ay 2 0,Ay 3 1,Af 4]
def rl:LSO:=[As 19 3 2,Aj 20 7 19,Aa 18 20,Ao 21 18,Aq 22 18,Cz 5,Ap 5 5 21,Aa 6 22]
def rk:LSO:=[Aa 23 6,A3 24 23,Aa 25 24,og 26 25 false (.load true 12 (tm 3)),AM 27 25 20 26,AZ 28 25 27,o1 29 (.pick (tm 25) (.av (.bool true)) (tm 28))]
def rj:LSO:=[AY 30 9,Aa 4 30]
def ri:LSO:=[Ad 31 10 3,Ca 1 31 0,Ad 32 11 3,Ca 1 32 0]
def rh:LSO:=[Ad 34 0 5,Ab 35 1 34,Au 36 35,Ad 37 0 36,Ab 38 1 37,AY 39 15,Ad 40 1 5,Ab 41 1 40,As 42 12 3,C3 43 21 38 39 41 42,Aa 33 43,Ao 44 33,Aq 45 33,
 Be 46 33,Aa 7 44,Aa 8 45,Aa 9 46]
def rf:LSO:=[Aa 47 8,AB 48 47 0]
def re:LSO:=[AY 49 9,Aa 50 49,.grp none 50 true
 [Ae 51 50 7,AE 52 50 51,AO 53 50 52 0]
 54 (tm 53),Aa 4 54]
def rd:LSO:=[Ac 10 0]
def rb:LSO:=[Ad 55 0 5,Ab 56 1 55,Au 57 56,Ad 58 0 57,Ab 59 1 58,Ad 60 0 5,Ab 61 1 60,Au 62 61,Ad 63 0 62,Ab 64 1 63,Ad 65 1 3,Ab 66 1 65,Ar 67 24 64 66,
 Ad 68 2 3,Ab 69 1 68,AF 70 23 59 67 69,Ah 71 70,Ac 72 0]
def oS:LSO:=[Al 73 72 71]
def oR:LSO:=[Am 74 1 70 72,Ab 75 1 74,Aa 12 75]
def oQ:LSO:=[Ad 77 0 5,Ab 78 1 77,Au 79 78,Ad 80 0 79,Ab 81 1 80,Aa 82 12,Ar 83 25 81 82,Aa 76 83,Ao 84 76,Aq 85 76,Aa 13 84,Aa 14 85]
def oP:LSO:=[Ad 86 1 5,Ab 87 1 86,Ad 88 0 3,Ab 89 1 88,Aa 90 13,Cy 91 26 87 89 90 1,Aa 92 91,.grp none 92 true
 [og 93 92 true (.call 15 []),Az 94 92 3 3,BJ 95 92 5 94,Az 96 92 1 5,A0 97 92 1 96,Az 98 92 0 3,A0 99 92 1 98,Ae 100 92 13,Ae 101 92 14,
 og 102 92 true (.call 28 [(tm 97),(tm 99),(tm 100),(tm 101),(iv 4)]),og 103 92 true (.call 27 [(tm 93),(tm 95),(tm 102)]),AO 104 92 103 1]
 105 (tm 104),Aa 15 105]
def oO:LSO:=[Aa 106 15,A3 107 106]
def oN:LSO:=[Aa 108 10,Aa 109 7,Ah 110 109,o1 111 (.bin .geq (tm 108) (tm 110)),Aa 112 111,.grp none 112 false
 [Ag 113 112 7,Ag 114 112 10,og 115 112 false (.iaddr 2 (tm 113) (tm 114)),A8 116 112 0 115,A6 117 112 1 116,Ag 118 112 13,Cx 119 112 12 117 118,AZ 120 112 119]
 121 (tm 120)]
def oM:LSO:=[Af 4]
def oL:LSO:=[Aa 122 7,Aa 123 10,Am 124 2 122 123,Ad 125 1 124,Ab 126 1 125,Ah 127 126,Ac 128 0]
def oK:LSO:=[Al 129 128 127]
def oJ:LSO:=[Am 130 2 126 128,As 131 2 130,Bj 17,Ap 2 17 131]
def oI:LSO:=[Ad 132 1 5,Ab 133 1 132,Ad 134 0 3,Ab 135 1 134,Aa 136 13,Ad 137 0 17,Ab 138 1 137,o1 139 (.call 26 [(tm 133),(tm 135),(tm 136),(tm 138),(iv 2)]),
 A3 140 139,Aa 141 140,.grp none 141 false
 [A8 142 141 9 3,A6 143 141 1 142,AZ 144 141 143,Ag 145 141 144,.grp (some (141,false)) 145 true
 [Az 146 145 1 17,A0 147 145 1 146,AE 148 145 147,Ae 149 145 14,Az 150 145 0 17,A0 151 145 1 150,AN 152 145 29 149 151,AE 153 145 152,Cv 154 145 148 153]
 155 (tm 154)]
 156 (tm 155),Aa 157 156,.grp none 157 false
 [A8 158 157 9 3,A6 159 157 1 158,Ag 160 157 159,.grp (some (157,false)) 160 true
 [Az 161 160 1 17,A0 162 160 1 161,AE 163 160 162,BC 164 160 163 0]
 165 (tm 164)]
 166 (tm 165)]
def oH:LSO:=[Af 4]
def oG:LSO:=[Ai 167 128 1,Aa 128 167]
def oF:LSO:=[Aa 168 10,Ai 169 168 1,Aa 10 169]
def oE:LSO:=[Ai 170 72 1,Aa 72 170]
def oD:LSO:=[AY 171 9,Aa 172 171,.grp none 172 true
 [Ae 173 172 10,Ae 174 172 7,AE 175 172 174,B7 176 172 173 175]
 177 (tm 176),Aa 4 177]
def lT:aK:=⟨178,(ash rm [] (ash rl CH (.seq (ash rk CC (asj 29 (.sreg rj C4))) (ash ri CZ (.seq (.sdreg rh [.pure,(.read 0 0),(.read 0 0),.pure,(.read 0 0),(.read 0 0),.pure,(.read 0 0),(.read 0 0),(.read 0 0),.pure,.pure,.pure,.pure,.pure,.pure] [false,true,true,false,false,false,false,false,false,false,false,false,false,false,false,false,false]) (.seq (ash rf C4 (asj 48 (.sreg re C7))) (ash rd [] (.seq (.seq (.sdreg rb [.pure,(.read 0 0),(.read 0 0),.pure,(.read 0 0),.pure,(.read 0 0),(.read 0 0),.pure,(.read 0 0),.pure,(.read 0 0),(.read 0 0),.pure,(.read 0 0),(.read 0 0),(.read 0 0),.pure] [true,true,true,false,false,false,false,false,false,false,false,false,false,false,false,false,false,false]) (ask 0 (ash oS [] (.seq (asl 73 0) (.seq (.block 1 (ash oR C6 (ash oQ CW (.seq (.sdreg oP [.pure,(.read 0 0),.pure,(.read 0 0),.pure,(.read 0 0),.pure,(.read 0 0),.pure,(.read 0 0),.pure,(.read 0 0),.pure,(.read 0 0),.pure,.pure,(.read 0 0)] CL) (.seq (ash oO C4 (asi 107 (.exit 1) .skip)) (.seq (ash oN CB (asj 121 (.sreg oM []))) (.seq (ash oL Dg (ask 2 (ash oK [] (.seq (asl 129 2) (.seq (.block 3 (ash oJ C6 (.seq (.sdreg oI [.pure,(.read 0 0),.pure,(.read 0 0),.pure,.pure,(.read 0 0),(.read 0 0),.pure,.pure,.pure,(.read 0 0),.pure,.pure,.pure,(.read 0 0),(.read 0 0),.pure,.pure,(.read 0 0),(.read 0 0),(.read 0 0)] Dp) (asj 166 (.sreg oH []))))) (.sreg oG C4)))))) (.sreg oF C6)))))))) (.sreg oE C4)))))) (ash oD C7 .ret))))))))),[(.tmp 4)]⟩
attribute [push_cast] rm rl rk rj ri rh rf re rd rb oS oR oQ oP oO oN oM oL oK oJ oI oH oG oF oE oD
theorem NW:asm 6=asn lT:=asq
attribute [push_cast] wL lT
variable {α:Type}
theorem S6{f:α->Option Fnd}:∀(l:List α) (n:Nat) (out:List Fnd),srL f 0 0 n out l=(out++l.filterMap f,0)
 |[],n,out=>by simp[srL]
 | x::l,n,out=>by
   rw[srL,if_neg aso];cases hf:f x with
   |none=>simp only;rw[S6 l];simp[hf]
   |some y=>simp only;rw[if_neg aso,S6 l];simp[hf]
theorem alM{Q:List Atr->Prop}{suf:List Rdn}{dn tn:List Rdn}{v:List Atr}(d:∀x∈l,Q x.av)(f:Q v):∀x∈(doT suf l last k dn tn v).1,Q x.av:=by
 have b:∀(l:List aC) (i:Int),(∀x∈l,Q x.av)->∀x∈rJ l i v,Q x.av:=λl i h x a=>by
  obtain⟨y,e,rfl⟩:=ao6.1 a
  grind
 have c:∀x∈mX l dn tn,Q x.av:=λx a=>by
  obtain⟨y,e,rfl⟩:=ao6.1 a
  grind
 unfold doT;split;omega;split;intro x a;rcases ao5.1 a with a|a;simp[*];simp_all;split;intro x a;exact d x (apC.1 a).1
 grind
theorem agl{S:List Rdn}:∀(us:List Upd) (s:List aC×Int),(∀x∈s.1,InA aN x.av)->∀x∈(us.foldl (ad8 S) s).1,InA aN x.av
 |[],s,h=>h
 | u::us,s,h=>agl us (ad8 S s u) (by
   unfold ad8;split
   .omega
   .rename_i hz;exact alM h (agb (amU aN) (by simpa using hz)))
theorem agm{S:List Rdn}{us:List Upd}(h:(l,last)=Fo S us):∀x∈l,InA aN x.av:=by have a:=agl (S:=S) us ([],0) asp;rw[show us.foldl (ad8 S) ([],0)=Fo S us from rfl,<- h]at a;omega
theorem afV{Q:List UInt8->Bool}{l:List Atr}(h:InA ts l):InA ts (eF Q l):=⟨List.Pairwise.filter _ h.1,λa b=>h.2 a (apC.1 b).1⟩
structure FOk(y:Fnd):Prop where
 nm:dnB y.1
 al:y.2.length<=1100000
 vl:∀a∈y.2,a.2.length<=1100000
variable {α:Type}
theorem abK{f:α->Option Fnd}{time size:Int}{y:Fnd}:∀(l:List α) (n:Nat) (out:List Fnd),y∈(srL f time size n out l).1->y∈out\/∃x∈l,f x=some y
 |[],n,out,h=>.inl h
 | x::l,n,out,h=>by
   rw[srL]at h;split at h
   .simp[*]
   .cases hf:f x with
    | none =>
      rw[hf]at h;rcases abK l _ _ h with h|⟨z,a,e⟩
      .simp[*]
      grind
    | some w =>
      rw[hf]at h;simp only at h;split at h
      .simp[*]
      .rcases abK l _ _ h with h|⟨z,a,e⟩
       .grind
       grind
theorem alF{x:aC}{y:Fnd}(f:OkD x.nm)(d:aaf x.av)(h:VH ts P T names tonly x=some y):FOk y:=by unfold VH at h;split at h;cases h;refine⟨f.m.b,?_,λa c=>?_⟩;unfold iR;rw[apm];exact apk (ap4 _ _) (apk (ap4 _ _) d.1);obtain⟨b,e,rfl⟩:=ao6.1 c;split;simp;exact d.2 b (apC.1 (apC.1 e).1).1;cases h
theorem akQ(d:∀x∈l,OkD x.nm)(c:∀x∈l,aaf x.av):∀y∈(Ft ts l P T base scope names tonly size time).1,FOk y:=by intro y a;rw[JQ]at a;split at a;simp_all;split at a;simp_all;split at a;simp_all;rcases abK _ _ _ a with h|⟨x,b,e⟩;cases h;exact alF (d x (Yp b)) (c x (Yp b)) e
theorem ail        :(Ft ts l P T base scope names tonly 0 0).1.length<=l.length:=by rw[JQ];split;simp;split;simp;split;simp;simp only[S6];exact apk (List.length_filterMap_le _ _) abM
set_option maxHeartbeats 8000000
set_option maxRecDepth 100000
theorem ajR{l:List Fnd}{k:Nat}(h:k<l.length):(lL l).getD (k*2) .undef=.sl ((l.getD k ([],[])).1.map am) (l.getD k ([],[])).1.length none/\(lL l).getD (k*2+1) .undef=.sl (aJ (l.getD k ([],[])).2) (l.getD k ([],[])).2.length none:=by
 induction l generalizing k with
 |nil=>cases h
 | cons a l ih =>
   rw[ET];cases k with
   |zero=>exact⟨rfl,rfl⟩
   | succ k =>
     have:=ih (k:=k) (by simpa using h);rw[show(k+1)*2=k*2+1+1 by omega];simpa using this
theorem agO{who:List Rdn}{x cb:Option Nat}{f:Flt}{t:Option Nat}(w:Ox who)(i:Ox base)(A:ahY f)(s:(names.length:Int)<=9223372036854775807){L:List Blk}{K:aoY}(h:∀b:Bool,(b=true->names.length<=20/\smU ⟨0,who,base,[]⟩=true/\aaN f)->K (.bool b) L):
  aoX 20 [.agg (.sl (who.map am) who.length x :: .sl (base.map am) base.length cb :: .int .i64 scope::(fA f++[.sl (names.map AV.str) names.length t,.bool tonly,.int .i64 size,.int .i64 time]))] L K:=by
 obtain⟨sm,d⟩:=aoT (smU ⟨0,who,base,[]⟩);have a:∀{L:List Blk}{c0 p c2:Option Nat}{K:aoY},K (.bool sm) L->aoX 8 [.agg [.int .i64 0,.sl (who.map am) who.length c0,.sl (base.map am) base.length p,.sl [] 0 c2]] L K:=λ{L c0 p c2 K} q=>by
  refine iK ?_;have:=YL (u:=⟨0,who,base,[]⟩) w i asp asp (by rw[d];exact q);have e:AV.frzL [.agg [.int .i64 0,.sl (who.map am) who.length c0,.sl (base.map am) base.length p,.sl [] 0 c2]]=[AV.agg (rH ⟨0,who,base,[]⟩)]:=by simp only[AV.frzL,AV.frz,bB,rH,dnA];rfl
  rw[e];exact this
 have kk1:Hid (∀{L:List Blk}{c0 p c2:Option Nat}{K:aoY},K (.bool sm) L->aoX 8 [.agg [.int .i64 0,.sl (who.map am) who.length c0,.sl (base.map am) base.length p,.sl [] 0 c2]] L K):=@hid _ a;have j:Hid (∀{L:List Blk}{K:aoY},(∀b:Bool,(b=true->aaN f)->K (.bool b) L)->aoX 50 [.agg (fA f)] L K):=@hid _ (λ{L K} q=>ahQ A q);obtain⟨C,B,D,z,l⟩:=f;rw[VJ]at j⊢;simp only[apH,apx];replace h:=hid h;replace d:=hid d;clear a w i A;refine aoW WD ?_;refine ak (λm T' L'=>∃k:Nat,m=names.length-k/\k<=names.length/\Hid (0<k->names.length<=20)/\T'=[(8,.int .i64 (k:Int)),(7,.int .i64 names.length),(6,.sl (names.map AV.str) names.length t),(1,.ptr L.length 0)]/\L'=L++[.cells [.sl (who.map am) who.length x,.sl (base.map am) base.length cb,.int .i64 scope,.int .i64 C,.str B,.str D,.sl (rI z) z.length none,.sl (fsA l) l.length none,.sl (names.map AV.str) names.length t,.bool tonly,.int .i64 size,.int .i64 time]]) ass ⟨0,rfl,ao2 _,hid (λq=>absurd q (by decide)),rfl,rfl⟩ ?_;rintro _ _ _ ⟨k,rfl,F,v,rfl,rfl⟩;by_cases g:k<names.length;have g1:(k:Int)<(names.length:Int):=aso;have G:=aoV k aso;obtain⟨n,s⟩:=aoT (names.getD k []);have g3:(names.map AV.str).getD k .undef=.str n:=by rw[<- s];simp[g]
 have g4:k<(names.map AV.str).length:=by simpa using g
 clear s v;by_cases y:20<names.length\/100<n.length;have E:decide ((20:Int)<(names.length:Int)\/(100:Int)<(n.length:Int))=true:=decide_eq_true aso;have r:=hid (h.o false λe=>by cases e);clear y h;refine wk ?_;exact ac rfl r.o;have E:decide ((20:Int)<(names.length:Int)\/(100:Int)<(n.length:Int))=false:=decide_eq_false aso;have c:Hid (0<k+1->names.length<=20):=hid (λ_=>aso);clear y;refine wk ?_;exact ast aso asr ⟨k+1,rfl,g,c,rfl,rfl⟩;have g1:¬(k:Int)<(names.length:Int):=aso;have c:names.length<=20:=by have:=v.o;omega
 clear v;cases sm with
 | false =>
   have r:=hid (h.o false λe=>by cases e);clear h;refine wk ?_;exact ac rfl r.o
 | true =>
   refine wk ?_;refine j.o (λb i=>?_);have r:=hid (h.o b λe=>⟨c,d.o,i e⟩);clear i h;refine asw ?_;exact ac rfl r.o
theorem ajV(f:Flt):∃(k:Int) (a v:List UInt8) (P:List AV) (p:Nat) (Q:List AV) (q:Nat),fA f=[.int .i64 k,.str a,.str v,.sl P p none,.sl Q q none]:=by
 cases f with
 |mk k a v ps ks=>exact⟨k,a,v,_,_,_,_,VJ ..⟩
theorem afK:∀{l:List Atr},mS gO l->∀a∈l,gp l a.1=a.2
 | b::l,h,a,c=>by
   rw[gp];rcases apn.1 c with rfl|c
   .rw[if_pos rfl]
   .have h2:=aqs.1 h;rw[if_neg (λe=>by have:=h2.1 a c;simp only[gO,e]at this;exact absurd this asp),afK h2.2 a c]
theorem bT.set{L:List Blk}{iv mn mi:Nat}{nb bn:Int->Nat}{ck ci:Nat}{rs:List TKy}{suf:List Rdn}(h:bT L iv mn mi nb bn ck ci rs suf last l){j:Nat}{c:List AV}(f:L[j]?=some (.cells c))(d:c.length≠4)(b:Blk):bT (L.set j b) iv mn mi nb bn ck ci rs suf last l:=by
 have no:=h.noOf f (.inl d);have key:∀{i:Nat}{x:Blk},OfT iv mn mi nb l i->L[i]?=some x->(L.set j b)[i]?=some x:=λ{i x} g e=>by rw[api (λq:j=i=>no (by rw[q];exact g))];exact e
 exact⟨key (.inl rfl) h.v,key (.inr (.inl rfl)) h.n,key (.inr (.inr (.inl rfl))) h.i,λx a=>key (.inr (.inr (.inr ⟨x,a,rfl⟩))) (h.nd x a),h.keys,h.mem,h.bnd,h.blt⟩
theorem alH{α β:Type}{f:α->Option β}{l:List α}{k:Nat}{d:α}(h:k<l.length)(a:f (l.getD k d)=none):(l.take (k+1)).filterMap f=(l.take k).filterMap f:=by
 have e:l.getD k d=l[k]:=by simp[h]
 rw[e]at a;rw[aph h,aqa];simp[a]
theorem alG{α β:Type}{f:α->Option β}{l:List α}{k:Nat}{d:α}{y:β}(h:k<l.length)(a:f (l.getD k d)=some y):(l.take (k+1)).filterMap f=(l.take k).filterMap f++[y]/\l.filterMap f=(l.take k).filterMap f++y::(l.drop (k+1)).filterMap f:=by
 have e:l.getD k d=l[k]:=by simp[h]
 rw[e]at a;have c:l.drop k=l[k]::l.drop (k+1):=apw h;have b:l.filterMap f=(l.take k).filterMap f++(l.drop k).filterMap f:=by rw[<- aqa,aqy]
 refine⟨by rw[aph h,aqa,arR,a];rfl,?_⟩;rw[b,c,arR,a]
theorem aim{R:List Fnd×Int×List Rdn}(h:Ft ts l P T base scope names tonly 0 0=R):
  R.2.1≠0/\R.1=[]\/R.2.1=0/\¬(scope<0\/2<scope)/\R.1=(scE l (bA l base) scope).filterMap (VH ts P T names tonly):=by
 rw[JQ]at h;by_cases c0:scope<0\/2<scope;rw[if_pos aso]at h;subst h;exact .inl ⟨asp,rfl⟩;rw[if_neg aso]at h;by_cases a:¬OkD base;rw[if_pos a]at h;subst h;exact .inl ⟨asp,rfl⟩;rw[if_neg a]at h;by_cases c2:(JL (P · [] 1) l base).1=0;rw[if_pos c2]at h;subst h;exact .inl ⟨asp,rfl⟩;rw[if_neg c2,S6]at h;have e:(JL (P · [] 1) l base).1=bA l base:=by unfold JL at c2⊢;split;rfl;rename_i q;rw[if_neg q]at c2;exact absurd rfl c2
 subst h;exact .inr ⟨rfl,c0,by rw[e];rfl⟩
theorem alK(hA:Hid (Ctr Tryz.prog 9 [] (.bool true)))(bi:Hid (∀{vs:List (List UInt8)}{c:Option Nat},vs.length<=1100000->∀{L:List Blk}{K:aoY},K (.sl (vs.map AV.str) vs.length none) L->aoX 47 [.sl (vs.map AV.str) vs.length c] L K)){us:List Upd}{cu:Option Nat}{adm:List Rdn}{ca:Option Nat}{rs:List Rul}{cr:Option Nat}(hu:∀u∈us,afw u)(c8:(us.length:Int)<=9223372036854775807)(c6:(rs.length:Int)<=9223372036854775807)(U:∀r∈rs,bI r.at_)(z:Ox adm/\∀r∈adm,∀a∈r,(a.1.length:Int)<=140737488351232){who:List Rdn}{H I:Option Nat}{f:Flt}{cn:Option Nat}(hw:Ox who/\∀r∈who,∀a∈r,(a.1.length:Int)<=140737488351232)(hd:Ox base/\∀r∈base,∀a∈r,(a.1.length:Int)<=140737488351232)(hf:ahY f)(hn:(names.length:Int)<=9223372036854775807)(bt:∀n∈names,bI n)(V:∀{l:List Atr},aaN f->InA aN l->l.length<=1100000->(∀a∈l,a.2.length<=1100000)->∀{L:List Blk}{K:aoY},K (.int .i64 (ofM aN l f)) L->aoX 27 [.agg [.sl (cU aN) aN.length none,.sl abu 9 none],.agg (fA f),.sl (aJ l) l.length none] L K){L:List Blk}{K:aoY}(h:∀L',K (.bool true) L'):
  aoX 6 [.agg [.sl (us.flatMap rH) us.length cu,.sl (adm.map am) adm.length ca,.sl (gr rs) rs.length cr],.agg (.sl (who.map am) who.length H :: .sl (base.map am) base.length I :: .int .i64 scope::(fA f++[.sl (names.map AV.str) names.length cn,.bool tonly,.int .i64 size,.int .i64 time]))] L K:=by
 have w:Hid (∀{L:List Blk}{K:aoY},(∀b:Bool,(b=true->names.length<=20/\smU ⟨0,who,base,[]⟩=true/\aaN f)->K (.bool b) L)->aoX 20 [.agg (.sl (who.map am) who.length H :: .sl (base.map am) base.length I :: .int .i64 scope::(fA f++[.sl (names.map AV.str) names.length cn,.bool tonly,.int .i64 size,.int .i64 time]))] L K):=@hid _ (λ{L K} q=>agO hw.1 hd.1 hf hn q);have B:Hid (∀{L:List Blk}{K:aoY},(∀L',K (.tup [.agg [.nilptr,.nilptr,.nilptr,.sl [] 0 (some 0),.sl [] 0 (some 0)],.bool false]) L')->(∀L' it iv mn mi rt nb bn ck ci S c last l ib cb,aem L' it iv mn mi rt nb bn ck ci S c d9 last l->L'[ib]?=some (.cells [dnA adm,.sl (jt rs) rs.length cb])->dnM adm->(∀r∈rs,bkE aN r=0)->rs.length<=20->(l,last)=Fo d9 us->mT L L'->K (.tup [.agg [.ptr it 0,.ptr ib 0,.ptr rt 0,.sl (adm.map am) adm.length ca,.sl (gr rs) rs.length cr],.bool true]) L')->aoX 7 [.agg [.sl (us.flatMap rH) us.length cu,.sl (adm.map am) adm.length ca,.sl (gr rs) rs.length cr]] L K):=@hid _ (λ{L K} q0 q1=>agk hu c8 c6 U z (λ_=>q0) (λL' it iv mn mi rt nb bn ck ci S c last l ib cb a1 a2 a3 a4 a5 a6 _ a8=>q1 L' it iv mn mi rt nb bn ck ci S c last l ib cb a1 a2 a3 a4 a5 a6 a8));obtain⟨US,cc⟩:=aoT (us.flatMap rH);obtain⟨fk,fa,fv,fP,fp,fQ,fq,cx⟩:=ajV f;rw[cc]at B⊢;rw[cx]at V w⊢;simp only[apH,apx]at w⊢;obtain⟨TS,J⟩:=aoT (cU aN);obtain⟨tl,N⟩:=aoT (aN.length);obtain⟨CS,O⟩:=aoT (abu);have kk2:Hid (Ctr Tryz.prog 15 [] (.agg [.sl TS tl none,.sl CS 9 none])):=@hid _ (λ{L K} q=>afq (by rw[J,O,N];exact q));have kk1:=@hA;replace V:=@hid _ @V;replace h:=hid h;replace U:=hid U;replace hw:=hid hw;replace hd:=hid hd;replace J:=hid J;replace N:=hid N;replace O:=hid O;replace bt:=hid bt;clear hA hu cc z cx hf hn;refine aoW NW ?_;refine B.o (λL'=>?_) (λL' it iv mn mi rt nb bn ck ci S c last l ib cb s ad C ai c9 a_ bb=>?_);refine asw ?_;exact aa (h.o _);have ds:=s.len;refine sk ?_;have c':∀{X:List Blk},(L'++X)[L.length+1]?=some (.cells [.sl (who.map am) who.length H,.sl (base.map am) base.length I,.int .i64 scope,.int .i64 fk,.str fa,.str fv,.sl fP fp none,.sl fQ fq none,.sl (names.map AV.str) names.length cn,.bool tonly,.int .i64 size,.int .i64 time]):=λ{X}=>by have:=bb.2 (L.length+1) [.sl (who.map am) who.length H,.sl (base.map am) base.length I,.int .i64 scope,.int .i64 fk,.str fa,.str fv,.sl fP fp none,.sl fQ fq none,.sl (names.map AV.str) names.length cn,.bool tonly,.int .i64 size,.int .i64 time] asp rfl;rw[ao4 (aoZ.1 this).1];exact this
 replace s:=hid s;replace ad:=hid ad;replace C:=hid C;replace ai:=hid ai;replace a_:=hid a_;replace bb:=hid bb;clear B;refine wk ?_;refine w.o (λb hb=>?_);clear w;cases b with
 | false =>
   refine asw ?_;exact aa (h.o _)
 |true =>
 obtain⟨s1,s2,s3⟩:=hb rfl;have b_:dnM who:=by simp only[smU,ao3]at s2;exact acU s2.1 hw.o.2
 have b2:dnM base:=by simp only[smU,ao3]at s2;exact acU s2.2.1 hd.o.2
 have hq:∀{M:List Blk},bT M iv mn mi nb bn ck ci S d9 last l->M[ib]?=some (.cells [dnA adm,.sl (jt rs) rs.length cb])->∀{sz tm:Int}{X:List Blk}{K:aoY},K (srA (Ft aN l (λe n r=>aje adm rs who e n r) (λa=>ofM aN a f) base scope names tonly sz tm)) (M++X)->aoX 21 [.ptr iv 0,.agg [.sl TS tl none,.sl CS 9 none],.ptr ib 0,.agg [.sl (who.map am) who.length H,.sl (base.map am) base.length I,.int .i64 scope,.int .i64 fk,.str fa,.str fv,.sl fP fp none,.sl fQ fq none,.sl (names.map AV.str) names.length cn,.bool tonly,.int .i64 sz,.int .i64 tm],.sl [] 0 (some 0)] (M++X) K:=λ{M} hc hb {sz tm X K} q=>by
  have s:=s.o;have al:∀r∈rs,0<=r.who/\r.who<=4/\1<=r.rg/\r.rg<=15:=λr hr=>by have:=aka (ai.o r hr);exact⟨this.1,this.2.1,this.2.2.2.2.1,this.2.2.2.2.2⟩
  have E:=agm a_.o;rw[<- J.o,<- N.o,<- O.o];exact acV ⟨ny.1,ny.2.1⟩ s.ok aso (λx g=>⟨(s.av x g).1,λa z=>⟨(Og ny (E x g) z).1,(s.av x g).2 a z⟩⟩) b2.b aso bt.o bi (hc.app X) (aoU hb)
   (@hid _ (λx g n hn r hr {Y K} q=>ajd (by unfold V0;omega) al U.o hn aso C.o.b b_.b (s.ok.ok x g).m.b (by rw[apc,ao4 (aoZ.1 hb).1];exact hb) q))
   (@hid _ (λx g {Y K} q=>V.o s3 (afV (E x g)) (apk (ap4 _ _) (s.av x g).1) (λa z=>(s.av x g).2 a (apC.1 z).1) q)) q
 have t:=bb.o.2 (L.length+1) [.sl (who.map am) who.length H,.sl (base.map am) base.length I,.int .i64 scope,.int .i64 fk,.str fa,.str fv,.sl fP fp none,.sl fQ fq none,.sl (names.map AV.str) names.length cn,.bool tonly,.int .i64 size,.int .i64 time] asp rfl;obtain⟨Q1,bl⟩:=aoT (L'.set (L.length+1) (.cells [.sl (who.map am) who.length H,.sl (base.map am) base.length I,.int .i64 scope,.int .i64 fk,.str fa,.str fv,.sl fP fp none,.sl fQ fq none,.sl (names.map AV.str) names.length cn,.bool tonly,.int .i64 0,.int .i64 time]));obtain⟨Q,hQ⟩:=aoT (L'.set (L.length+1) (.cells [.sl (who.map am) who.length H,.sl (base.map am) base.length I,.int .i64 scope,.int .i64 fk,.str fa,.str fv,.sl fP fp none,.sl fQ fq none,.sl (names.map AV.str) names.length cn,.bool tonly,.int .i64 0,.int .i64 0]));have p:=(aoZ.1 t).1;have f1:∀A:Blk,(L'++[A]).set (L.length+1) (.cells [.sl (who.map am) who.length H,.sl (base.map am) base.length I,.int .i64 scope,.int .i64 fk,.str fa,.str fv,.sl fP fp none,.sl fQ fq none,.sl (names.map AV.str) names.length cn,.bool tonly,.int .i64 0,.int .i64 time])=Q1++[A]:=λA=>by rw[<- bl,ap3 _ _ p]
 have f2:∀A:Blk,(Q1++[A])[L.length+1]?=some (.cells [.sl (who.map am) who.length H,.sl (base.map am) base.length I,.int .i64 scope,.int .i64 fk,.str fa,.str fv,.sl fP fp none,.sl fQ fq none,.sl (names.map AV.str) names.length cn,.bool tonly,.int .i64 0,.int .i64 time]):=λA=>by rw[<- bl,ao4 (by simpa using p),aqL p]
 have f3:∀A:Blk,(Q1++[A]).set (L.length+1) (.cells [.sl (who.map am) who.length H,.sl (base.map am) base.length I,.int .i64 scope,.int .i64 fk,.str fa,.str fv,.sl fP fp none,.sl fQ fq none,.sl (names.map AV.str) names.length cn,.bool tonly,.int .i64 0,.int .i64 0])=Q++[A]:=λA=>by rw[<- bl,<- hQ,ap3 _ _ (by simpa using p),arK]
 have f4:∀X:List Blk,(Q++X)[L.length+1]?=some (.cells [.sl (who.map am) who.length H,.sl (base.map am) base.length I,.int .i64 scope,.int .i64 fk,.str fa,.str fv,.sl fP fp none,.sl fQ fq none,.sl (names.map AV.str) names.length cn,.bool tonly,.int .i64 0,.int .i64 0]):=λX=>by rw[<- hQ,ao4 (by simpa using p),aqL p]
 have cf:Q.length=L'.length:=by rw[<- hQ];simp
 have f5:∀(A:Blk) (X:List Blk),(Q++A::X)[L'.length]?=some A:=λA X=>by rw[<- cf];simp
 have ap:bT Q iv mn mi nb bn ck ci S d9 last l:=by rw[<- hQ];exact s.o.code.set t asp _
 have co:Q[it]?=some (.cells [.ptr iv 0]):=by rw[<- hQ,api (λe=>by rw[e,s.o.it]at t;simp at t)];exact s.o.it
 have bo:Q[ib]?=some (.cells [dnA adm,.sl (jt rs) rs.length cb]):=by rw[<- hQ,api (λe=>by rw[e,ad.o]at t;simp at t)];exact ad.o
 have f6:∀X:List Blk,(Q++X)[it]?=some (.cells [.ptr iv 0]):=λX=>aoU co
 obtain⟨P,hP⟩:∃P,P=(λ(e:List Rdn) (n:List UInt8) (r:Int)=>aje adm rs who e n r):=⟨_,rfl⟩;obtain⟨T,hT⟩:∃T,T=(λa:List Atr=>ofM aN a f):=⟨_,rfl⟩;rw[<- hP,<- hT]at hq;obtain⟨R,hR⟩:=aoT (Ft aN l P T base scope names tonly 0 0);have all:=aim hR;have cd:=hid (akQ (ts:=aN) (P:=P) (T:=T) (base:=base) (scope:=scope) (size:=0) (time:=0) (names:=names) (tonly:=tonly) s.o.ok.ok s.o.av);have cy:R.1.length<=1100000:=by have:=ail (ts:=aN) (l:=l) (P:=P) (T:=T) (base:=base) (scope:=scope) (names:=names) (tonly:=tonly);rw[hR]at this;omega
 have kk3:=@hid _ (@hq Q ap bo 0 0);rw[hR]at kk3;rw[hR]at cd;obtain⟨l1,e1,d1⟩:=R;simp only[srA,dnA]at kk3 cy cd all;clear t bl hQ hR cf;rcases all with⟨c1,rfl⟩|⟨rfl,c1,G⟩;have g1:decide (e1=0)=false:=decide_eq_false c1;have g2:lL []=[]:=rfl;refine asw ?_;exact aa (h.o _);obtain⟨SL,ar⟩:=aoT (scE l (bA l base) scope);have b3:∀x∈SL,x∈l:=λx g=>Yp (by rw[ar];exact g)
 have dg:SL.length<=1100000:=by rw[<- ar];exact apk abM aso
 obtain⟨a0,a9⟩:=aoT ((SL.map λx=>AV.int .i64 x.id));have kk4:Hid (CX Q 24 [.ptr iv 0,.sl (base.map am) base.length I] (.int .i64 (bA l base))):=@hid _ (λ{X K} q=>rG b2.b s.o.ok (ap.app X) q);have kk5:Hid (CX Q 23 [.ptr iv 0,.int .i64 (bA l base),.int .i64 scope] (.sl a0 SL.length none)):=@hid _ (λ{X K} q=>SQ s.o.ok aso (ap.app X) (by rw[afX c1,ar,apm,apq,<- a9]at *;exact q));rw[ar]at G;have c4:Hid (∀k,k<SL.length->a0.getD k .undef=.int .i64 (SL.getD k default).id/\k<a0.length):=hid (λk hk=>by rw[<- a9];exact⟨by simp[hk],by simpa using hk⟩);generalize bA l base=fd at kk4 kk5;obtain⟨F,hF⟩:=aoT (VH aN P T names tonly);rw[hF]at G;have E:=agm a_.o;have a':∀x∈l,∀a∈x.av,bI a.1:=λx g a z=>(Og ny (E x g) z).1
 have hE:Hid (∀x∈l,∀{X:List Blk}{K:aoY},K (.tup [dnA x.nm,.sl (aJ x.av) x.av.length none]) (Q++X)->aoX 25 [.ptr iv 0,.int .i64 x.id] (Q++X) K):=@hid _ (λx g {X K} q=>YG s.o.ok s.o.av (ap.app X) (λe=>by rw[s.o.ok.ent g]at e;cases e) (λy e=>by rw[s.o.ok.ent g]at e;cases e;exact q));have hM:Hid (∀x∈l,∀n,bI n->∀r,r=1\/r=2\/r=4->∀{X:List Blk}{K:aoY},K (.bool (P x.nm n r)) (Q++X)->aoX 26 [.ptr ib 0,.sl (who.map am) who.length H,.sl (x.nm.map am) x.nm.length none,.str n,.int .i64 r] (Q++X) K):=@hid _ (λx g n hn r hr {X K} q=>by
  have al:∀r∈rs,0<=r.who/\r.who<=4/\1<=r.rg/\r.rg<=15:=λr hr=>by have:=aka (ai.o r hr);exact⟨this.1,this.2.1,this.2.2.2.2.1,this.2.2.2.2.2⟩
  rw[hP]at q;exact ajd (by unfold V0;omega) al U.o hn aso C.o.b b_.b (s.o.ok.ok x g).m.b (aoU bo) q)
 have hS:Hid (∀x∈l,∀{X:List Blk}{K:aoY},K (.sl (aJ (eF (λn=>P x.nm n 4) x.av)) (eF (λn=>P x.nm n 4) x.av).length none) (Q++X)->aoX 28 [.ptr ib 0,.sl (who.map am) who.length H,.sl (x.nm.map am) x.nm.length none,.sl (aJ x.av) x.av.length none,.int .i64 4] (Q++X) K):=@hid _ (λx g {X K} q=>aiA (Q:=λn=>P x.nm n 4) (s.o.av x g).1 (s.o.av x g).2 (aoU bo) (@hid _ (λa z {Y K} q=>by rw[apc]at q⊢;exact hM.o x g a.1 (a' x g a z) 4 (.inr (.inr rfl)) q)) q);have hO:Hid (∀x∈l,∀{L:List Blk}{K:aoY},K (.int .i64 (T (eF (λn=>P x.nm n 4) x.av))) L->aoX 27 [.agg [.sl TS tl none,.sl CS 9 none],.agg [.int .i64 fk,.str fa,.str fv,.sl fP fp none,.sl fQ fq none],.sl (aJ (eF (λn=>P x.nm n 4) x.av)) (eF (λn=>P x.nm n 4) x.av).length none] L K):=@hid _ (λx g {L K} q=>by rw[hT]at q;rw[<- J.o,<- N.o,<- O.o];exact V.o s3 (afV (E x g)) (apk (ap4 _ _) (s.o.av x g).1) (λa z=>(s.o.av x g).2 a (apC.1 z).1) q)
 have hV:Hid (∀x∈l,∀n,bI n->∀{L:List Blk}{K:aoY},K (.sl ((gp x.av n).map AV.str) (gp x.av n).length none) L->aoX 29 [.sl (aJ x.av) x.av.length none,.str n] L K):=@hid _ (λx g n hn {L K} q=>aaY (s.o.av x g).1 (λa z=>⟨a' x g a z,(s.o.av x g).2 a z⟩) hn q);have c0:Hid (∀x∈l,∀a∈x.av,gp x.av a.1=a.2):=hid (λx g=>afK (E x g).1);have c7:=hid s.o.av;have cv:=hid s.o.ok.ok;have bx:=hid (λk (q:k<l1.length)=>ajR q);have c3:Hid ((lL l1).length=l1.length*2):=hid (ahz l1);obtain⟨FS,cm⟩:=aoT (lL l1);rw[cm]at bx c3 kk3;replace b3:=hid b3;replace G:=hid G;replace a':=hid a';replace hF:=hid hF;clear ar a9 hq c1 E hP hT V ap bo co s ad C ai a_ bb b_ b2 s1 s2 s3 U hw hd bt bi J N O cm hb p;refine asw ?_;refine ak (λm T' L2=>∃(k i:Nat) (X:List Blk),m=SL.length-k/\k<=SL.length/\i<=k/\Hid (i=((SL.take k).filterMap F).length)/\T'=[(72,.int .i64 (k:Int)),(71,.int .i64 SL.length),(70,.sl a0 SL.length none),(10,.int .i64 (i:Int)),(7,.sl FS l1.length none),(5,.ptr L'.length 0),(3,.ptr (L.length+1) 0)]/\L2=Q++(.cells [.ptr it 0,.ptr ib 0,.ptr rt 0,.sl (adm.map am) adm.length ca,.sl (gr rs) rs.length cr]::X)) ass ⟨0,0,[],rfl,ao2 _,ao0 _,hid asp,rfl,rfl⟩ ?_;clear kk3 kk4 kk5;rintro _ _ _ ⟨k,i,X,rfl,hk,dk,hc,rfl,rfl⟩;by_cases p:k<SL.length
 .have j1:(k:Int)<(SL.length:Int):=aso;have j2:=aoV k aso;obtain⟨j3,j4⟩:=c4.o k p;obtain⟨x,g⟩:=aoT (SL.getD k default);rw[g]at j3;have v:x∈l:=b3.o x (by rw[<- g];simp[p]);have n1:=λq=>alH (f:=F) (d:=default) p (show F (SL.getD k default)=none by rw[g];exact q)
  have n2:=λy q=>alG (f:=F) (d:=default) (y:=y) p (show F (SL.getD k default)=some y by rw[g];exact q)
  have kk3:=@hid _ (@Hid.o _ hE x v);have kk4:=@hid _ (@Hid.o _ hM x v [] (by simp[bI]) 1 (.inl rfl));have kk5:=@hid _ (@Hid.o _ hS x v);have kk6:=@hid _ (@Hid.o _ hO x v);have kk7:Hid (Ctr Tryz.prog 12 [.sl (x.nm.map am) x.nm.length none,.sl (x.nm.map am) x.nm.length none] (.bool true)):=@hid _ (λ{L K} q=>ak3 (cv.o x v).m.b.1 (cv.o x v).m.b.2 q);have hf:F x=if(P x.nm [] 1&&decide (T (eF (λn=>P x.nm n 4) x.av)=1))=true then some (x.nm,iR aN names tonly (eF (λn=>P x.nm n 2) x.av))else none:=by rw[<- hF.o];rfl
  have b':=hid (a'.o x v);have ce:=hid (c7.o x v);have b5:=hid (c0.o x v);have cp:=hid (λn hn=>@Hid.o _ hM x v n hn 2 (.inr (.inl rfl)));have ch:=hid (@Hid.o _ hV x v);obtain⟨pb,b4⟩:=aoT (P x.nm [] 1);obtain⟨A4,b6⟩:=aoT (eF (λn=>P x.nm n 4) x.av);obtain⟨tv,b1⟩:=aoT (T A4);rw[b4,b6,b1]at hf;rw[b4]at kk4;rw[b6]at kk5 kk6;rw[b1]at kk6;obtain⟨xi,xn,xv⟩:=x;simp only[dnA]at kk3 kk4 kk5 kk6 kk7 hf j3 b' ce b5 cp ch;clear g b4 b6 b1 v;by_cases D:pb=true/\tv=1;rotate_left;rw[if_neg (by simpa using D)]at hf;have bs:Hid (i=((SL.take (k+1)).filterMap F).length):=hid (by rw[n1 hf];exact hc.o);clear hf n1 n2 hc;cases pb with
  | false =>
    clear D;refine wk ?_;exact ast aso asr ⟨k+1,i,_,rfl,p,aso,bs,rfl,rfl⟩
  | true =>
    have g4:decide (tv=1)=false:=(by simpa using D);clear D;refine wk ?_;exact ast aso asr ⟨k+1,i,_,rfl,p,aso,bs,rfl,rfl⟩
  obtain⟨rfl,rfl⟩:=D;rw[if_pos asp]at hf;obtain⟨W,hW⟩:=aoT (iR aN names tonly (eF (λn=>P xn n 2) xv));rw[hW]at hf;obtain⟨m1,m2⟩:=n2 _ hf;have cs:Hid (∀a∈W,bI a.1/\P xn a.1 2=true/\(tonly=true->a.2=[])/\(tonly=false->a.2.length=(gp xv a.1).length)):=hid (λa z=>by rw[<- hW]at z;obtain⟨b,hb,rfl⟩:=ao6.1 z;obtain⟨c1,c2⟩:=apC.1 (apC.1 hb).1;exact⟨b'.o b c1,c2,λe=>by simp[e],λe=>by simp[e,b5.o b c1]⟩)
  have bi:i<l1.length:=(by rw[hc.o,G.o,m2];simp);have b0:l1.getD i ([],[])=(xn,W):=(by rw[G.o,m2,hc.o];simp);obtain⟨q1,q2⟩:=bx.o i bi;rw[b0]at q1 q2;simp only at q1 q2;have cl:=c3.o;have q3:i*2<FS.length:=aso;have q4:i*2+1<FS.length:=aso;have g3:decide ((l1.length:Int)<=(i:Int))=false:=decide_eq_false aso;have bs:Hid (i+1=((SL.take (k+1)).filterMap F).length):=hid (by rw[m1,hc.o];simp);have dn:W.length<=1100000:=by rw[<- hW];unfold iR;rw[apm];exact apk (ap4 _ _) (apk (ap4 _ _) ce.o.1)
  have j6:=aoV i aso;clear hf n1 n2 hc m1 m2 hW b0 cl b' b5;refine wk ?_;refine ak (λm T' L2=>∃(j:Nat) (Z:List Blk),m=W.length-j/\j<=W.length/\X.length<=Z.length/\T'=[(128,.int .i64 (j:Int)),(127,.int .i64 W.length),(126,.sl (aJ W) W.length none),(14,.sl (aJ xv) xv.length none),(13,.sl (xn.map am) xn.length none),(72,.int .i64 (k:Int)),(71,.int .i64 SL.length),(70,.sl a0 SL.length none),(10,.int .i64 (i:Int)),(7,.sl FS l1.length none),(5,.ptr L'.length 0),(3,.ptr (L.length+1) 0)]/\L2=Q++(.cells [.ptr it 0,.ptr ib 0,.ptr rt 0,.sl (adm.map am) adm.length ca,.sl (gr rs) rs.length cr]::Z)) ass ⟨0,X,rfl,ao2 _,ao0 _,rfl,rfl⟩ ?_;clear kk3 kk4 kk5 kk6 kk7;rintro _ _ _ ⟨j,Z,rfl,hj,d0,rfl,rfl⟩;by_cases bk:j<W.length;have i1:(j:Int)<(W.length:Int):=aso;have i2:=aoV j aso;have i3:=jD bk;have i4:j*2+2<=(aJ W).length:=(by rw[iH];omega);obtain⟨⟨an,av⟩,z⟩:∃a,W.getD j ([],[])=a:=⟨_,rfl⟩;obtain⟨w1,w2,w3,w4⟩:=cs.o (an,av) (by rw[<- z];simp[bk]);rw[z]at i3;simp only[atA]at i3 w1 w2 w3 w4;have kk3:=@hid _ (@Hid.o _ cp an w1);rw[w2]at kk3;have kk4:=@hid _ (@Hid.o _ ch an w1);obtain⟨VV,ct⟩:=aoT (gp xv an);rw[ct]at kk4 w4;clear z w1 w2 ct;cases tonly with
  | false =>
    have w5:=w4 rfl;clear w3 w4;have w6:decide ((av.length:Int)=(VV.length:Int))=true:=decide_eq_true aso;refine wk ?_;exact ast aso (CutL (b:=by simp;omega)) ⟨j+1,_,rfl,bk,by simp;omega,rfl,rfl⟩
  | true =>
    have w5:=w3 rfl;subst w5;clear w3 w4;refine wk ?_;exact ast aso (CutL (b:=by simp;omega)) ⟨j+1,_,rfl,bk,by simp;omega,rfl,rfl⟩
  have i1:¬(j:Int)<(W.length:Int):=aso;refine wk ?_;exact ast aso asr ⟨k+1,i+1,_,rfl,p,aso,bs,rfl,rfl⟩
 have c5:k=SL.length:=aso;have j1:¬(k:Int)<(SL.length:Int):=aso;have c_:decide ((i:Int)=(l1.length:Int))=true:=decide_eq_true (by rw[hc.o,G.o,apA aso]);clear hc c5 p;refine wk ?_;exact aa (h.o _)
open Go Go.ChangeShapes Go.WideShapes Go.ChangeAt
def RdW(F:Nat)(P:Program)(t:TypeId){X:Type}(ec:X->List AV)(ok:X->Prop):Prop :=
 ∀(H:Type) (enc:TypeId×Value->H) (w:World) (fuel:Nat) (cs:List Value) (x:DataW H×List MemPlace),fuel<F ->
  DataW.trod enc P w 0 (λ_=>true) true fuel t cs=some x->(∀n∈x.1.weights P t,n<=reachBytes)->∃y,ok y/\VRL (ni w) (ec y) cs
theorem RdW.mono{G:Nat}{P:Program}{b:X->List AV}{ok:X->Prop}(h:RdW G P t b ok)(e:F<=G):RdW F P t b ok:=λH enc w a cs x f d c=>h H enc w a cs x aso d c
theorem RdZ.w{P:Program}{b:X->List AV}{ok:X->Prop}(h:RdZ P t b ok)(F:Nat):RdW F P t b ok:=λH enc w a cs x _ d c=>h H enc w a cs x d c
theorem RdW.z{P:Program}{b:X->List AV}{ok:X->Prop}(h:∀F,RdW F P t b ok):RdZ P t b ok:=λH enc w a cs x d c=>h (a+1) H enc w a cs x (Nat.lt_succ_self _) d c
theorem RdW.map{P:Program}{Y:Type}{d:X->List AV}{ok:X->Prop}{a:Y->List AV}{b:Y->Prop}(h:RdW F P t d ok)(m:∀y,ok y->∃z,b z/\a z=d y):RdW F P t a b:=λH enc w c cs x j e i=>by obtain⟨y,k,g⟩:=h H enc w c cs x j e i;obtain⟨z,f,h4⟩:=m y k;exact⟨z,f,by rw[h4];exact g⟩
theorem ag2{P:Program}{e:TypeId}{E:X->List AV}{ok:X->Prop}(U:P.underlying t=some (.slice e))(he:RdW F P e E ok)(K:decide (0<P.cellsOf e)=true):
  RdW (F+1) P t (λl:List X=>[.sl (l.flatMap E) l.length none]) (λl=>l.length<=maxLen/\∀y∈l,ok y):=λH enc w R cs x hF hx L=>by
 have hz:0<P.cellsOf e:=of_decide_eq_true K;rcases DataW.trod_slice U hx with⟨rfl,_⟩|⟨a,len,cap,elems,rest,n,ai,rfl,rfl,_,al,Y,ad,p,f,_⟩;exact⟨[],⟨asp,asp⟩,by simp only[VRL,VR];exact⟨_,_,rfl,⟨none,0,rfl,ao0 _,asp,.inl ⟨rfl,rfl,rfl⟩⟩,rfl⟩⟩;have c:cap≠0->a.spot=none:=λM=>by
  have g:∀r:Option (DataW H×List MemPlace),r≠none->(w.cells? 0 (a.add (0*P.cellsOf e)) (P.cellsOf e)).bind (DataW.trod enc P w 0 (λ_=>true) true n e)=r->a.spot=none:=λr Z A=>by obtain⟨q,rfl⟩:=Option.ne_none_iff_exists'.1 Z;rw[aqC]at A;obtain⟨h,z,_⟩:=A;obtain⟨h6,N⟩:=EU z;have G:=N 0 hz;obtain⟨v,hv⟩:∃v,h[0]?=some v:=⟨h[0]'aso,ao8 _⟩;rw[hv]at G;have:=abA G;simpa[Addr.add]using this
  by_cases V:len=0;obtain⟨r1,r2⟩:=f rfl;exact g rest[0]? (by rw[ao8 aso];simp) (by simpa[V]using r2 0 aso)
  exact g elems[0]? (by rw[ao8 aso];simp) (p 0 aso)
 have C:∀i,i<len->∃y,ok y/\(E y).length=P.cellsOf e/\a.spot=none/\VRC (ni w) (E y) a.block (a.off+i*P.cellsOf e):=λi J=>by
  have A:=p i J;obtain⟨q,Q⟩:∃q,elems[i]?=some q:=⟨elems[i]'aso,ao8 _⟩;rw[Q,aqC]at A;obtain⟨h,z,h3⟩:=A;obtain⟨y,h4,T⟩:=he H enc w n h q aso h3 (λm hm=>L m (by simp only[DataW.weights,U];refine aqu _ (aqh _ (rR (d:=q.1) ?_ m hm));exact ao6.2 ⟨q,apR Q,rfl⟩))
  obtain⟨h6,N⟩:=EU z;have V:=T.length;have f:a.spot=none:=c aso;refine⟨y,h4,aso,f,VRC.of_get λj u W=>?_⟩;obtain⟨v,G,h9⟩:=T.get W;refine⟨v,?_,h9⟩;have hj:j<P.cellsOf e:=by have:=(aoZ.1 W).1;omega
  have D:=N j hj;rw[G]at D;rw[<- D];have B:∀k,a.add k=⟨a.block,a.off+k,none⟩:=λk=>by obtain⟨b,o,s⟩:=a;simp only at f;subst f;exact Addr.add_mk b o k
  rw[B,Addr.add_mk];rfl
 obtain⟨O,A,z⟩:=V9 _ len C;refine⟨O,⟨aso,λy I=>?_⟩,?_⟩;obtain⟨i,J⟩:=arV I;exact(z i y J).1;simp only[VRL];refine⟨_,[],rfl,?_,rfl⟩;simp only[VR];refine⟨_,_,by rw[A],aso,asp,?_⟩;by_cases M:cap=0;have:O=[]:=by have:O.length=0:=aso;simpa using this
 subst this;exact .inl ⟨rfl,M,rfl⟩;refine .inr ⟨a.block,a.off,?_,aal λi y I=>⟨(z i y I).2.1,(z i y I).2.2.2⟩⟩;have S:a.spot=none:=c M;cases a;simp only at S⊢;rw[S]
def al9(F:Nat)(P:Program)(N o:Nat)(fs:List Field){X:Type}(ec:X->List AV)(ok:X->Prop):Prop :=
 ∀(H:Type) (enc:TypeId×Value->H) (w:World) (n:Nat) (cs:List Value),n<F->cs.length=N ->
  (∀f∈fs,∃x,DataW.trod enc P w 0 (λ_=>true) true n f.type ((cs.drop f.offset).take (P.cellsOf f.type))=some x/\∀m∈x.1.weights P f.type,m<=reachBytes)->∃y,ok y/\VRL (ni w) (ec y) (cs.drop o)
theorem aiR{P:Program}{o:Nat}(h:o=N):al9 F P N o [] (λ_:Unit=>[]) (λ_=>True):=λH enc w n cs _ a _ =>
 ⟨(),trivial,by simp[VRL,h,<- a]⟩
theorem wV{P:Program}{o sz:Nat}{f:Field}{d:List Field}{Y:Type}{e:X->List AV}{ok:X->Prop}{a:Y->List AV}{b:Y->Prop}(q:f.offset=o)(u:P.cellsOf f.type=sz)(h:RdW F P f.type e ok)(r:al9 F P N (o+sz) d a b):
  al9 F P N o (f::d) (λy:X×Y=>e y.1++a y.2) (λy=>ok y.1/\b y.2):=λH enc w n cs i p c=>by
 obtain⟨x,t,k⟩:=c f asp;obtain⟨y,m,l⟩:=h H enc w n _ x i t k;obtain⟨z,h4,j⟩:=r H enc w n cs i p λg s=>c g (by simp[s])
 refine⟨(y,z),⟨m,h4⟩,?_⟩;have:cs.drop o=(cs.drop f.offset).take (P.cellsOf f.type)++cs.drop (o+sz):=by rw[q,u,<- arP,aqy]
 rw[this];exact l.append j
theorem aeG{P:Program}{e:Array Field}{p:X->List AV}{ok:X->Prop}(l:P.underlying t=some (.struct e))(z:P.cellsOf t=N)(r:al9 F P N 0 e.toList p ok):RdW (F+1) P t p ok:=λH enc w o cs x D q h=>by
 subst z;obtain⟨xs,n,v,rfl,A,b,B⟩:=DataW.trod_struct l q;obtain⟨y,C,u⟩:=r H enc w n cs aso A λf k=>by
  obtain⟨i,c⟩:=arV k;have g:e[i]?=some f:=(by simpa using c);rw[B i f g];have a:i<xs.length:=by rw[b];have:=(aoZ.1 c).1;simpa using this
  refine⟨xs[i],ao8 a,λm s=>h m ?_⟩;simp only[DataW.weights,l];refine DataW.weights_mem_each (j:=i) (t:=f.type) (d:=xs[i].1) ?_ ?_ m s;rw[apS,c];rfl;rw[apS,ao8 a];rfl
 exact⟨y,C,by simpa using u⟩
open Go Go.ChangeShapes
theorem alh:RdZ Tryz.prog 101 pu (λa=>a.1.length<=reachBytes):=
 (jF Tryz.underlying101 (N:=2) asq (bF (sz:=1) rfl asq (kG Tryz.underlying9) (bF (sz:=1) rfl asq (kG Tryz.underlying9) (rX rfl)))).map
  λy b=>⟨(y.1,y.2.1),b.1,rfl⟩
theorem alg:RdZ Tryz.prog 99 (λr:Rdn=>[am r]) (λr=>r.length<=maxLen/\∀a∈r,a.1.length<=reachBytes):=
 (jT Tryz.underlying99 alh asq).map λl b=>⟨l,b,rfl⟩
theorem YS:RdZ Tryz.prog 24 (λd:List Rdn=>[dnA d]) (λd=>Ox d/\∀r∈d,∀a∈r,(a.1.length:Int)<=140737488351232):=
 (jT Tryz.underlying24 alg asq).map fun l hl=>⟨l,⟨⟨by have:=hl.1;simp only [maxLen] at this;omega,fun r hr=>by have:=(hl.2 r hr).1;simp only [maxLen] at this;omega⟩,fun r hr a ha=>by have:=(hl.2 r hr).2 a ha;simp only [reachBytes] at this;omega⟩,by
  have e:∀l:List Rdn,l.map am=l.flatMap λr=>[am r]:=λl=>by
   induction l with
   |nil=>rfl
   |cons a l ih=>rw[apv,apD,ih];rfl
  simp only[dnA,e l]⟩
theorem aiP:RdZ Tryz.prog 50 (λl:List (List UInt8)=>[Ta l]) (λl=>l.length<=maxLen):=
 (jT Tryz.underlying50 (kG Tryz.underlying9) asq).map fun l hl=>⟨l,hl.1,by
  have e:∀l:List (List UInt8),l.map AV.str=l.flatMap λr=>[AV.str r]:=λl=>by
   induction l with
   |nil=>rfl
   |cons a l ih=>rw[apv,apD,ih];rfl
  simp only[Ta,e l]⟩
theorem ali:RdZ Tryz.prog 86 atA (λa=>a.1.length<=reachBytes/\a.2.length<=maxLen):=
 (jF Tryz.underlying86 (N:=2) asq (bF (sz:=1) rfl asq (kG Tryz.underlying9) (bF (sz:=1) rfl asq aiP (rX rfl)))).map
  λy b=>⟨(y.1,y.2.1),⟨b.1,b.2.1⟩,rfl⟩
theorem aiO:RdZ Tryz.prog 40 rH afw :=
 (jF Tryz.underlying40 (N:=4) asq (bF (sz:=1) rfl asq (Rd.z (JV Tryz.underlying3)) (bF (sz:=1) rfl asq YS (bF (sz:=1) rfl asq YS (bF (sz:=1) rfl asq (jT Tryz.underlying38 ali asq) (rX rfl)))))).map
  λy b=>⟨⟨y.1,y.2.1,y.2.2.1,y.2.2.2.1⟩,⟨b.2.1,b.2.2.1,by have:=b.2.2.2.1.1;simp only[maxLen]at this⊢;omega,λa c=>by obtain⟨d,e⟩:=b.2.2.2.1.2 a c;simp only[maxLen]at e;simp only[reachBytes]at d;omega⟩,rfl⟩
theorem agZ:RdZ Tryz.prog 22 (λl:List Upd=>[.sl (l.flatMap rH) l.length none]) (λl=>(l.length:Int)<=9223372036854775807/\∀u∈l,afw u):=
 (jT Tryz.underlying22 aiO asq).map λl a=>⟨l,⟨by have:=a.1;simp only[maxLen]at this;omega,a.2⟩,rfl⟩
open Go Go.ChangeShapes
theorem alf:RdZ Tryz.prog 103 XP (λr=>bI r.at_):=
 (jF Tryz.underlying103 (N:=6) asq (bF (sz:=1) rfl asq (Rd.z (JV Tryz.underlying3)) (bF (sz:=1) rfl asq (kG Tryz.underlying9) (bF (sz:=1) rfl asq (kG Tryz.underlying9) (bF (sz:=1) rfl asq (kG Tryz.underlying9) (bF (sz:=1) rfl asq (Rd.z (JV Tryz.underlying3)) (bF (sz:=1) rfl asq (Rd.z (afZ Tryz.underlying4)) (rX rfl)))))))).map
  λy a=>⟨⟨y.1,y.2.1,y.2.2.1,y.2.2.2.1,y.2.2.2.2.1,y.2.2.2.2.2.1⟩,by have:=a.2.2.2.1;simp only[reachBytes]at this;unfold bI;simp only;omega,rfl⟩
abbrev Wld:=List Upd×List Rdn×List Rul
abbrev aoG(w:Wld):List AV:=[.sl (w.1.flatMap rH) w.1.length none,dnA w.2.1,.sl (gr w.2.2) w.2.2.length none]
structure aoR(w:Wld):Prop where
 un:(w.1.length:Int)<=9223372036854775807
 uq:∀u∈w.1,afw u
 ad:Ox w.2.1/\∀r∈w.2.1,∀a∈r,(a.1.length:Int)<=140737488351232
 rn:(w.2.2.length:Int)<=9223372036854775807
 ra:∀r∈w.2.2,bI r.at_
theorem ale:RdZ Tryz.prog 27 aoG aoR :=
 (jF Tryz.underlying27 (N:=3) asq (bF (sz:=1) rfl asq agZ (bF (sz:=1) rfl asq YS (bF (sz:=1) rfl asq (jT Tryz.underlying25 alf asq) (rX rfl))))).map
  λy a=>⟨(y.1,y.2.1,y.2.2.1),⟨a.1.1,a.1.2,a.2.1,by have:=a.2.2.1.1;simp only[maxLen]at this;simp only;omega,a.2.2.1.2⟩,rfl⟩
theorem aeF:RdZ Tryz.prog 50 (λl:List (List UInt8)=>[Ta l]) (λl=>(l.length:Int)<=9223372036854775807/\∀v∈l,bI v):=
 (jT Tryz.underlying50 (kG Tryz.underlying9) asq).map fun l hl=>⟨l,⟨by have:=hl.1;simp only [maxLen] at this;omega,fun v hv=>by have:=hl.2 v hv;simp only [reachBytes] at this;unfold bI;omega⟩,by
  have e:∀l:List (List UInt8),l.map AV.str=l.flatMap λr=>[AV.str r]:=λl=>by
   induction l with
   |nil=>rfl
   |cons a l ih=>rw[apv,apD,ih];rfl
  simp only[Ta,e l]⟩
open Go Go.ChangeShapes
theorem aiQ:RdZ Tryz.prog 202 pcA (λp=>(p.2.length:Int)<=140737488351232):=
 (jF Tryz.underlying202 (N:=2) asq (bF (sz:=1) rfl asq (Rd.z (JV Tryz.underlying3)) (bF (sz:=1) rfl asq (kG Tryz.underlying9) (rX rfl)))).map
  λy a=>⟨(y.1,y.2.1),by have:=a.2.1;simp only[reachBytes]at this;simp only;omega,rfl⟩
theorem Zy:∀l:List Flt,l.flatMap fA=fsA l
 |[]=>rfl
 |f::r=>by rw[apD,Zy r,fsA]
theorem ag0:RdZ Tryz.prog 66 fA ahY:=RdW.z λF=>by
 induction F with
 |zero=>exact λH enc w b cs x d=>absurd d (arc _)
 | succ F ih =>
   exact(aeG Tryz.underlying66 (N:=5) asq (wV (sz:=1) rfl asq (RdZ.w (Rd.z (JV Tryz.underlying3)) F) (wV (sz:=1) rfl asq (RdZ.w (kG Tryz.underlying9) F) (wV (sz:=1) rfl asq (RdZ.w (kG Tryz.underlying9) F)
    (wV (sz:=1) rfl asq (RdZ.w (jT Tryz.underlying63 aiQ asq) F) (wV (sz:=1) rfl asq ((ag2 Tryz.underlying64 ih asq).mono (Nat.le_succ F)) (aiR rfl))))))).map
    λy a=>⟨.mk y.1 y.2.1 y.2.2.1 y.2.2.2.1 y.2.2.2.2.1,⟨a.2.1,a.2.2.1,a.2.2.2.1.1,λp c=>by have:=a.2.2.2.1.2 p c;omega,a.2.2.2.2.1.1,acF a.2.2.2.2.1.2⟩,by rw[VJ];simp only[Zy,rI,apH,apx,apG]⟩
structure amw where
 who:List Rdn
 base:List Rdn
 scope:Int
 f:Flt
 names:List (List UInt8)
 tonly:Bool
 size:Int
 time:Int
abbrev anl(a:amw):List AV:=dnA a.who::dnA a.base :: .int .i64 a.scope::(fA a.f++[.sl (a.names.map AV.str) a.names.length none,.bool a.tonly,.int .i64 a.size,.int .i64 a.time])
structure aoS(a:amw):Prop where
 who:Ox a.who/\∀r∈a.who,∀v∈r,(v.1.length:Int)<=140737488351232
 base:Ox a.base/\∀r∈a.base,∀v∈r,(v.1.length:Int)<=140737488351232
 f:ahY a.f
 nl:(a.names.length:Int)<=9223372036854775807
 nz:∀n∈a.names,bI n
theorem ag1:RdZ Tryz.prog 68 anl aoS :=
 (jF Tryz.underlying68 (N:=12) asq (bF (sz:=1) rfl asq YS (bF (sz:=1) rfl asq YS (bF (sz:=1) rfl asq (Rd.z (JV Tryz.underlying3)) (bF (sz:=5) rfl asq ag0 (bF (sz:=1) rfl asq aeF (bF (sz:=1) rfl asq (Rd.z (afZ Tryz.underlying4)) (bF (sz:=1) rfl asq (Rd.z (JV Tryz.underlying3)) (bF (sz:=1) rfl asq (Rd.z (JV Tryz.underlying3)) (rX rfl)))))))))).map
  λy a=>⟨⟨y.1,y.2.1,y.2.2.1,y.2.2.2.1,y.2.2.2.2.1,y.2.2.2.2.2.1,y.2.2.2.2.2.2.1,y.2.2.2.2.2.2.2.1⟩,⟨a.1,a.2.1,a.2.2.2.1,a.2.2.2.2.1.1,a.2.2.2.2.1.2⟩,by simp only[Ta,apH,apx,apG]⟩
variable {L:List Blk}{K:aoY}
theorem adh{b:List UInt8}(h:K (.tup [.int .i64 ((tx syn a b).getD 0),.bool (tx syn a b).isSome]) L):aoX 75 [.int .i64 syn,.str a,.str b] L K:=by refine adg ?_;revert h;rcases tx syn a b with _|c<;>exact λh=>h
theorem alp(h:K (.tup [.str ((dl syn v).getD []),.bool (dl syn v).isSome]) L):aoX 68 [.int .i64 syn,.str v] L K:=by refine iS ?_;revert h;rcases dl syn v with _|c<;>exact λh=>h
theorem alt{l:List Pc}{cap:Option Nat}(b:l.length<=1000)(a:∀p∈l,(p.2.length:Int)<=140737488351232)(h:K (.tup [.bool ((Nz syn v l).getD false),.bool (Nz syn v l).isSome]) L):
  aoX 74 [.int .i64 syn,.str v,.sl (rI l) l.length cap] L K:=by
 refine aeW aso a ?_;revert h;rcases Nz syn v l with _|c<;>exact λh=>h
theorem amG{b:Bool}(h:K (.int .i64 (tf1 b)) L):aoX 69 [.bool b] L K:=by
 cases b with
 | false =>
   replace h:Hid (K (.int .i64 0) L):=hid h;refine aoW NG ?_;exact aa h.o
 | true =>
   replace h:Hid (K (.int .i64 1) L):=hid h;refine aoW NG ?_;exact aa h.o
theorem anV{ty:Typ}{x:List UInt8}{ps:List Pc}{cp:Option Nat}{ks:AV}{g f:Nat}{L:List Blk}(j:L[g]?=some (.cells (tyC ty)))(l:L[f]?=some (.cells [.int .i64 k,.str a,.str v,.sl (rI ps) ps.length cp,ks]))(i:ps.length<=1000)(d:∀p∈ps,(p.2.length:Int)<=140737488351232){K:aoY}(h:K (.bool ((Nz ty.2.1 x ps).getD false)) L):aoX 73 [.str x,.ptr g 0,.ptr f 0] L K:=by
 obtain⟨r,c⟩:=aoT ((Nz ty.2.1 x ps).getD false);obtain⟨b,e⟩:=aoT ((Nz ty.2.1 x ps).isSome);have kk1:Hid (Ctr Tryz.prog 74 [.int .i64 ty.2.1,.str x,.sl (rI ps) ps.length cp] (.tup [.bool r,.bool b])):=hid λq=>alt i d (by rw[c,e];exact q)
 rw[c]at h;replace h:=hid h;simp only[tyC]at j;clear c e d;refine aoW X0 ?_;exact aa h.o
theorem amk{ty:Typ}{x:List UInt8}{ps ks:AV}{f e:Nat}{L:List Blk}(i:L[f]?=some (.cells (tyC ty)))(m:L[e]?=some (.cells [.int .i64 k,.str a,.str v,ps,ks])){K:aoY}(h:K (.bool (decide ((tx ty.2.1 x v).getD 0=0) ||(decide (0<(tx ty.2.1 x v).getD 0) == decide (k=5)))) L):aoX 76 [.str x,.ptr f 0,.ptr e 0] L K:=by
 obtain⟨r,c⟩:=aoT ((tx ty.2.1 x v).getD 0);obtain⟨b,d⟩:=aoT ((tx ty.2.1 x v).isSome);have kk1:Hid (Ctr Tryz.prog 75 [.int .i64 ty.2.1,.str x,.str v] (.tup [.int .i64 r,.bool b])):=hid λq=>adh (by rw[c,d];exact q)
 rw[c]at h;replace h:=hid h;simp only[tyC]at i;clear c d;refine aoW XZ ?_;refine aa (Kto h.o (congrArg AV.bool ?_));by_cases l:r=0<;>by_cases g:0<r<;>by_cases j:k=5<;>simp[l,g,j]
theorem aoJ{j:Option Nat}{c2:List AV}{n2:Nat}{r:Option Nat}{l:List Atr}{cap:Option Nat}(I:aki ts)(Q:InA ts l)(hl:l.length<=1100000)(hz:∀a∈l,a.2.length<=1100000):∀(f:Flt),aaN f->∀{L:List Blk}{K:aoY},K (.int .i64 (ofM ts l f)) L ->
  aoX 27 [.agg [.sl (cU ts) ts.length j,.sl c2 n2 r],.agg (fA f),.sl (aJ l) l.length cap] L K:=by
 refine ack λk a v ps ks ih ad L K h=>?_
 simp only[FlB]at ad;obtain⟨r1,r2,r3,r4,r5,r6⟩:=ad;have G:∀x∈ks,∀{L:List Blk}{K:aoY},K (.int .i64 (ofM ts l x)) L->aoX 27 [.agg [.sl (cU ts) ts.length j,.sl c2 n2 r],.agg (fA x),.sl (aJ l) l.length cap] L K:=λx hx {L K} q=>ih x hx (aao r6 x hx) q
 replace G:=@hid _ @G;clear ih r6;rw[ofM,adj]at h;rw[VJ];obtain⟨PS,u⟩:∃P,P=rI ps:=⟨_,rfl⟩;obtain⟨F,z⟩:∃P,P=fsA ks:=⟨_,rfl⟩;rw[<- u,<- z];replace u:=hid u;replace z:=hid z;by_cases O:k=0\/k=1\/k=2;rw[if_pos O]at h;obtain⟨V,hV⟩:∃V,V=ks.map (ofM ts l):=⟨_,rfl⟩;rw[<- hV]at h;replace hV:=hid hV;replace h:=hid h;have c:V.length=ks.length:=by rw[hV.o];simp
 have e2:∀A B:Blk,(L++[A,B]).length=L.length+2:=λA B=>asp
 have t:∀i:Nat,i<ks.length->∃q:Flt,Hid ((F.drop (i*5)).take 5=fA q/\i*5+5<=F.length/\(∀{L:List Blk}{K:aoY},K (.int .i64 (ofM ts l q)) L->aoX 27 [.agg [.sl (cU ts) ts.length j,.sl c2 n2 r],.agg (fA q),.sl (aJ l) l.length cap] L K)/\(i:Int)<(ks.length:Int)/\IntKind.i64.wrap ((i:Int)+1)=(i:Int)+1/\(V.take (i+1)).map (AV.int .i64)=(V.take i).map (AV.int .i64)++[.int .i64 (ofM ts l q)]):=λi g=>by
  refine⟨ks.getD i af8,hid ⟨?_,?_,?_,aso,ae aso aso,?_⟩⟩;rw[z.o];exact afk g;rw[z.o,aci];omega;exact λq=>G.o _ (by simp[g]) q
  rw[aph aso,apz];congr 1;simp[hV.o,g]
 refine ab wp (by simp[jK]) ?_;simp only[jK,ag];rcases O with rfl|rfl|rfl;refine wk ?_;refine bR (l:=[]) (n:=0) 7 1 rfl (aps 1).symm ?_;rw[e2];refine ak (λm T' L'=>∃(i:Nat) (C:List AV) (Y:List Blk),m=ks.length-i/\i<=ks.length/\Hid (C=(V.take i).map (AV.int .i64))/\T'=[(26,.int .i64 (i:Int)),(25,.int .i64 ks.length),(24,.sl F ks.length none),(7,.gsl C i (L.length+2) 1),(4,.ptr (L.length+1) 0),(3,.ptr L.length 0),(2,.sl (aJ l) l.length cap)]/\L'=L++(.cells [.sl (cU ts) ts.length j,.sl c2 n2 r] :: .cells [.int .i64 0,.str a,.str v,.sl PS ps.length none,.sl F ks.length none] :: .spare i 1::Y)) ass ⟨0,[],[],rfl,ao2 _,hid rfl,rfl,asp⟩ ?_;rintro _ _ _ ⟨i,C,Y,rfl,hi,w,rfl,rfl⟩;by_cases g:i<ks.length;obtain⟨q,J⟩:=t i g;obtain⟨e3,e4,N,g1,g2,M⟩:=J.o;have kk1:=@hid _ @N;clear N J;have d:=hid (show C++[.int .i64 (ofM ts l q)]=(V.take (i+1)).map (AV.int .i64)by rw[w.o,M]);clear M;simp only[abo]at e3 kk1;refine wk ?_;exact ast aso ass ⟨i+1,_,_,rfl,g,d,rfl,rfl⟩;have E:i=ks.length:=aso;subst E;have g1:¬(ks.length:Int)<(ks.length:Int):=aso;have d:=w.o;rw[<- c,apg]at d;subst d;clear w t;replace c:=hid c;have kk1:Hid (∀{i:Nat}{L:List Blk}{K:aoY},K (.int .i64 (acz V)) L->aoX 64 [.gsl (V.map (AV.int .i64)) ks.length i 1] L K):=hid λq=>by rw[<- c.o];exact WO (by have:=c.o;omega) q
 have U:=hid (show K (.int .i64 (acz V)) L by have:=h.o;simpa[adB]using this);refine wk ?_;exact ac rfl U.o;refine wk ?_;refine bR (l:=[]) (n:=0) 7 1 rfl (aps 1).symm ?_;rw[e2];refine ak (λm T' L'=>∃(i:Nat) (C:List AV) (Y:List Blk),m=ks.length-i/\i<=ks.length/\Hid (C=(V.take i).map (AV.int .i64))/\T'=[(26,.int .i64 (i:Int)),(25,.int .i64 ks.length),(24,.sl F ks.length none),(7,.gsl C i (L.length+2) 1),(4,.ptr (L.length+1) 0),(3,.ptr L.length 0),(2,.sl (aJ l) l.length cap)]/\L'=L++(.cells [.sl (cU ts) ts.length j,.sl c2 n2 r] :: .cells [.int .i64 1,.str a,.str v,.sl PS ps.length none,.sl F ks.length none] :: .spare i 1::Y)) ass ⟨0,[],[],rfl,ao2 _,hid rfl,rfl,asp⟩ ?_;rintro _ _ _ ⟨i,C,Y,rfl,hi,w,rfl,rfl⟩;by_cases g:i<ks.length;obtain⟨q,J⟩:=t i g;obtain⟨e3,e4,N,g1,g2,M⟩:=J.o;have kk1:=@hid _ @N;clear N J;have d:=hid (show C++[.int .i64 (ofM ts l q)]=(V.take (i+1)).map (AV.int .i64)by rw[w.o,M]);clear M;simp only[abo]at e3 kk1;refine wk ?_;exact ast aso ass ⟨i+1,_,_,rfl,g,d,rfl,rfl⟩;have E:i=ks.length:=aso;subst E;have g1:¬(ks.length:Int)<(ks.length:Int):=aso;have d:=w.o;rw[<- c,apg]at d;subst d;clear w t;replace c:=hid c;have kk1:Hid (∀{i:Nat}{L:List Blk}{K:aoY},K (.int .i64 (orV V)) L->aoX 65 [.gsl (V.map (AV.int .i64)) ks.length i 1] L K):=hid λq=>by rw[<- c.o];exact iK (by simpa only[AV.frzL,AV.frz,Wm]using aoI (cap:=none) (by have:=c.o;omega) q)
 have U:=hid (show K (.int .i64 (orV V)) L by have:=h.o;simpa[adB]using this);refine wk ?_;exact ac rfl U.o;refine wk ?_;refine bR (l:=[]) (n:=0) 7 1 rfl (aps 1).symm ?_;rw[e2];refine ak (λm T' L'=>∃(i:Nat) (C:List AV) (Y:List Blk),m=ks.length-i/\i<=ks.length/\Hid (C=(V.take i).map (AV.int .i64))/\T'=[(26,.int .i64 (i:Int)),(25,.int .i64 ks.length),(24,.sl F ks.length none),(7,.gsl C i (L.length+2) 1),(4,.ptr (L.length+1) 0),(3,.ptr L.length 0),(2,.sl (aJ l) l.length cap)]/\L'=L++(.cells [.sl (cU ts) ts.length j,.sl c2 n2 r] :: .cells [.int .i64 2,.str a,.str v,.sl PS ps.length none,.sl F ks.length none] :: .spare i 1::Y)) ass ⟨0,[],[],rfl,ao2 _,hid rfl,rfl,asp⟩ ?_;rintro _ _ _ ⟨i,C,Y,rfl,hi,w,rfl,rfl⟩;by_cases g:i<ks.length;obtain⟨q,J⟩:=t i g;obtain⟨e3,e4,N,g1,g2,M⟩:=J.o;have kk1:=@hid _ @N;clear N J;have d:=hid (show C++[.int .i64 (ofM ts l q)]=(V.take (i+1)).map (AV.int .i64)by rw[w.o,M]);clear M;simp only[abo]at e3 kk1;refine wk ?_;exact ast aso ass ⟨i+1,_,_,rfl,g,d,rfl,rfl⟩;have E:i=ks.length:=aso;subst E;have g1:¬(ks.length:Int)<(ks.length:Int):=aso;have d:=w.o;rw[<- c,apg]at d;subst d;clear w t;replace c:=hid c;by_cases h1:ks.length=1;obtain⟨x,rfl⟩:∃x,V=[x]:=List.length_eq_one_iff.1 (c.o.trans h1);have U:=hid (show K (.int .i64 (Nr x)) L by have:=h.o;simpa[adB]using this);rw[h1];refine wk ?_;refine Vw ?_;refine asw ?_;exact ac rfl U.o;have g3:¬(ks.length:Int)=1:=aso;have U:=hid (show K (.int .i64 2) L by have:=h.o;simpa[adB,show V.length≠1 by rw[c.o];exact h1]using this)
 refine wk ?_;exact ac rfl U.o;rw[if_neg O]at h;unfold amm at h;have k0:¬k=0:=λe=>O (.inl e)
 have k1:¬k=1:=λe=>O (.inr (.inl e))
 have k2:¬k=2:=λe=>O (.inr (.inr e))
 have hn:bI a:=by unfold bI;omega
 refine aoW wp ?_;refine acm I.1 I.2.1 hn ?_;unfold tB;rcases hty:gX ts a with _|ty;rw[hty]at h;replace h:=hid h;simp only[arf,arO,tyC];clear hty;refine asw ?_;exact ac rfl h.o;rw[hty]at h;simp only at h;simp only[apT,arU,tyC];by_cases m1:k<0;rw[if_pos (.inl m1)]at h;replace h:=hid h;clear hty;refine asw ?_;exact ac rfl h.o;by_cases m2:8<k;rw[if_pos (.inr m2)]at h;replace h:=hid h;clear hty;refine asw ?_;exact ac rfl h.o;rw[if_neg (λe=>e.elim m1 m2)]at h;have hW:(gp l a).length<=1100000:=aev hz;have kk1:Hid (Ctr Tryz.prog 67 [.sl (aJ l) l.length cap,.str a] (Ta (gp l a))):=hid λq=>anb hl Q.1 (λx hx=>⟨(Og I Q hx).1,hz x hx⟩) hn q
 have kk3:Hid (Ctr Tryz.prog 70 [.agg [.sl (cU ts) ts.length j,.sl c2 n2 r],.sl (aJ l) l.length cap,.str a,.str v] (.bool (ajx ts l a v))):=hid λq=>ana I Q hl hz hn q
 obtain⟨nn,ai⟩:=aoT ((dl ty.2.1 v).getD []);obtain⟨nb,Z⟩:=aoT ((dl ty.2.1 v).isSome);have kk2:Hid (Ctr Tryz.prog 68 [.int .i64 ty.2.1,.str v] (.tup [.str nn,.bool nb])):=hid λq=>alp (by rw[ai,Z];exact q)
 obtain⟨on,al⟩:=aoT ((tx ty.2.1 v v).getD 0);obtain⟨ob,X⟩:=aoT ((tx ty.2.1 v v).isSome);have kk4:Hid (Ctr Tryz.prog 75 [.int .i64 ty.2.1,.str v,.str v] (.tup [.int .i64 on,.bool ob])):=hid λq=>adh (by rw[al,X];exact q)
 have kk5:Hid (∀{b:Bool}{L:List Blk}{K:aoY},K (.int .i64 (tf1 b)) L->aoX 69 [.bool b] L K):=hid λq=>amG q
 have kk6:Hid (Ctr Tryz.prog 71 [.agg [.int .i64 4,.str [97],.str [],.sl PS ps.length none,.sl [] 0 (some 0)]] (.int .i64 (if Np ps=true then 0 else 4))):=hid λq=>by rw[u.o];exact tT aso q
 unfold amo at h;have D:(dl ty.2.1 v).isNone = !nb:=by rw[<- Z];cases dl ty.2.1 v<;>rfl
 have y:(tx ty.2.1 v v).isNone = !ob:=by rw[<- X];cases tx ty.2.1 v v<;>rfl
 rw[D,y]at h;obtain⟨W,T⟩:=aoT (gp l a);obtain⟨H,S⟩:=aoT (ajx ts l a v);rw[T,S]at h;rw[T]at hW kk1;rw[S]at kk3;simp only[Ta]at kk1;have hc:k=3\/k=4\/k=5\/k=6\/k=7\/k=8:=aso;clear T S D y X al Z ai hty hn G k0 k1 k2 m1 m2 O;rcases hc with rfl|rfl|rfl|rfl|rfl|rfl;cases nb with
 | false =>
   replace h:=hid (show K (.int .i64 2) L by simpa using h);refine asw ?_;exact ac rfl h.o
 | true =>
   replace h:=hid (show K (.int .i64 (tf1 H)) L by simpa using h);refine asw ?_;exact ac rfl h.o
 obtain⟨R,s⟩:=aoT (W.any (λx=>(Nz ty.2.1 x ps).getD false));rw[s]at h;replace s:=hid s;by_cases s3:3<ty.2.1;replace h:=hid (show K (.int .i64 2) L by simpa[s3]using h);refine asw ?_;exact ac rfl h.o;cases hok:Np ps with
 | false =>
   replace h:=hid (show K (.int .i64 2) L by simpa[hok]using h);rw[hok]at kk6;simp only[apj,if_false]at kk6;clear hok;refine asw ?_;exact ac rfl h.o
 | true =>
   replace h:=hid (show K (.int .i64 (tf1 R)) L by simpa[hok,s3]using h);rw[hok]at kk6;simp only[if_true]at kk6;clear hok;refine asw ?_;refine aj6 (q:=λx=>(Nz ty.2.1 x ps).getD false) hW (λx K _ q=>anV (ty:=ty) (k:=4) (a:=a) (v:=v) (cp:=none) (ks:=.sl F ks.length none) (by simp[tyC]) (by rw[<- u.o];simp) aso (λp hp=>by have:=r4 p hp;omega) q) ?_;rw[s.o];refine asw ?_;exact ac rfl h.o
 obtain⟨R,s⟩:=aoT (W.any (λx=>decide ((tx ty.2.1 x v).getD 0=0) ||(decide (0<(tx ty.2.1 x v).getD 0) == decide ((5:Int)=5))));cases ob with
 | false =>
   replace h:=hid (show K (.int .i64 2) L by simpa using h);clear s;refine asw ?_;exact ac rfl h.o
 | true =>
   replace h:=hid (show K (.int .i64 (tf1 R)) L by rw[if_neg (by decide),if_neg (by decide),if_neg (by decide),if_neg (by decide)]at h;rw[<- s];exact h)
   replace s:=hid s;refine asw ?_;refine aj6 (q:=λx=>decide ((tx ty.2.1 x v).getD 0=0) ||(decide (0<(tx ty.2.1 x v).getD 0) == decide ((5:Int)=5))) hW (λx K _ q=>amk (ty:=ty) (k:=5) (a:=a) (v:=v) (ps:=.sl PS ps.length none) (ks:=.sl F ks.length none) (by simp[tyC]) asp q) ?_;rw[s.o];refine asw ?_;exact ac rfl h.o
 obtain⟨R,s⟩:=aoT (W.any (λx=>decide ((tx ty.2.1 x v).getD 0=0) ||(decide (0<(tx ty.2.1 x v).getD 0) == decide ((6:Int)=5))));cases ob with
 | false =>
   replace h:=hid (show K (.int .i64 2) L by simpa using h);clear s;refine asw ?_;exact ac rfl h.o
 | true =>
   replace h:=hid (show K (.int .i64 (tf1 R)) L by rw[if_neg (by decide),if_neg (by decide),if_neg (by decide),if_neg (by decide)]at h;rw[<- s];exact h)
   replace s:=hid s;refine asw ?_;refine aj6 (q:=λx=>decide ((tx ty.2.1 x v).getD 0=0) ||(decide (0<(tx ty.2.1 x v).getD 0) == decide ((6:Int)=5))) hW (λx K _ q=>amk (ty:=ty) (k:=6) (a:=a) (v:=v) (ps:=.sl PS ps.length none) (ks:=.sl F ks.length none) (by simp[tyC]) asp q) ?_;rw[s.o];refine asw ?_;exact ac rfl h.o
 replace h:=hid (show K (.int .i64 (tf1 (decide ((0:Int)<(W.length:Int))))) L by have:(!W.isEmpty)=decide ((0:Int)<(W.length:Int)):=(by cases W<;>simp<;>omega);rw[<- this];simpa using h)
 refine asw ?_;exact ac rfl h.o;cases nb with
 | false =>
   replace h:=hid (show K (.int .i64 2) L by simpa using h);refine asw ?_;exact ac rfl h.o
 | true =>
   replace h:=hid (show K (.int .i64 (tf1 H)) L by simpa using h);refine asw ?_;exact ac rfl h.o
end Go.Proofs.YtdnfjhflkkpokaaGreatDoor.Av
