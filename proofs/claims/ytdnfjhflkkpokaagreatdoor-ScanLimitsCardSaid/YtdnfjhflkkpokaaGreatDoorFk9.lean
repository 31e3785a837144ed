/- Joined texts of the walk, made small by a program. -/
import Derived.Test.YtdnfjhflkkpokaaGreatDoorFk7
import Derived.Test.YtdnfjhflkkpokaaGreatDoorFk6
import Derived.Test.YtdnfjhflkkpokaaGreatDoorFk5
import Derived.Lib.ValidLaws
import Derived.Sort.Walk0
import Derived.Test.YtdnfjhflkkpokaaGreatDoorFk8
import Derived.Test.YtdnfjhflkkpokaaGreatDoorFk1
import Derived.Sort.Statements
import Derived.Test.YtdnfjhflkkpokaaGreatDoorFk4
import Derived.Test.YtdnfjhflkkpokaaGreatDoorRows
import Derived.KernelRfl
set_option linter.unusedSimpArgs false
set_option linter.unusedVariables false
namespace Go.Proofs.YtdnfjhflkkpokaaGreatDoor.Av
open Go
variable {s v t b a:List UInt8}{c:UInt8}{i:Nat}{d suf dn tn:List Rdn}{id:Int}
variable {L:List Blk}{K:apr}
set_option maxHeartbeats 8000000
set_option maxRecDepth 100000
def pE(b:Nat):Nat×Nat:=if 240<=b then(4,b-240)else if 224<=b then(3,b-224)else if 192<=b then(2,b-192)else(1,b)
def Tu(n c:Nat):Bool:=decide (¬(n=2/\c<128\/n=3/\c<2048\/n=4/\c<65536\/1114111<c\/55296<=c/\c<57344))
def Sr:Nat->List UInt8->Nat->Option Nat
 |0,_,c=>some c
 |_+1,[],_=>none
 |k+1,x::t,c=>if 128<=x.toNat/\x.toNat<192 then Sr k t (c*64+x.toNat-128)else none
def Yl:Nat->List UInt8->Bool
 |_,[]=>true
 |0,_::_=>true
 | f+1,b::t=>if 128<=b.toNat/\b.toNat<192 then false else if t.length+1<(pE b.toNat).1 then false else
   match Sr ((pE b.toNat).1-1) t (pE b.toNat).2 with
   |none=>false
   |some c=>Tu (pE b.toNat).1 c&&Yl f (t.drop ((pE b.toNat).1-1))
theorem agf(hs:s.length<=1100000)(h:K (.bool (Yl s.length s)) L):apq 138 [.str s] L K:=by
 obtain⟨R,U⟩:=apl (Yl s.length s);rw[U]at h;replace h:=hid h;refine apo aat ?_;refine aj (λn T' L'=>∃(f:Nat) (u:List UInt8),f=n/\u.length<=1100000/\Hid (u.length<=f/\Yl f u=R)/\T'=[(0,.str u)]/\L=L') (CutS (b:=apt _)) ⟨s.length,s,rfl,hs,hid ⟨apt _,U⟩,rfl,rfl⟩ ?_;clear U hs;rintro _ _ _ ⟨f,u,rfl,hu,S,rfl,rfl⟩;rcases u with _|⟨b,t⟩;have I:=h.o;rw[<- S.o.2,show Yl f []=true by cases f<;>rfl]at I;replace I:=hid I;have e0:([]:List UInt8).length=0:=rfl;refine wk ?_;exact aa I.o;obtain⟨u,w⟩:=apl (b::t);obtain⟨f,rfl⟩:∃g,f=g+1:=⟨f-1,by have:=S.o.1;simp at this;omega⟩;have an:u.getD 0 0=b:=by rw[<- w];rfl
 have B:u.length=t.length+1:=by rw[<- w];rfl
 have j:=S.o.2;have ai:=S.o.1;rw[Yl]at j;rw[w]at hu ai⊢;obtain⟨x,J⟩:=apl (b.toNat);have W:x<256:=by rw[<- J];exact b.toNat_lt
 rw[J]at j;have al:(0:Int)<(u.length:Int):=asP;have w0:IntKind.i64.wrap (x:Int)=(x:Int):=ae asP asP;have V:(b.toNat:Int)=(x:Int):=asP;have q:R=false->Fin L (.bool false) L K:=λe=>aa (by have I:=h.o;rwa[e]at I)
 replace q:=hid q;have Q:∀i,u.drop (i+1)=t.drop i:=λi=>by rw[<- w];rfl
 replace w:=hid w;replace B:=hid B;clear J S;by_cases k:128<=x/\x<192;rw[if_pos k]at j;have c1:¬(240:Int)<=(x:Int):=asP;have c2:¬(224:Int)<=(x:Int):=asP;have c3:¬(192:Int)<=(x:Int):=asP;have c4:(128:Int)<=(x:Int):=asP;have e:=hid j.symm;clear k j;refine wk ?_;exact q.o e.o;rw[if_neg k]at j;obtain⟨⟨n,c0⟩,v⟩:∃p,pE x=p:=⟨_,rfl⟩;rw[v]at j;simp only at j;have M:1<=n/\n<=4/\c0<256:=by
  unfold pE at v
  repeat' split at v
  all_goals (cases v;omega)
 obtain⟨Y,a0,ad⟩:=M;replace j:=hid j
 iterate 13 first
  |refine bG ?_
  | (first|refine bw asR ?_|refine aN asR ?_|refine aQ ?_|refine cS ?_|refine bJ (fun _=>?_)|refine aF ?_|refine bA ?_)
    simp(config:={maxSteps:=2000000}) only[Kon,push_cast,reduceIte,Nat.reduceEqDiff,Nat.reduceAdd,Nat.reduceMul,Nat.reduceSub,Nat.reduceLT,Nat.reduceLeDiff,Int.reduceLT,Int.reduceLE,Int.reduceAdd,Int.reduceSub,Int.reduceNeg,Int.reduceToNat,Int.reduceEq,reduceCtorEq, *]
  | (first|refine bq asR ?_|refine bm ?_|refine aP ?_|refine bz ?_|refine bO (aE ?_))
    simp only[push_cast,reduceIte,Nat.reduceEqDiff,Nat.reduceAdd,Nat.reduceMul,Nat.reduceSub,Nat.reduceLT,Nat.reduceLeDiff,Int.reduceLT,Int.reduceLE,Int.reduceAdd,Int.reduceSub,Int.reduceNeg,Int.reduceToNat,Int.reduceEq,reduceCtorEq, *]
  |exact bK
  |first|apply bL|apply br|apply bM|apply bu|apply bN|apply bv
  |refine aT ?_
  |refine aO ?_
  |first|refine aR rfl ?_|refine aS rfl ?_|refine aB rfl ?_ ?_|refine aW rfl (λ_=>?_) (λ_=>?_)|refine aV rfl (λ_=>?_) (λ_=>?_)
  |((first|refine aA (λ_=>?_) (λ_=>?_)|refine aD (λ_=>?_) (λ_=>?_))<;>try simp(config:={maxSteps:=2000000}) only[Kon,push_cast,reduceIte,Nat.reduceEqDiff,Nat.reduceAdd,Nat.reduceMul,Nat.reduceSub,Nat.reduceLT,Nat.reduceLeDiff,Int.reduceLT,Int.reduceLE,Int.reduceAdd,Int.reduceSub,Int.reduceNeg,Int.reduceToNat,Int.reduceEq,reduceCtorEq, *])
  |refine And.intro trivial ?_
  |refine And.intro asP ?_
  |refine bd rfl (λ_=>?_) (λ_=>?_)
  |refine And.intro ?_ ?_
 refine OV (λT2 L2=>T2=[(4,.int .i64 (n:Int)),(3,.int .i64 (c0:Int)),(0,.str u)]/\L=L2) ?_ ?_;unfold pE at v;by_cases G:240<=x;rw[if_pos G]at v;cases v;have c1:(240:Int)<=(x:Int):=asP;have H:IntKind.i64.wrap ((x:Int)-240)=((x-240:Nat):Int):=by rw[ae asP asP];omega
 obtain⟨d,C⟩:=apl (x-240);rw[C]at H⊢;clear G C k;refine wk ?_;exact jQ _ _ asS ⟨rfl,rfl⟩;rw[if_neg G]at v;have c1:¬(240:Int)<=(x:Int):=asP;by_cases O:224<=x;rw[if_pos O]at v;cases v;have c2:(224:Int)<=(x:Int):=asP;have H:IntKind.i64.wrap ((x:Int)-224)=((x-224:Nat):Int):=by rw[ae asP asP];omega
 obtain⟨d,C⟩:=apl (x-224);rw[C]at H⊢;clear G O C k;refine wk ?_;exact jQ _ _ asS ⟨rfl,rfl⟩;rw[if_neg O]at v;have c2:¬(224:Int)<=(x:Int):=asP;by_cases T:192<=x;rw[if_pos T]at v;cases v;have c3:(192:Int)<=(x:Int):=asP;have H:IntKind.i64.wrap ((x:Int)-192)=((x-192:Nat):Int):=by rw[ae asP asP];omega
 obtain⟨d,C⟩:=apl (x-192);rw[C]at H⊢;clear G O T C k;refine wk ?_;exact jQ _ _ asS ⟨rfl,rfl⟩;rw[if_neg T]at v;cases v;have c3:¬(192:Int)<=(x:Int):=asP;have c4:¬(128:Int)<=(x:Int):=asP;clear G O T k;refine wk ?_;exact jQ _ _ asS ⟨rfl,rfl⟩;rintro _ _ ⟨rfl,rfl⟩ -;clear v k V w0;by_cases F:t.length+1<n;have r:=j.o;rw[if_pos F]at r;have k1:(u.length:Int)<(n:Int):=by have:=B.o;omega
 have e:=hid r.symm;clear F r;refine wk ?_;exact q.o e.o;have r:=j.o;rw[if_neg F]at r;have k1:¬(u.length:Int)<(n:Int):=by have:=B.o;omega
 have ar:n<=u.length:=by have:=B.o;omega
 obtain⟨o,ho⟩:=apl (Sr (n-1) t c0);rw[ho]at r;replace r:=hid r;clear j;refine wk ?_;refine aj (λm T' L'=>∃(i c:Nat),m=n-i/\1<=i/\i<=n/\c<256*64^(i-1)/\Hid (Sr (n-i) (u.drop i) c=o)/\T'=[(5,.int .i64 (i:Int)),(4,.int .i64 (n:Int)),(3,.int .i64 (c:Int)),(0,.str u)]/\L=L') (CutS (b:=apt _)) ⟨1,c0,rfl,apt _,Y,by simpa using ad,hid (by rw[Q 0];exact ho),rfl,rfl⟩ ?_;clear ho;rintro _ _ _ ⟨i,c,rfl,a1,a2,hc,hO,rfl,rfl⟩;have av:c<67108864:=by refine aqD hc ?_;have:i=1\/i=2\/i=3\/i=4:=asP;rcases this with rfl|rfl|rfl|rfl<;>decide
 by_cases Z:i<n;have g1:(i:Int)<(n:Int):=asP;have g2:(i:Int)<(u.length:Int):=asP;have g3:=apn i asP;obtain⟨y,hy⟩:=apl (u.getD i 0);obtain⟨z,hz⟩:=apl (y.toNat);have X:z<256:=by rw[<- hz];exact y.toNat_lt
 have ap:(y.toNat:Int)=(z:Int):=asP;have a:=hO.o;rw[nh (show i<u.length by omega),hy,show n-i=(n-(i+1))+1 by omega,Sr,hz]at a;have H:IntKind.i64.wrap (z:Int)=(z:Int):=ae asP asP;clear hz;by_cases A:128<=z/\z<192;rw[if_pos A]at a;have k2:¬(z:Int)<128:=asP;have k3:¬(192:Int)<=(z:Int):=asP;have w2:IntKind.i64.wrap ((c:Int)*64)=(c:Int)*64:=ae asP asP;have w3:IntKind.i64.wrap ((c:Int)*64+(z:Int))=(c:Int)*64+(z:Int):=ae asP asP;have w4:IntKind.i64.wrap ((c:Int)*64+(z:Int)-128)=((c*64+z-128:Nat):Int):=by rw[ae asP asP];omega
 have N:c*64+z-128<256*64^(i+1-1):=by have:i=1\/i=2\/i=3:=asP;rcases this with rfl|rfl|rfl<;>simp at hc⊢<;>omega
 obtain⟨c',P⟩:=apl (c*64+z-128);rw[P]at w4 a N;replace a:=hid a;clear A P;refine wk ?_;exact asU asP asS ⟨i+1,c',rfl,asP,Z,N,a,rfl,rfl⟩;rw[if_neg A]at a;have l:=r.o;rw[<- a]at l;have e:=hid l.symm;by_cases k2:(z:Int)<128;clear A a l;refine wk ?_;exact q.o e.o;have k3:(192:Int)<=(z:Int):=asP;clear A a l;refine wk ?_;exact q.o e.o
 .have hke:i=n:=asP;subst hke;have g1:¬(i:Int)<(i:Int):=asP;have a:=hO.o;rw[aqR,Sr]at a;have l:=r.o;rw[<- a]at l;simp only[Tu]at l;have e1:((i:Int)).toNat=i:=asP;have g2:(i:Int)<=(u.length:Int):=asP;have e2:(u.drop i).take (u.length-i)=u.drop i:=ap2 asQ;have e3:u.drop i=t.drop (i-1):=(by rw[<- Q (i-1),show i-1+1=i by omega]);have D:(i=2/\c<128\/i=3/\c<2048\/i=4/\c<65536\/1114111<c\/55296<=c/\c<57344)->R=false:=λe=>by rw[decide_eq_false (λv=>v e),aqg]at l;exact l.symm
  have E:¬(i=2/\c<128\/i=3/\c<2048\/i=4/\c<65536\/1114111<c\/55296<=c/\c<57344)->Yl f (u.drop i)=R:=λe=>by rw[decide_eq_true e,ap0]at l;rw[e3];exact l
  replace D:=hid D;replace E:=hid E;replace e3:=hid e3;clear l a r
  repeat' first
   |refine bG ?_
   | (first|refine bw asR ?_|refine aN asR ?_|refine aQ ?_|refine cS ?_|refine bJ (fun _=>?_)|refine aF ?_|refine bA ?_)
     simp(config:={maxSteps:=2000000}) only[Kon,push_cast,reduceIte,Nat.reduceEqDiff,Nat.reduceAdd,Nat.reduceMul,Nat.reduceSub,Nat.reduceLT,Nat.reduceLeDiff,Int.reduceLT,Int.reduceLE,Int.reduceAdd,Int.reduceSub,Int.reduceNeg,Int.reduceToNat,Int.reduceEq,reduceCtorEq, *]
   | (first|refine bq asR ?_|refine bm ?_|refine aP ?_|refine bz ?_|refine bO (aE ?_))
     simp only[push_cast,reduceIte,Nat.reduceEqDiff,Nat.reduceAdd,Nat.reduceMul,Nat.reduceSub,Nat.reduceLT,Nat.reduceLeDiff,Int.reduceLT,Int.reduceLE,Int.reduceAdd,Int.reduceSub,Int.reduceNeg,Int.reduceToNat,Int.reduceEq,reduceCtorEq, *]
   |exact bK
   |first|apply bL|apply br|apply bM|apply bu|apply bN|apply bv
   |refine aT ?_
   |refine aO ?_
   |first|refine aR rfl ?_|refine aS rfl ?_|refine aB rfl ?_ ?_|refine aW rfl (λ_=>?_) (λ_=>?_)|refine aV rfl (λ_=>?_) (λ_=>?_)
   |((first|refine aA (λ_=>?_) (λ_=>?_)|refine aD (λ_=>?_) (λ_=>?_))<;>try simp(config:={maxSteps:=2000000}) only[Kon,push_cast,reduceIte,Nat.reduceEqDiff,Nat.reduceAdd,Nat.reduceMul,Nat.reduceSub,Nat.reduceLT,Nat.reduceLeDiff,Int.reduceLT,Int.reduceLE,Int.reduceAdd,Int.reduceSub,Int.reduceNeg,Int.reduceToNat,Int.reduceEq,reduceCtorEq, *])
   |refine And.intro trivial ?_
   |refine And.intro asP ?_
   |refine bd rfl (λ_=>?_) (λ_=>?_)
   |refine And.intro ?_ ?_
  rename_i J;exact q.o (D.o asP);rename_i J;refine asU asP (CutL (b:=apt _)) ⟨f,u.drop i,rfl,?_,hid ⟨?_,E.o asP⟩,rfl,rfl⟩;simp;omega;simp;omega
def Cn(x:Nat):Prop:=128<=x/\x<192
instance (x:Nat):Decidable (Cn x):=by unfold Cn;infer_instance
def Xj(n b0 b1:Nat):Prop:=n<2\/¬Cn b1\/(b0-192)*64+b1-128<128
def aaF(n b0 b1 b2:Nat):Prop:=n<3\/¬Cn b1\/¬Cn b2\/((b0-224)*64+b1-128)*64+b2-128<2048\/55296<=((b0-224)*64+b1-128)*64+b2-128/\((b0-224)*64+b1-128)*64+b2-128<57344
def YN(n b0 b1 b2 b3:Nat):Prop:=n<4\/¬Cn b1\/¬Cn b2\/¬Cn b3\/(((b0-240)*64+b1-128)*64+b2-128)*64+b3-128<65536\/1114111<(((b0-240)*64+b1-128)*64+b2-128)*64+b3-128
instance (n b0 b1:Nat):Decidable (Xj n b0 b1):=by unfold Xj;infer_instance
instance (n b0 b1 b2:Nat):Decidable (aaF n b0 b1 b2):=by unfold aaF;infer_instance
instance (n b0 b1 b2 b3:Nat):Decidable (YN n b0 b1 b2 b3):=by unfold YN;infer_instance
def ae1(n b0 b1 b2 b3:Nat):Nat :=
 if b0<128 then 1 else if b0<192 then 0
 else if b0<224 then(if Xj n b0 b1 then 0 else 2)
 else if b0<240 then(if aaF n b0 b1 b2 then 0 else 3)
 else(if YN n b0 b1 b2 b3 then 0 else 4)
set_option maxRecDepth 100000 in
set_option maxHeartbeats 4000000 in
theorem adl(n a c d e:Nat)(j:a<256)(i:c<256)(h:d<256)(f:e<256):
  (ae1 n a c d e=0/\Lib.decodeN n a c d e=(65533,1))\/(1<=ae1 n a c d e/\(Lib.decodeN n a c d e).2=ae1 n a c d e/\¬((Lib.decodeN n a c d e).1=65533/\(Lib.decodeN n a c d e).2=1)):=by
 unfold ae1 Lib.decodeN;by_cases g:a<128
 grind
 by_cases c2:a<192
 grind
 by_cases c3:a<224;by_cases b:Xj n a c;rw[if_pos b];unfold Xj Cn at b
 grind
 rw[if_neg b];unfold Xj Cn at b
 grind
 by_cases c4:a<240;by_cases b:aaF n a c d;rw[if_pos b];unfold aaF Cn at b
 grind
 rw[if_neg b];unfold aaF Cn at b
 grind
 by_cases b:YN n a c d e;rw[if_pos b];unfold YN Cn at b
 grind
 rw[if_neg b];unfold YN Cn at b
 grind
theorem aiD(b:UInt8)(t:List UInt8)(f:Nat):Yl (f+1) (b::t)=if ae1 (t.length+1) b.toNat (t.getD 0 0).toNat (t.getD 1 0).toNat (t.getD 2 0).toNat=0 then false else Yl f ((b::t).drop (ae1 (t.length+1) b.toNat (t.getD 0 0).toNat (t.getD 1 0).toNat (t.getD 2 0).toNat)):=by
 have k:=b.toNat_lt;rw[Yl];obtain⟨x,j⟩:=apl (b.toNat);rw[j]at k⊢;unfold ae1;by_cases i:x<128;have g:¬(128<=x/\x<192):=asP;have d:pE x=(1,x):=by unfold pE;rw[if_neg asP,if_neg asP,if_neg asP]
 rw[d,if_neg g,if_pos i];simp only[Sr,aqR,arw];rw[if_neg asP,if_neg asP,show Tu 1 x=true from decide_eq_true asP];rfl;by_cases c2:x<192;simp[*];have g:¬(128<=x/\x<192):=asP;rw[if_neg g,if_neg i,if_neg c2];by_cases c3:x<224;have d:pE x=(2,x-192):=by unfold pE;rw[if_neg asP,if_neg asP,if_pos asP]
 rw[if_pos c3,d];simp only[show 2-1=1 from rfl];rcases t with _|⟨y,t⟩;rfl;simp only[apC,arj,Sr];rw[if_neg asP];by_cases a:Xj (t.length+1+1) x y.toNat;simp only[if_pos a,if_true];by_cases c:128<=y.toNat/\y.toNat<192;simp only[if_pos c];unfold Xj Cn at a;rw[show Tu 2 ((x-192)*64+y.toNat-128)=false from decide_eq_false asP];rfl;simp[*];simp only[if_neg a];unfold Xj Cn at a;simp only[if_pos (show 128<=y.toNat/\y.toNat<192 by omega),Nat.reduceEqDiff,if_false];rw[show Tu 2 ((x-192)*64+y.toNat-128)=true from decide_eq_true asP];rfl;rw[if_neg c3];by_cases c4:x<240;have d:pE x=(3,x-224):=by unfold pE;rw[if_neg asP,if_pos asP]
 rw[if_pos c4,d];simp only[show 3-1=2 from rfl];rcases t with _|⟨y,_|⟨z,t⟩⟩;simp[aaF];simp[aaF];simp only[apC,arj,arM,Sr];rw[if_neg asP];by_cases a:aaF (t.length+1+1+1) x y.toNat z.toNat;simp only[if_pos a,if_true];by_cases c:128<=y.toNat/\y.toNat<192;by_cases e:128<=z.toNat/\z.toNat<192;simp only[if_pos c,if_pos e];unfold aaF Cn at a;rw[show Tu 3 (((x-224)*64+y.toNat-128)*64+z.toNat-128)=false from decide_eq_false asP];rfl;simp only[if_pos c,if_neg e];simp only[if_neg c];simp only[if_neg a];unfold aaF Cn at a;simp only[if_pos (show 128<=y.toNat/\y.toNat<192 by omega),if_pos (show 128<=z.toNat/\z.toNat<192 by omega),Nat.reduceEqDiff,if_false];rw[show Tu 3 (((x-224)*64+y.toNat-128)*64+z.toNat-128)=true from decide_eq_true asP];rfl;have d:pE x=(4,x-240):=by unfold pE;rw[if_pos asP]
 rw[if_neg c4,d];simp only[show 4-1=3 from rfl];rcases t with _|⟨y,_|⟨z,_|⟨w,t⟩⟩⟩;simp[YN];simp[YN];simp[YN];simp only[apC,arj,arM,Sr];rw[if_neg asP];by_cases a:YN (t.length+1+1+1+1) x y.toNat z.toNat w.toNat;simp only[if_pos a,if_true];by_cases c:128<=y.toNat/\y.toNat<192;by_cases e:128<=z.toNat/\z.toNat<192;by_cases h:128<=w.toNat/\w.toNat<192;simp only[if_pos c,if_pos e,if_pos h];unfold YN Cn at a;rw[show Tu 4 ((((x-240)*64+y.toNat-128)*64+z.toNat-128)*64+w.toNat-128)=false from decide_eq_false asP];rfl;simp only[if_pos c,if_pos e,if_neg h];simp only[if_pos c,if_neg e];simp only[if_neg c];simp only[if_neg a];unfold YN Cn at a;simp only[if_pos (show 128<=y.toNat/\y.toNat<192 by omega),if_pos (show 128<=z.toNat/\z.toNat<192 by omega),if_pos (show 128<=w.toNat/\w.toNat<192 by omega),Nat.reduceEqDiff,if_false];rw[show Tu 4 ((((x-240)*64+y.toNat-128)*64+z.toNat-128)*64+w.toNat-128)=true from decide_eq_true asP];rfl
theorem abm:∀(f:Nat) (l:List UInt8),l.length<=f->Yl f l=Lib.validD l
 |_,[],_=>by simp[Yl,Lib.validD_nil]
 |0,_::_,h=>by simp at h
 | f+1,b::t,h=>by
   rw[aiD,Lib.validD_step _ asQ,Lib.decodeL_N];simp only[apC,arj,arM];rcases adl (t.length+1) b.toNat (t.getD 0 0).toNat (t.getD 1 0).toNat (t.getD 2 0).toNat b.toNat_lt (t.getD 0 0).toNat_lt (t.getD 1 0).toNat_lt (t.getD 2 0).toNat_lt with⟨d,a⟩|⟨d,a,c⟩
   .simp_all
   .rw[if_neg asP,if_neg c,a];refine abm f _ ?_
    grind
def O1(s:List UInt8):Bool:=s.all ia&&decide (0<s.length)
theorem fS{s:List UInt8}(v:s.length<=1100000){L:List Blk}{K:apr}(h:K (.bool (O1 s)) L):apq 189 [.str s] L K:=by
 have no:s.all ia=false->K (.bool false) L:=λe=>by have g:=h;rwa[O1,e,aqg]at g
 replace no:=hid no;replace h:=hid h;refine apo Wl ?_;refine aj (λn T' L'=>∃i:Nat,n=s.length-i/\i<=s.length/\Hid ((s.take i).all ia=true)/\T'=[(3,.int .i64 (i:Int)),(0,.str s)]/\L=L') (CutS (b:=apt _)) ⟨0,rfl,apv _,hid rfl,rfl,rfl⟩ ?_;rintro _ _ _ ⟨i,rfl,t,a,rfl,rfl⟩;by_cases f:i<s.length
 .have g1:(i:Int)<(s.length:Int):=asP;have u:=apn i asP;obtain⟨c,q⟩:=apl (s.getD i 0);have p:c∈s:=(by rw[<- q];simp[f]);have k:s.take (i+1)=s.take i++[c]:=(by rw[apK f,<- q];simp[f]);have m:=hid λ(e:ia c=false)=>no.o (List.all_eq_false.2 ⟨c,p,by rw[e];simp⟩)
  have j:=hid λ(e:ia c=true)=>show(s.take (i+1)).all ia=true by rw[k,asn,a.o];simp[e]
  clear p k
  repeat' first
   |refine bG ?_
   | (first|refine bw asR ?_|refine aN asR ?_|refine aQ ?_|refine cS ?_|refine bJ (fun _=>?_)|refine aF ?_|refine bA ?_)
     refine sm ?_
   | (first|refine bq asR ?_|refine bm ?_|refine aP ?_|refine bz ?_|refine bO (aE ?_))
     refine sl ?_
   |exact bK
   |first|apply bL|apply br|apply bM|apply bu|apply bN|apply bv
   |refine aT ?_
   |refine aO ?_
   |first|refine aR rfl ?_|refine aS rfl ?_|refine aB rfl ?_ ?_|refine aW rfl (λ_=>?_) (λ_=>?_)|refine aV rfl (λ_=>?_) (λ_=>?_)
   |((first|refine aA (λ_=>?_) (λ_=>?_)|refine aD (λ_=>?_) (λ_=>?_))<;>try refine sm ?_)
   |refine And.intro trivial ?_
   |refine And.intro asP ?_
   |refine bd rfl (λ_=>?_) (λ_=>?_)
   |refine And.intro ?_ ?_
  rename_i r;refine aa (m.o ?_);simp only[ia,ar3,decide_eq_false_iff_not];omega;rename_i r;refine asU asP (CutL (b:=apt _)) ⟨i+1,rfl,asP,hid (j.o ?_),rfl,rfl⟩;simp only[ia,apw,decide_eq_true_eq];omega
 have l:i=s.length:=asP;subst l;have g1:¬(s.length:Int)<(s.length:Int):=asP;have d:=a.o;rw[apJ]at d;have g:=h.o;rw[O1,d,ap0,show decide (0<s.length)=decide ((0:Int)<(s.length:Int))by simp]at g;replace g:=hid g;clear d;refine wk ?_;exact aa g.o
def acx(s:List UInt8):Nat:=s.foldl (λn c=>10*n+(c.toNat-48)) 0
theorem amJ(F:s.length<=4)(p:∀c∈s,ia c=true)(h:K (.int .i64 (acx s:Nat)) L):apq 190 [.str s] L K:=by
 replace h:=hid h;replace p:=hid p;refine apo aau ?_;refine aj (λm T' L'=>∃(i n:Nat),m=s.length-i/\i<=s.length/\n<10^i/\Hid (n=acx (s.take i))/\T'=[(4,.int .i64 (i:Int)),(3,.int .i64 (n:Int)),(0,.str s)]/\L=L') (CutS (b:=apt _)) ⟨0,0,rfl,apv _,by decide,hid rfl,rfl,rfl⟩ ?_;rintro _ _ _ ⟨i,n,rfl,D,y,k,rfl,rfl⟩;by_cases d:i<s.length;have g1:(i:Int)<(s.length:Int):=asP;have A:=apn i asP;obtain⟨c,r⟩:=apl (s.getD i 0);have q:=p.o c (by rw[<- r];simp[d]);simp only[ia,apw,decide_eq_true_eq]at q;have f:s.take (i+1)=s.take i++[c]:=by rw[apK d,<- r];simp[d]
 obtain⟨x,v⟩:∃x:Nat,c.toNat=48+x:=⟨c.toNat-48,asP⟩;have t:x<=9:=asP;have w:(c.toNat:Int)=48+(x:Int):=asP;have u:n<1000:=by refine aqD y ?_;have:i=0\/i=1\/i=2\/i=3:=asP;rcases this with rfl|rfl|rfl|rfl<;>decide
 have a:acx (s.take (i+1))=10*n+x:=by rw[f,acx,arP,<- acx,<- k.o];simp only[aqt,arU];omega
 have E:IntKind.u8.wrap (48+(x:Int)-48)=(x:Int):=by rw[dx asP asP];omega
 have C:IntKind.i64.wrap (x:Int)=(x:Int):=ae asP asP;have z:IntKind.i64.wrap (10*(n:Int))=10*(n:Int):=ae asP asP;have B:IntKind.i64.wrap (10*(n:Int)+(x:Int))=10*(n:Int)+(x:Int):=ae asP asP;have l:10*n+x<10^(i+1):=by rw[Nat.pow_succ];omega
 replace a:=hid a;clear q f v;refine wk ?_;exact asU asP (CutL (b:=apt _)) ⟨i+1,10*n+x,rfl,asP,l,hid a.o.symm,rfl,rfl⟩;have j:i=s.length:=asP;subst j;have g1:¬(s.length:Int)<(s.length:Int):=asP;have e:=k.o;rw[apJ]at e;have g:=h.o;rw[<- e]at g;replace g:=hid g;clear e k;refine wk ?_;exact aa g.o
abbrev ajC:List UInt8:=[57,50,50,51,51,55,50,48,51,54,56,53,52,55,55,53,56,48,55]
abbrev ajD:List UInt8:=[57,50,50,51,51,55,50,48,51,54,56,53,52,55,55,53,56,48,56]
def adR(w most:List UInt8):Bool:=O1 w && !decide (w.getD 0 0=48)&&(decide (w.length<19) ||decide (w.length=19)&&(Op.bytesLess w most ||decide (w=most)))
def ajt(v:List UInt8):Bool:=if v=[48]then true else match v with
 |[]=>false
 |c::t=>if c=45 then adR t ajD else adR (c::t) ajC
theorem Ya{w a:List UInt8}(b:w.length<=1100000):adR w a=(if O1 w=true then(!decide (w.getD 0 0=48)&&(decide (w.length<19) ||decide (w.length=19)&&(Op.bytesLess w a ||decide (w=a))))else false):=by unfold adR;cases O1 w<;>rfl
theorem abu(k:v.length<=1100000)(h:K (.bool (ajt v)) L):apq 139 [.str v] L K:=by
 unfold ajt at h;refine ab Wj (by simp[tD]) ?_;simp only[tD,ag];by_cases j:v=[48];rw[if_pos j]at h;replace h:=hid h;refine wk ?_;exact aa h.o;rw[if_neg j]at h;have q:∀w:List UInt8,O1 w=true->(0:Int)<(w.length:Int):=λw e=>by simp only[O1,apw,decide_eq_true_eq]at e;omega
 rcases v with _|⟨c,t⟩;simp only at h;replace h:=hid h;have u:O1 []=false:=rfl;have s:([]:List UInt8).length=0:=rfl;have kk1:=@asW _ _ _ _ (fS k);refine wk ?_;exact aa h.o;simp only at h;have l:(c::t).length=t.length+1:=rfl;have g:(c::t).getD 0 0=c:=rfl;have i:(c::t).drop 1=t:=rfl;simp only[apC]at k;have a:t.length<=1100000:=asP;have r:t.take (((t.length:Int)+1).toNat-1)=t:=by rw[show((t.length:Int)+1).toNat-1=t.length by omega,apJ]
 have p:(0:Int)<(t.length:Int)+1:=asP;by_cases d:c=45
 .rw[if_pos d,Ya a]at h;subst d;have m:((45:UInt8).toNat:Int)=45:=rfl;cases hd:O1 t with
  | false =>
    rw[hd,if_neg asQ]at h;replace h:=hid h;have kk1:=@asW _ _ _ _ (fS a);refine wk ?_;exact aa h.o
  | true =>
    rw[hd,if_pos rfl]at h;obtain⟨x,n⟩:=apl (t.getD 0 0);rw[n,show decide (x=48)=decide ((x.toNat:Int)=48)by rw[decide_eq_decide];exact(bQ x 48).symm,show decide (t.length<19)=decide ((t.length:Int)<19)by simp;omega,show decide (t.length=19)=decide ((t.length:Int)=19)by rw[decide_eq_decide];omega]at h;replace h:=hid h;have g1:=q t hd
    repeat' first
     |refine bG ?_
     | (first|refine bw asR ?_|refine aN asR ?_|refine aQ ?_|refine cS ?_|refine bJ (fun _=>?_)|refine aF ?_|refine bA ?_|refine fS a ?_|refine bf (fS a ⟨rfl,rfl⟩) (fS a ⟨rfl,rfl⟩) ?_|refine aM (fS a ⟨rfl,rfl⟩) ?_)
       refine sm ?_
     | (first|refine bq asR ?_|refine bm ?_|refine aP ?_|refine bz ?_|refine bO (aE ?_))
       refine sl ?_
     |exact bK
     |first|apply bL|apply br|apply bM|apply bu|apply bN|apply bv
     |refine aT ?_
     |refine aO ?_
     |first|refine aR rfl ?_|refine aS rfl ?_|refine aB rfl ?_ ?_|refine aW rfl (λ_=>?_) (λ_=>?_)|refine aV rfl (λ_=>?_) (λ_=>?_)
     |((first|refine aA (λ_=>?_) (λ_=>?_)|refine aD (λ_=>?_) (λ_=>?_))<;>try refine sm ?_)
     |refine And.intro trivial ?_
     |refine And.intro asP ?_
     |refine bd rfl (λ_=>?_) (λ_=>?_)
     |refine And.intro ?_ ?_
    exact aa h.o
 .rw[if_neg d,Ya (by simp;omega)]at h;have m:¬(c.toNat:Int)=45:=λe=>d ((bQ c 45).1 e)
  obtain⟨v,f⟩:=apl (c::t);rw[f]at h l g j⊢;have b:v.length<=1100000:=asP;have y:(0:Int)<(v.length:Int):=asP;replace f:=hid f;clear i l r p;cases hd:O1 v with
  | false =>
    rw[hd,if_neg asQ]at h;replace h:=hid h;have kk1:=@asW _ _ _ _ (fS b);refine wk ?_;exact aa h.o
  | true =>
    rw[hd,if_pos rfl]at h;rw[g,show decide (c=48)=decide ((c.toNat:Int)=48)by rw[decide_eq_decide];exact(bQ c 48).symm,show decide (v.length<19)=decide ((v.length:Int)<19)by simp;omega,show decide (v.length=19)=decide ((v.length:Int)=19)by rw[decide_eq_decide];omega]at h;replace h:=hid h
    repeat' first
     |refine bG ?_
     | (first|refine bw asR ?_|refine aN asR ?_|refine aQ ?_|refine cS ?_|refine bJ (fun _=>?_)|refine aF ?_|refine bA ?_|refine fS b ?_|refine bf (fS b ⟨rfl,rfl⟩) (fS b ⟨rfl,rfl⟩) ?_|refine aM (fS b ⟨rfl,rfl⟩) ?_)
       refine sm ?_
     | (first|refine bq asR ?_|refine bm ?_|refine aP ?_|refine bz ?_|refine bO (aE ?_))
       refine sl ?_
     |exact bK
     |first|apply bL|apply br|apply bM|apply bu|apply bN|apply bv
     |refine aT ?_
     |refine aO ?_
     |first|refine aR rfl ?_|refine aS rfl ?_|refine aB rfl ?_ ?_|refine aW rfl (λ_=>?_) (λ_=>?_)|refine aV rfl (λ_=>?_) (λ_=>?_)
     |((first|refine aA (λ_=>?_) (λ_=>?_)|refine aD (λ_=>?_) (λ_=>?_))<;>try refine sm ?_)
     |refine And.intro trivial ?_
     |refine And.intro asP ?_
     |refine bd rfl (λ_=>?_) (λ_=>?_)
     |refine And.intro ?_ ?_
    exact aa h.o
def eZ(n:Nat)(s:List UInt8):Nat:=s.foldl (λn c=>10*n+(c.toNat-48)) n
theorem Y0(h:ia c=true):∃d,d<=9/\c.toNat=48+d:=by simp only[ia,apw,decide_eq_true_eq]at h;exact⟨c.toNat-48,asP,asP⟩
theorem Ee:∀(s:List UInt8) (n:Nat),eZ n s=n*10^s.length+eZ 0 s
 |[],n=>by simp[eZ]
 | c::s,n=>by
   have a:=Ee s (10*n+(c.toNat-48));have b:=Ee s (10*0+(c.toNat-48));simp only[eZ,aqt]at a b⊢
   grind
theorem NZ:∀(s:List UInt8),(∀c∈s,ia c=true)->eZ 0 s<10^s.length
 |[],_=>by simp[eZ]
 | c::s,h=>by
   have b:=NZ s λd a=>h d (aqU _ a)
   obtain⟨d,a,f⟩:=Y0 (h c asQ);have e:=Ee s (10*0+(c.toNat-48));simp only[eZ,aqt]at e b⊢;rw[e,apC,Nat.pow_succ,f];have:(10*0+(48+d-48))*10^s.length<=9*10^s.length:=aqw _ asP;omega
theorem abC:∀(a b:List UInt8),(∀c∈a,ia c=true)->(∀c∈b,ia c=true)->a.length=b.length->(a<b↔eZ 0 a<eZ 0 b)
 |[],[],_,_,_=>by simp[eZ]
 |[],_::_,_,_,h=>by simp at h
 |_::_,[],_,_,h=>by simp at h
 | x::a,y::b,ha,hb,hl=>by
   simp only[apC,Nat.add_right_cancel_iff]at hl;have g:=λc i=>ha c (aqU _ i)
   have f:=λc i=>hb c (aqU _ i)
   have m:=abC a b g f hl;have r:=NZ a g;have s:=NZ b f;obtain⟨d,u,j⟩:=Y0 (ha x asQ);obtain⟨e,t,k⟩:=Y0 (hb y asQ);have l:eZ 0 (x::a)=d*10^a.length+eZ 0 a:=by have:=Ee a (10*0+(x.toNat-48));rw[j,show 10*0+(48+d-48)=d by omega]at this;rw[<- this];simp only[eZ,aqt,j];congr 1;omega
   have o:eZ 0 (y::b)=e*10^b.length+eZ 0 b:=by have:=Ee b (10*0+(y.toNat-48));rw[k,show 10*0+(48+e-48)=e by omega]at this;rw[<- this];simp only[eZ,aqt,k];congr 1;omega
   rw[l,o,List.cons_lt_cons_iff,m,hl];have n:x<y↔d<e:=by show x.toNat<y.toNat↔_;omega
   have q:x=y↔d=e:=(by rw[<- ark];omega);obtain⟨p,v⟩:=apl (10^b.length);rcases arL d e with h|h|h
   .have:(d+1)*p<=e*p:=aqw _ h
    grind
   .simp[*]
   .have:(e+1)*p<=d*p:=aqw _ h
    grind
theorem al9:∀u:Nat,eZ 0 (Lib.decDigits u)=u/\(∀c∈Lib.decDigits u,ia c=true)/\u<10^(Lib.decDigits u).length/\(1<=u->10^((Lib.decDigits u).length-1)<=u):=by
 intro u;induction u using Nat.strongRecOn with
 | _ u ih =>
   by_cases a:u<10
   .have b:(UInt8.ofNat (48+u)).toNat=48+u:=u8n asP;rw[Lib.decDigits,dif_pos a];refine⟨?_,?_,?_,?_⟩
    .simp only[eZ,aqt,arU,b];omega
    .intro c hc;rw[apT.1 hc];simp only[ia,b,apw,decide_eq_true_eq];omega
    .simpa using a
    .intro h;simpa using h
   .obtain⟨i1,i2,i3,i4⟩:=ih (u/10) asP;have b:(UInt8.ofNat (48+u%10)).toNat=48+u%10:=u8n asP;rw[Lib.decDigits,dif_neg a];refine⟨?_,?_,?_,?_⟩
    .unfold eZ at i1⊢;rw[arP,i1];simp only[aqt,arU,b];omega
    .intro c hc;rcases apy.1 hc with h|h
     .exact i2 c h
     .rw[apT.1 h];simp only[ia,b,apw,decide_eq_true_eq];omega
    .rw[apB,asC,Nat.pow_succ];omega
    .intro _;have:=i4 asP;rw[apB,asC,Nat.add_sub_cancel];obtain⟨c,r,e,_⟩:=Es (u/10);have f:1<=(Lib.decDigits (u/10)).length:=(by rw[e];simp);obtain⟨k,d⟩:∃k,(Lib.decDigits (u/10)).length=k+1:=⟨(Lib.decDigits (u/10)).length-1,asP⟩;rw[d]at this⊢;rw[Nat.add_sub_cancel]at this;rw[Nat.pow_succ];omega
theorem anH:∀(n:Nat) (w:List UInt8),w.length=n->(∀c∈w,ia c=true)->w≠[]->w.getD 0 0≠48->1<=eZ 0 w/\Lib.decDigits (eZ 0 w)=w:=by
 intro n;induction n with
 |zero=>intro w h _ a;exact absurd (aqc.1 h) a
 | succ n ih =>
   intro w h i a b;obtain⟨t,c,rfl⟩:∃t c,w=t++[c]:=⟨w.dropLast,w.getLast a,(List.dropLast_concat_getLast a).symm⟩;obtain⟨d,k,f⟩:=Y0 (i c asQ);have g:UInt8.ofNat (48+d)=c:=(by rw[<- f];simp);have j:eZ 0 (t++[c])=10*eZ 0 t+d:=by simp only[eZ,arP,aqt,arU,f];omega
   rcases t with _|⟨x,t⟩
   .have:d≠0:=λe=>b (by simp only[apZ,arj];exact ark.1 (by rw[f,e];rfl))
    have l:eZ 0 ([]:List UInt8)=0:=rfl;rw[j,l];refine⟨asP,?_⟩;rw[Lib.decDigits,dif_pos asP,show 48+(10*0+d)=48+d by omega,g];rfl
   .obtain⟨j1,j2⟩:=ih (x::t) (by simpa using h) (λc f=>i c (aqH _ f)) asQ (by simpa using b);rw[j];refine⟨asP,?_⟩;rw[Lib.decDigits,dif_neg asP,show(10*eZ 0 (x::t)+d)/10=eZ 0 (x::t)by omega,show(10*eZ 0 (x::t)+d)%10=d by omega,j2,g]
theorem adQ{w a:List UInt8}{M:Nat}(x:eZ 0 a=M)(d:a.length=19)(f:∀c∈a,ia c=true)(F:10^18<=M):adR w a=true↔∃u,1<=u/\u<=M/\w=Lib.decDigits u:=by
 have n:M<10^19:=by rw[<- x,<- d];exact NZ a f
 have k:∀w:List UInt8,(∀c∈w,ia c=true)->w.length=19->((Op.bytesLess w a ||decide (w=a))=true↔eZ 0 w<=M):=λw p v=>by
  rw[bytesLess_eq];have j:=abC a w f p (by rw[v,d])
  grind
 unfold adR O1;simp only[apw,aqf,aqd,decide_eq_false_iff_not,decide_eq_true_eq,apF];constructor;rintro⟨⟨⟨o,b⟩,i⟩,g⟩;obtain⟨m,j⟩:=anH _ w rfl o (by rintro rfl;simp at b) i;refine⟨eZ 0 w,m,?_,j.symm⟩;rcases g with y|⟨s,t⟩;have:=NZ w o;have A:10^w.length<=10^18:=Nat.pow_le_pow_right (by decide) asP;omega;simp_all;rintro⟨u,m,j,rfl⟩;obtain⟨B,q,D,z⟩:=al9 u;obtain⟨c,r,e,E,c2,c3⟩:=Es u;have l:(Lib.decDigits u).length<=19:=by rcases apV 19 (Lib.decDigits u).length with h|h;have C:10^19<=10^((Lib.decDigits u).length-1):=Nat.pow_le_pow_right (by decide) asP;omega;omega
 refine⟨⟨⟨q,by rw[e];simp⟩,?_⟩,?_⟩;intro h;simp_all
 grind
theorem afi(w:List UInt8):adR w ajC=true↔∃u,1<=u/\u<=9223372036854775807/\w=Lib.decDigits u:=adQ (by decide) (by decide) (by decide) (by decide)
theorem afj(w:List UInt8):adR w ajD=true↔∃u,1<=u/\u<=9223372036854775808/\w=Lib.decDigits u:=adQ (by decide) (by decide) (by decide) (by decide)
theorem ajs(v:List UInt8):ajt v=true↔∃m,I64 m/\Lib.itoa m=v:=by
 unfold ajt;by_cases d:v=[48];rw[if_pos d];refine⟨λ_=>⟨0,by unfold I64;omega,?_⟩,λ_=>rfl⟩;rw[d,Lib.itoa,if_neg (by decide),Lib.decDigits,dif_pos (by decide)];rfl;rw[if_neg d];have l:Lib.itoa 0=[48]:=by rw[Lib.itoa,if_neg (by decide),Lib.decDigits,dif_pos (by decide)];rfl
 rcases v with _|⟨c,t⟩;simp only[apL,false_iff];rintro⟨m,_,e⟩;obtain⟨c,r,g,_⟩:=ahI m;simp_all;simp only;by_cases b:c=45;rw[if_pos b,afj];subst b;constructor;rintro⟨u,i,k,rfl⟩;refine⟨-(u:Int),by unfold I64;omega,?_⟩;rw[Lib.itoa,if_pos asP,show(-(u:Int)).natAbs=u by omega];rintro⟨m,f,e⟩;unfold I64 at f;by_cases a:m<0;rw[Lib.itoa,if_pos a]at e
 grind
 rw[Lib.itoa,if_neg a]at e;obtain⟨c,r,g,n,c2,_⟩:=Es m.toNat;simp_all;rw[if_neg b,afi];constructor;rintro⟨u,i,k,e⟩;refine⟨(u:Int),by unfold I64;omega,?_⟩;rw[e,Lib.itoa,if_neg asP];congr 1;rintro⟨m,f,e⟩;unfold I64 at f;by_cases a:m<0;rw[Lib.itoa,if_pos a]at e;simp_all;have j:m≠0:=λh=>d (by rw[<- e,h,l])
 rw[Lib.itoa,if_neg a]at e
 grind
theorem ahz(v:List UInt8):tj v=true↔∃m,I64 m/\Lib.itoa m=v:=by constructor;intro h;unfold tj at h;split at h;rename_i n a;exact⟨n,X9 a,by simpa using h⟩;cases h;rintro⟨m,b,rfl⟩;exact(ajr b).1
theorem anm(v:List UInt8):ajt v=tj v:=by exact arS.2 ((ajs v).trans (ahz v).symm)
theorem apd(h:i+2<=v.length):acx ((v.drop i).take 2)=two v i:=by
 have e:(v.drop i).take 2=[v.getD i 0,v.getD (i+1) 0]:=by rw[nh (show i<v.length by omega),nh (show i+1<v.length by omega)];rfl
 rw[e];simp only[acx,two,dig,aqt,arU];omega
theorem apc(h:4<=v.length):acx (v.take 4)=two v 0*100+two v 2:=by
 have e:v.take 4=[v.getD 0 0,v.getD 1 0,v.getD 2 0,v.getD 3 0]:=by have:=nh (show 0<v.length by omega);rw[arw]at this;rw[this,nh (show 0+1<v.length by omega),nh (show 0+1+1<v.length by omega),nh (show 0+1+1+1<v.length by omega)];rfl
 rw[e];simp only[acx,two,dig,aqt,arU,aqA,Nat.reduceAdd];omega
theorem abv(hv:v.length<=1100000)(h:K (.bool (N1 v)) L):apq 141 [.str v] L K:=by
 have no:N1 v=false->K (.bool false) L:=λe=>by rw[<- e];exact h
 replace no:=hid no;replace h:=hid h;refine ab Wk (by simp[tE]) ?_;simp only[tE,ag];by_cases m:v.length=15;rotate_left;have f1:¬(v.length:Int)=15:=asP;have C:=hid (no.o (by simp[N1,m]));clear m;refine wk ?_;exact aa C.o;have f1:(v.length:Int)=15:=asP;obtain⟨w,J⟩:=apl (v.take 14);have x:w.length=14:=by rw[<- J];simp[m]
 have t:w.length<=1100000:=asP;cases hda:w.all ia with
 | false =>
   have C:=hid (no.o (by simp[N1,J,hda]));have P:O1 w=false:=(by simp[O1,hda]);clear x m;have kk1:=@asW _ _ _ _ (fS t);refine wk ?_;exact aa C.o
 |true =>
 have P:O1 w=true:=by simp[O1,hda,x]
 obtain⟨z,hz⟩:=apl (v.getD 14 0);by_cases l:z=90;rotate_left;have f2:¬(z.toNat:Int)=90:=λe=>l ((bQ z 90).1 e)
 have C:=hid (no.o (by simp[N1,<- hz]at l⊢;simp[l]));clear l x m;have kk1:=@asW _ _ _ _ (fS t);refine wk ?_;exact aa C.o;have f2:(z.toNat:Int)=90:=by rw[l];rfl
 have b:∀i,i<14->ia (v.getD i 0)=true:=λi U=>by refine apF.1 hda _ ?_;rw[<- J];have:v.getD i 0=(v.take 14)[i]'(by simp;omega):=(by simp[show i<v.length by omega]);rw[this];exact aqr _
 have r:∀(i n:Nat),i+n<=14->∀c∈(v.drop i).take n,ia c=true:=λi n ai c hc=>by obtain⟨j,hj,rfl⟩:=aqn.1 hc;simp only[aqK,aqT]at hj;rw[ar8,asr];have:=b (i+j) asP;rwa[show v.getD (i+j) 0=v[i+j]by simp[show i+j<v.length by omega]]at this
 have s:N1 v=aes v:=by simp only[N1,m,hz,l,J,hda];simp
 have B:∀i:Nat,i+2<=14->∀(K:AV->List Blk->Prop),K (.int .i64 (two v i:Nat)) L->apq 190 [.str ((v.drop i).take 2)] L K:=λi U K h =>
  amJ (by simp;omega) (r i 2 U) (by rw[apd asP];exact h)
 have c4:∀(K:AV->List Blk->Prop),K (.int .i64 ((two v 0*100+two v 2:Nat):Int)) L->apq 190 [.str (v.take 4)] L K:=λK h =>
  amJ (by simp;omega) (by have:=r 0 4 asP;rwa[arw]at this) (by rw[apc asP];exact h)
 have b0:=kF (b 0 asP) (b 1 asP);have b2:=kF (b 2 asP) (b 3 asP);have b4:=kF (b 4 asP) (b 5 asP);have b6:=kF (b 6 asP) (b 7 asP);have b8:=kF (b 8 asP) (b 9 asP);have Q:=kF (b 10 asP) (b 11 asP);have N:=kF (b 12 asP) (b 13 asP);have kk1:=@hid _ (λ{K:apr}=>c4 K);have kk3:=@hid _ (λ{K:apr}=>B 4 asP K);have kk4:=@hid _ (λ{K:apr}=>B 6 asP K);have kk5:=@hid _ (λ{K:apr}=>B 8 asP K);have kk6:=@hid _ (λ{K:apr}=>B 10 asP K);have kk7:=@hid _ (λ{K:apr}=>B 12 asP K);have kk2:=@hid _ (λ{K:apr}=>@fS w t L K);have a:=h.o;rw[s]at a;unfold aes at a;obtain⟨Y,hY⟩:=apl (two v 0*100+two v 2);obtain⟨M,hM⟩:=apl (two v 4);obtain⟨D,hD⟩:=apl (two v 6);obtain⟨H,V⟩:=apl (two v 8);obtain⟨I,hI⟩:=apl (two v 10);obtain⟨S,W⟩:=apl (two v 12);have ad:Y<=9999:=asP;rw[hY]at a kk1;rw[hM]at b4 a kk3;rw[hD]at b6 a kk4;rw[V]at b8 a kk5;rw[hI]at Q a kk6;rw[W]at N a kk7;clear hY hM hD V hI W B c4 s b hda m x hv l no h r b0 b2;have g:¬((1<=M/\M<=12)/\1<=D/\H<=23/\I<=59/\S<=59)->K (.bool false) L:=λe=>by rw[decide_eq_false e]at a;simpa using a
 replace g:=hid g;replace a:=hid a;by_cases m1:(M:Int)<1;refine wk ?_;exact aa (g.o asP);by_cases m2:(12:Int)<(M:Int);refine wk ?_;exact aa (g.o asP);by_cases m3:(D:Int)<1;refine wk ?_;exact aa (g.o asP);by_cases m4:(23:Int)<(H:Int);refine wk ?_;exact aa (g.o asP);by_cases m5:(59:Int)<(I:Int);refine wk ?_;exact aa (g.o asP);by_cases m6:(59:Int)<(S:Int);refine wk ?_;exact aa (g.o asP);have f:=a.o;rw[show decide ((1<=M/\M<=12)/\1<=D/\H<=23/\I<=59/\S<=59)=true by simp;omega,ap0]at f;unfold abE ajJ at f;obtain⟨T,E⟩:=apl (Y%4);obtain⟨A,p⟩:=apl (Y%100);obtain⟨y,q⟩:=apl (Y%400);rw[E,p,q]at f;have t4:Int.tmod (Y:Int) 4=(T:Int):=by rw[ary asP];omega
 have X:Int.tmod (Y:Int) 100=(A:Int):=by rw[ary asP];omega
 have Z:Int.tmod (Y:Int) 400=(y:Int):=by rw[ary asP];omega
 replace f:=hid f;clear E p q;have k:∀d:Nat,(if M=2/\(decide (T=0) && !decide (A=0) ||decide (y=0))=true then acV M+1 else acV M)=d->K (.bool (decide ((D:Int)<=(d:Int)))) L:=λd e=>by have:=f.o;rw[e]at this;rwa[show decide (D<=d)=decide ((D:Int)<=(d:Int))by simp only[decide_eq_decide];omega]at this
 replace k:=hid k;by_cases q2:(M:Int)=2
 .have e2:M=2:=asP;subst e2
  repeat' first
   |refine bG ?_
   | (first|refine bw asR ?_|refine aN asR ?_|refine aQ ?_|refine cS ?_|refine bJ (fun _=>?_)|refine aF ?_|refine bA ?_|refine kk1.o ?_|refine kk2.o ?_|refine kk3.o ?_|refine kk4.o ?_|refine kk5.o ?_|refine kk6.o ?_|refine kk7.o ?_|refine bf (kk1.o ⟨rfl,rfl⟩) (kk1.o ⟨rfl,rfl⟩) ?_|refine bf (kk2.o ⟨rfl,rfl⟩) (kk2.o ⟨rfl,rfl⟩) ?_|refine bf (kk3.o ⟨rfl,rfl⟩) (kk3.o ⟨rfl,rfl⟩) ?_|refine bf (kk4.o ⟨rfl,rfl⟩) (kk4.o ⟨rfl,rfl⟩) ?_|refine bf (kk5.o ⟨rfl,rfl⟩) (kk5.o ⟨rfl,rfl⟩) ?_|refine bf (kk6.o ⟨rfl,rfl⟩) (kk6.o ⟨rfl,rfl⟩) ?_|refine bf (kk7.o ⟨rfl,rfl⟩) (kk7.o ⟨rfl,rfl⟩) ?_|refine aM (kk1.o ⟨rfl,rfl⟩) ?_|refine aM (kk2.o ⟨rfl,rfl⟩) ?_|refine aM (kk3.o ⟨rfl,rfl⟩) ?_|refine aM (kk4.o ⟨rfl,rfl⟩) ?_|refine aM (kk5.o ⟨rfl,rfl⟩) ?_|refine aM (kk6.o ⟨rfl,rfl⟩) ?_|refine aM (kk7.o ⟨rfl,rfl⟩) ?_)
     refine sm ?_
   | (first|refine bq asR ?_|refine bm ?_|refine aP ?_|refine bz ?_|refine bO (aE ?_))
     refine sl ?_
   |exact bK
   |first|apply bL|apply br|apply bM|apply bu|apply bN|apply bv
   |refine aT ?_
   |refine aO ?_
   |first|refine aR rfl ?_|refine aS rfl ?_|refine aB rfl ?_ ?_|refine aW rfl (λ_=>?_) (λ_=>?_)|refine aV rfl (λ_=>?_) (λ_=>?_)
   |((first|refine aA (λ_=>?_) (λ_=>?_)|refine aD (λ_=>?_) (λ_=>?_))<;>try refine sm ?_)
   |refine And.intro trivial ?_
   |refine And.intro asP ?_
   |refine bd rfl (λ_=>?_) (λ_=>?_)
   |refine And.intro ?_ ?_
  rename_i R;exact aa (k.o 29 (by rw[if_pos ⟨rfl,by simp;omega⟩];rfl));rename_i R;exact aa (k.o 28 (by rw[if_neg (λ⟨_,e⟩=>R (by simp at e;omega))];rfl))
 by_cases F:M=4\/M=6\/M=9\/M=11;have u:=hid (k.o 30 (by unfold acV;rw[if_neg asP,if_neg asP,if_pos asP]));rcases F with e|e|e|e;have G:(M:Int)=4:=asP;clear e;refine wk ?_;exact aa u.o;have G:(M:Int)=6:=asP;clear e;refine wk ?_;exact aa u.o;have G:(M:Int)=9:=asP;clear e;refine wk ?_;exact aa u.o;have G:(M:Int)=11:=asP;clear e;refine wk ?_;exact aa u.o;have O:=hid (k.o 31 (by unfold acV;rw[if_neg asP,if_neg asP,if_neg asP]));have G:¬(M:Int)=4:=asP;have p2:¬(M:Int)=6:=asP;have p3:¬(M:Int)=9:=asP;have p4:¬(M:Int)=11:=asP;clear F;refine wk ?_;exact aa O.o
theorem Xq{syn:Int}(h:K (kj (dm syn v)) L):apq 92 [.int .i64 syn,.str v] L K:=by
 unfold dm at h;refine ab YA (by simp[Fc]) ?_;simp only[Fc,ag];by_cases u:4096<v.length;have O:(4096:Int)<(v.length:Int):=asP;rw[if_pos u]at h;replace h:=hid h;clear u;refine wk ?_;exact aa h.o;have O:¬(4096:Int)<(v.length:Int):=asP;rw[if_neg u]at h;have a:v.length<=1100000:=asP;have r:(v.length:Int)<=100000:=asP;have t:=abm v.length v (apt _);have f:=anm v;unfold adT at h;clear u;by_cases H:syn=1;subst H;rw[if_pos rfl]at h;by_cases g:v=[];rw[if_pos g]at h;replace h:=hid h;subst g;have P:([]:List UInt8).length=0:=rfl;refine wk ?_;exact aa h.o;rw[if_neg g]at h;have A:(0:Int)<(v.length:Int):=by have:=aqi.2 g;omega
 cases hd:Lib.validD v with
 | true =>
   rw[hd,if_pos rfl]at h;replace h:=hid h;rw[hd]at t;have kk1:=@asW _ _ _ _ (EG r);have kk2:=@asW _ _ _ _ (agf a);refine wk ?_;exact aa h.o
 | false =>
   rw[hd,if_neg asQ]at h;replace h:=hid h;rw[hd]at t;have kk1:=@asW _ _ _ _ (EG r);have kk2:=@asW _ _ _ _ (agf a);refine wk ?_;exact aa h.o
 rw[if_neg H]at h;by_cases E:syn=2;subst E;rw[if_pos rfl]at h;by_cases g:v=[];rw[if_pos g]at h;replace h:=hid h;subst g;have P:([]:List UInt8).length=0:=rfl;refine wk ?_;exact aa h.o;rw[if_neg g]at h;have A:(0:Int)<(v.length:Int):=by have:=aqi.2 g;omega
 cases hd:Lib.validD v with
 | true =>
   rw[hd,if_pos rfl]at h;replace h:=hid h;rw[hd]at t;have kk1:=@asW _ _ _ _ (agf a);refine wk ?_;exact aa h.o
 | false =>
   rw[hd,if_neg asQ]at h;replace h:=hid h;rw[hd]at t;have kk1:=@asW _ _ _ _ (agf a);refine wk ?_;exact aa h.o
 rw[if_neg E]at h;by_cases J:syn=3;subst J;rw[if_pos rfl]at h;replace h:=hid h;clear t f;refine wk ?_;refine aj (λn T' L'=>∃i:Nat,n=v.length-i/\i<=v.length/\Hid (Xl (v.take i)=true)/\T'=[(6,.int .i64 (i:Int)),(1,.str v),(12,.int .i64 3)]/\L=L') (CutS (b:=apt _)) ⟨0,rfl,apv _,hid rfl,rfl,rfl⟩ ?_;rintro _ _ _ ⟨i,rfl,Q,q,rfl,rfl⟩;by_cases l:i<v.length;have g1:(i:Int)<(v.length:Int):=asP;have R:=apn i asP;obtain⟨c,I⟩:=apl (v.getD i 0);have s:v.take (i+1)=v.take i++[c]:=by rw[apK l,<- I];simp[l]
 have z:c∈v:=by rw[<- I];simp[l]
 by_cases y:c.toNat<128;have A:¬(128:Int)<=(c.toNat:Int):=asP;have d:Xl (v.take (i+1))=true:=by have:=q.o;unfold Xl at this⊢;rw[s,asn,this];simp[y]
 replace d:=hid d;clear y s z;refine wk ?_;exact asU asP (CutL (b:=apt _)) ⟨i+1,rfl,l,d,rfl,rfl⟩;have A:(128:Int)<=(c.toNat:Int):=asP;have m:Xl v=false:=by rw[<- aq7];intro e;have:=apF.1 e c z;simp at this;omega
 have j:=h.o;rw[m,if_neg asQ]at j;replace j:=hid j;clear y s z m;refine wk ?_;exact aa j.o;have B:i=v.length:=asP;subst B;have g1:¬(v.length:Int)<(v.length:Int):=asP;have e:=q.o;rw[apJ]at e;have j:=h.o;rw[e,if_pos rfl]at j;replace j:=hid j;clear e;have kk1:=@asW _ _ _ _ (EG r);refine wk ?_;exact aa j.o;rw[if_neg J]at h;by_cases F:syn=4;subst F;rw[if_pos rfl]at h;cases hd:tj v with
 | true =>
   rw[hd,if_pos rfl]at h;replace h:=hid h;rw[hd]at f;have kk1:=@asW _ _ _ _ (abu a);refine wk ?_;exact aa h.o
 | false =>
   rw[hd,if_neg asQ]at h;replace h:=hid h;rw[hd]at f;have kk1:=@asW _ _ _ _ (abu a);refine wk ?_;exact aa h.o
 rw[if_neg F]at h;by_cases G:syn=5;subst G;rw[if_pos rfl]at h;clear t f;by_cases w:v=akG;rw[if_pos (.inl w)]at h;replace h:=hid h;subst w;refine wk ?_;exact aa h.o;by_cases t2:v=af6;rw[if_pos (.inr t2)]at h;replace h:=hid h;subst t2;have t3:¬([70,65,76,83,69]:List UInt8)=[84,82,85,69]:=by decide
 clear w;refine wk ?_;exact aa h.o;rw[if_neg (λe=>e.elim w t2)]at h;replace h:=hid h;refine wk ?_;exact aa h.o;rw[if_neg G]at h;clear t f;by_cases C:syn=6;subst C;rw[if_pos rfl]at h;obtain⟨⟨k,e⟩,x⟩:∃p,ad5 v=p:=⟨_,rfl⟩;rw[x]at h;simp only at h;by_cases M:e=0;subst M;rw[if_pos rfl]at h;replace h:=hid h;refine wk ?_;refine ai6 ?_;rw[x];simp only[kG];refine asX ?_;exact aa h.o;rw[if_neg M]at h;replace h:=hid h;refine wk ?_;refine ai6 ?_;rw[x];simp only[kG];refine asX ?_;exact aa h.o;rw[if_neg C]at h;by_cases N:syn=7;subst N;rw[if_pos rfl]at h;replace h:=hid h;refine wk ?_;exact aa h.o;rw[if_neg N]at h;by_cases D:syn=8;subst D;rw[if_pos rfl]at h;cases hd:N1 v with
 | true =>
   rw[hd,if_pos rfl]at h;replace h:=hid h;have kk1:=@asW _ _ _ _ (abv a);refine wk ?_;exact aa h.o
 | false =>
   rw[hd,if_neg asQ]at h;replace h:=hid h;have kk1:=@asW _ _ _ _ (abv a);refine wk ?_;exact aa h.o
 rw[if_neg D]at h;replace h:=hid h;refine wk ?_;exact aa h.o
theorem age(v:List UInt8)(rest:List UInt8)(k:rest=[]\/∃c t,rest=c::t/\(c=44\/c=43)):∀(s b:List UInt8) (bl:Bool),b++s=v->(s=[]->bl=false)->ja b bl (wrL v.length b.length s++rest)=some (v,rest,true)
 | [],b,bl,e,h=>by
   rw[ap4]at e;subst e;rw[h rfl];rcases k with rfl|⟨c,t,rfl,d⟩
   .rfl
   .exact rF d
 | c::s,b,bl,e,h=>by
   have j:=λa (l:s=[]->a=false)=>age v rest k s (b++[c]) a (by rw[<- e];simp) l
   have i:(b++[c]).length=b.length+1:=asQ;rw[i]at j;rw[wrL,apG];unfold wrB;split
   .rename_i d;subst d;exact j false (λ_=>rfl)
   .rename_i d;split
    .rename_i f;show ja b bl (92::c::(wrL v.length (b.length+1) s++rest))=_;rw[wR]
     .simp_all
     .rcases f with⟨_,rfl|rfl⟩|⟨_,rfl⟩|f
      .simp
      .simp
      .simp
      grind
    .rename_i f;show ja b bl (c::(wrL v.length (b.length+1) s++rest))=_;have g:¬c∈([34,43,44,59,60,62,92]:List UInt8):=λq=>f (.inr (.inr q))
     simp only[apP,aqq,or_false,not_or]at g;rw[nq (λq=>q.elim (λq=>g.2.2.1 q) (λq=>g.2.1 q)) (λq=>g.2.2.2.2.2.2 q)]
     grind
theorem Su(v:List UInt8){rest:List UInt8}(a:rest=[]\/∃c t,rest=c::t/\(c=44\/c=43)):ja [] false (gS v++rest)=some (v,rest,true):=
 age v rest a v [] false rfl (λ_=>rfl)
theorem aeu:∀(t r:List UInt8),(∀c∈t,c≠61)->lQ (t++61::r)=some (t,r)
 |[],r,_=>by simp[lQ]
 |c::t,r,h=>by rw[aqa,lQ,if_neg (h c asQ),aeu t r (λx a=>h x (by simp[a]))]
theorem aiF(h:jG t=true):∀c∈t,c≠61:=by intro c a e;simp only[jG,apw,apF]at h;have:=h.2 c a;rw[e]at this;exact absurd this (by decide)
theorem ZS(x sep:List UInt8)(xs:List (List UInt8)):Lib.join (x::xs) sep=x++xs.flatMap (λy=>sep++y):=by
 induction xs generalizing x with
 |nil=>simp[Lib.join,List.intercalate]
 | cons y l ih =>
   have e:Lib.join (x::y::l) sep=x++(sep++Lib.join (y::l) sep):=(by simp[Lib.join,List.intercalate]);simp[*]
def nE(t:Rdn):List UInt8:=t.flatMap λa=>43::avT false a
def nw(d:List Rdn):List UInt8:=d.flatMap λr=>44::dy false r
theorem abt(a:Ava)(t:Rdn):dy false (a::t)=avT false a++nE t:=by simp only[dy,apL,if_false,apX,ZS,nE];simp[List.flatMap_map]
theorem ag5(r:Rdn)(d:List Rdn):bp false (r::d)=dy false r++nw d:=by simp only[bp,apX,ZS,nw];simp[List.flatMap_map]
theorem ZE:∀(f:Nat) (out:List Rdn) (b:Rdn) (a:Ava) (t:Rdn) (d:List Rdn),(avT false a++(nE t++nw d)).length<f->out.length<32->dX b (a::t)=0->jK (out.length+1) d=0 ->
  tP f out b (avT false a++(nE t++nw d))=(out++[b++a::t]++d,0)
 |0,_,_,_,_,_,h,_,_,_=>asP
 | f+1,out,b,(ty,v),t,d,hf,ho,hc,hd=>by
   unfold dX at hc;split at hc
   .omega
   rename_i g;split at hc
   .omega
   rename_i c;split at hc
   .omega
   rename_i e;simp only[Bool.not_eq_false]at c;have k:avT false (ty,v)++(nE t++nw d)=ty++61::(gS v++(nE t++nw d)):=(by simp[avT]);rw[k]at hf⊢;rw[tP,if_neg asP,aeu _ _ (aiF c)];simp only;rw[if_neg (by simp[c]),if_neg e];rcases t with _|⟨a2,t⟩
   .rcases d with _|⟨r,d⟩
    .rw[show nE []++nw []=([]:List UInt8)from rfl];rw[Su v (.inl rfl)];simp
    .rw[show nE []++nw (r::d)=44::(dy false r++nw d)by simp[nE,nw]]at hf⊢;rw[Su v (.inr ⟨44,_,rfl,.inl rfl⟩)];unfold jK at hd;split at hd
     .omega
     rename_i i;split at hd
     .omega
     rename_i l;split at hd
     .omega
     rename_i m;rcases r with _|⟨a2,t⟩
     .simp_all
     have j:=ZE f (out++[b++[(ty,v)]]) [] a2 t d;rw[abt,apG]at hf⊢
     grind
   .rw[show nE (a2::t)++nw d=43::(avT false a2++(nE t++nw d))by simp[nE]]at hf⊢;rw[Su v (.inr ⟨43,_,rfl,.inr rfl⟩)];have j:=ZE f out (b++[(ty,v)]) a2 t d
    grind
theorem ajo(h:jK 0 d=0)(e:(bp false d).length<=4096):dW (bp false d)=(d,0):=by unfold dW;rw[if_neg asP];rcases d with _|⟨r,d⟩;rfl;unfold jK at h;split at h;omega;split at h;omega;rename_i c;split at h;omega;rename_i b;simp only[ne_eq,ar6]at b;rcases r with _|⟨a,t⟩;simp_all;rw[ag5,abt,apG];rw[if_neg (by simp[avT])];have:=ZE ((avT false a++(nE t++nw d)).length+1) [] [] a t d asP asQ b h;simp_all
theorem jI(c:UInt8):(ga c).toNat=if 65<=c.toNat/\c.toNat<=90 then c.toNat+32 else c.toNat:=by
 by_cases h:65<=c.toNat/\c.toNat<=90;have:=acC h.1 h.2
 grind
 rw[N3 h,if_neg h]
theorem abH(c:UInt8):ga (ga c)=ga c:=by
 refine N3 ?_;rw[jI]
 grind
theorem Z5(s:List UInt8):ak (ak s)=ak s:=by unfold ak;rw[apS];exact aqJ λc _=>abH c
theorem Zu(s:List UInt8)(c:UInt8):cO (s++[c])=bh (cO s) c:=by simp[cO]
theorem Zv(s:List UInt8):(cO s).length<=s.length:=by have:=rH s s.length;simp_all
theorem acr(c:UInt8)(h:cO b=b):cO (bh b c)=bh b c:=by by_cases a:c=32/\JY b=true;simp only[bh,if_pos a];exact h;simp only[bh,if_neg a];rw[Zu,h,bh,if_neg a]
theorem aeo:∀(s b:List UInt8),cO b=b->cO (s.foldl bh b)=s.foldl bh b
 |[],_,h=>h
 |c::s,b,h=>aeo s (bh b c) (acr c h)
theorem Wy(s:List UInt8):cO (cO s)=cO s:=aeo s [] rfl
theorem al5(h:cO (b++[c])=b++[c]):cO b=b/\¬(c=32/\JY b=true):=by
 rw[Zu]at h;unfold bh at h;split at h;have:=Zv b
 grind
 simp_all
theorem Wv(h:cO b=b):cO (d9 b)=d9 b/\d9 (d9 b)=d9 b:=by
 rcases arz b with rfl|⟨d,c,rfl⟩;simp[d9,cO];rw[ar9]at h⊢;obtain⟨g,i⟩:=al5 h;rw[jR];split;rename_i a;refine⟨g,?_⟩;have f:JY d=false:=by simpa[a]using i
 unfold d9;rw[if_neg];intro e;simp[JY,e]at f;rename_i a;exact⟨h,by rw[jR,if_neg a]⟩
theorem acB{x:UInt8}(h:x∈bh b c):x∈b\/x=c:=by
 unfold bh at h
 grind
theorem adY:∀(s b:List UInt8){x:UInt8},x∈s.foldl bh b->x∈b\/x∈s
 |[],_,_,h=>.inl h
 | c::s,b,x,h=>by
   rcases adY s (bh b c) h with a|a
   .rcases acB a with d|d
    .simp[*]
    simp[*]
   simp[*]
theorem ahA{x:UInt8}(h:x∈d9 b):x∈b:=by unfold d9 at h;split at h;exact(List.dropLast_sublist b).subset h;omega
theorem ahB{x:UInt8}(h:x∈cg s):∃c∈s,x=ga c:=by
 rcases adY _ _ (ahA h)with a|a;simp_all;obtain⟨c,b,rfl⟩:=apz.1 a
 grind
theorem aep(s:List UInt8):ak (cg s)=cg s:=by unfold ak;rw[aqJ (g:=id) (λx a=>?_),List.map_id];obtain⟨c,_,rfl⟩:=ahB a;exact abH c
theorem afb(s:List UInt8):cg (cg s)=cg s:=by
 have a:cg (cg s)=d9 (cO (cg s)):=by show d9 (cO (ak (cg s)))=_;rw[aep]
 rw[a];have b:=Wv (Wy (ak s));show d9 (cO (d9 (cO (ak s))))=d9 (cO (ak s));simp[*]
def Chr(q:List UInt8):Prop:=q≠[]/\(∀s,Lib.validD (q++s)=Lib.validD s)/\((∃c:UInt8,q=[c]/\c.toNat<128)\/∀c∈q,128<=c.toNat)
inductive Seg:List UInt8->Prop
 |nil:Seg []
 |cons{q s:List UInt8}:Chr q->Seg s->Seg (q++s)
theorem Seg.app(h:Seg a)(c:Seg b):Seg (a++b):=by
 induction h with
 |nil=>exact c
 |cons hq _ ih=>rw[apG];exact .cons hq ih
theorem Seg.last(h:Seg s):∀d:List UInt8,s=d++[32]->Seg d:=by
 induction h with
 |nil=>intro d e;simp at e
 | @cons q s hq hs ih =>
   intro d e;rcases arz s with rfl|⟨b,c,rfl⟩
   .rw[ap4]at e;subst e;rcases hq.2.2 with⟨c,a,_⟩|g
    .have:d=[]:=by have:=congrArg List.length a;simp at this;omega
     simp[*]
    .have:=g 32 asQ;simp_all
   .rw[ar9]at *;rw[<- apG]at e;obtain⟨f,a⟩:=List.append_inj' e rfl;subst f;rw[a]at ih hs;exact .cons hq (ih b rfl)
def Dif(a b:Ava):Prop:=ak a.1≠ak b.1
theorem agH{r:Rdn}:lZ r t=false↔∀a∈r,ak a.1≠ak t:=by simp[lZ]
theorem aah:∀(t done:Rdn),done.length<=8->(dX done t=0↔done.length+t.length<=8/\(∀a∈t,jG a.1=true)/\(∀a∈done,∀b∈t,Dif a b)/\t.Pairwise Dif)
 |[],done,h=>by simp[dX,h]
 | a::t,done,h=>by
   unfold dX;by_cases j:done.length=8
   .grind
   rw[if_neg j];by_cases c:jG a.1=false
   .simp[*]
   rw[if_neg c];by_cases f:lZ done a.1=true
   .rw[if_pos f];constructor
    .omega
    .intro e;have:lZ done a.1=false:=agH.2 λb d=>e.2.2.1 b d a asQ
     simp_all
   rw[if_neg f,aah t (done++[a]) (by simp;omega)];simp only[Bool.not_eq_false]at c;have g:=agH.1 (by simpa using f);simp only[apB,apC,ap9,apy,apT,apP,aqq,or_false,forall_eq_or_imp,aq1];constructor
   .rintro⟨e1,e2,e3,e4⟩;refine⟨asP,⟨c,e2⟩,λx i=>⟨g x i,λb d=>e3 x (.inl i) b d⟩,λb d=>e3 a (.inr rfl) b d,e4⟩
   grind
theorem ag3(h:jG t=true):jG (ak t)=true:=by
 simp only[jG,apw,apF,decide_eq_true_eq]at h⊢;obtain⟨⟨⟨i,f⟩,d⟩,h4⟩:=h;have a:∀c:UInt8,o6 (c.toNat:Int)=true->o6 ((ga c).toNat:Int)=true:=by intro c b;have:=jI c;split at this;rw[this];simp only[o6,aqf,apw,decide_eq_true_eq]at b⊢;omega;simp[*]
 refine⟨⟨⟨by simpa[ak]using i,by simpa[ak]using f⟩,?_⟩,?_⟩;rcases t with _|⟨c,t⟩;simp_all;simpa[ak]using a c (by simpa using d);intro c b;obtain⟨x,g,rfl⟩:=apz.1 b;have:=h4 x g;simp only[Ty,aqf]at this⊢;rcases this with(e|e)|e;simp[*];refine .inl (.inr ?_);simp only[apw,decide_eq_true_eq]at e⊢;rw[jI,if_neg asP];exact e;refine .inr ?_;simp only[decide_eq_true_eq]at e⊢;rw[jI,if_neg asP];exact e
theorem Zx(r:Rdn):(iM r).Perm (r.map Ed):=by have:=(V8 r [] List.Pairwise.nil).2;rwa[apZ]at this
theorem ahw(a:Ava):Ed (Ed a)=Ed a:=by simp[Ed,Z5,afb]
theorem acZ{r:Rdn}(h:dX [] r=0):dX [] (iM r)=0:=by
 rw[aah _ _ asQ]at h⊢;obtain⟨i,g,_,h4⟩:=h;have d:=Zx r;refine⟨by simpa[tf]using i,λa c=>?_,λa c=>(by cases c),?_⟩;obtain⟨b,f,rfl⟩:=apz.1 (d.mem_iff.1 c);exact ag3 (g b f);refine(d.pairwise_iff (λ{a b} e=>Ne.symm e)).2 ?_;rw[aso];refine h4.imp λ{a b} e=>?_
 simpa[Dif,Ed,Z5]using e
theorem aai:∀(d:List Rdn) (i:Nat),jK i d=0->jK i (gX d)=0
 |[],_,h=>h
 | r::d,i,h=>by
   unfold jK at h;show jK i (iM r::gX d)=0;unfold jK;split at h
   .omega
   rename_i a;split at h
   .omega
   rename_i c;split at h
   .omega
   rename_i b;simp only[ne_eq,ar6]at b;rw[if_neg a,if_neg,if_neg (by simpa using acZ b),aai d _ h];intro e;have:=congrArg List.length e;rw[tf]at this;simp_all
def wtB(c:UInt8):Nat:=if c=0 then 3 else if c∈([34,43,44,59,60,62,92]:List UInt8)then 2 else 1
def wtS(s:List UInt8):Nat:=(s.map wtB).sum
theorem agb(a b:List UInt8):wtS (a++b)=wtS a+wtS b:=by simp[wtS]
theorem amW:∀c:UInt8,wtB (ga c)=wtB c:=by
 intro c;by_cases h:65<=c.toNat/\c.toNat<=90
 .have h2:=jI c;rw[if_pos h]at h2;have g:∀x:UInt8,65<=x.toNat->x.toNat≠92->wtB x=1:=by
   intro x a b;unfold wtB;rw[if_neg (by rintro rfl;exact absurd a (by decide)),if_neg];simp only[apP,aqq,or_false];rintro(rfl|rfl|rfl|rfl|rfl|rfl|rfl)
   all_goals first|exact absurd a (by decide)|exact absurd rfl b
  grind
 rw[N3 h]
theorem adg(s:List UInt8):wtS (ak s)=wtS s:=by simp only[wtS,ak,apS];rw[show(wtB∘ga)=wtB from funext amW]
theorem am0(i n:Nat)(c:UInt8):wtB c<=(wrB i n c).length:=by
 unfold wtB wrB
 grind
theorem aeW(n:Nat):∀(s:List UInt8) (i:Nat),wtS s<=(wrL n i s).length
 |[],_=>by simp[wtS]
 |c::s,i=>by have a:=aeW n s (i+1);have b:=am0 i n c;simp only[wrL,apB,wtS,apX,arb]at a⊢;omega
theorem am2{n:Nat}(a:i≠0)(b:c≠32):(wrB i n c).length=wtB c:=by
 unfold wtB wrB
 grind
theorem am1{n:Nat}(a:i≠0)(b:i+1≠n):(wrB i n 32).length=wtB 32:=by
 have e:wrB i n 32=[32]:=by unfold wrB;simp[*]
 rw[e];decide
theorem aiv(n:Nat):∀(s:List UInt8) (i:Nat),i≠0->n=i+s.length->s.getLast?≠some 32->(wrL n i s).length=wtS s
 |[],_,_,_,_=>by simp[wrL,wtS]
 | c::s,i,hi,hn,hl=>by
   have f:s.getLast?≠some 32:=by grind
   have b:=aiv n s (i+1) asP (by simp at hn;omega) f;have d:(wrB i n c).length=wtB c:=by
    by_cases a:c=32
    .subst a;refine am1 hi λe=>?_
     simp_all
    .exact am2 hi a
   rw[wrL,apB,b,d];rfl
theorem aiu(s:List UInt8):wtS s<=(gS s).length:=aeW _ _ _
theorem aeV(s:List UInt8):wtS (35::s)+1<=(gS (35::s)).length:=by
 have a:=aeW (s.length+1) s 1;have e:wrB 0 (s.length+1) 35=[92,35]:=by rfl
 show _<=(wrB 0 (s.length+1) 35++wrL (s.length+1) 1 s).length;rw[e];have:wtB 35=1:=by decide
 simp only[wtS,apX,arb,apB,apC,ap9]at a⊢;omega
theorem ait(e:c≠32)(d:(c::s).getLast?≠some 32):(gS (c::s)).length=wtS (c::s)+(if c=35 then 1 else 0):=by
 have b:s.getLast?≠some 32:=by grind
 have a:=aiv (s.length+1) s 1 asP asP b;show(wrB 0 (s.length+1) c++wrL (s.length+1) 1 s).length=_;rw[apB,a];have h4:(wrB 0 (s.length+1) c).length=wtB c+(if c=35 then 1 else 0):=by
  unfold wtB wrB;by_cases f:c=0;simp[*]
  grind
 rw[h4];simp[wtS];omega
theorem akZ(b:List UInt8)(c:UInt8):wtS (bh b c)<=wtS b+wtB c:=by unfold bh;split;omega;rw[agb];simp[wtS]
theorem acf:∀(s b:List UInt8),wtS (s.foldl bh b)<=wtS b+wtS s
 |[],b=>by simp[wtS]
 |c::s,b=>by have a:=acf s (bh b c);have d:=akZ b c;simp only[aqt,wtS,apX,arb]at a d⊢;omega
theorem aga(b:List UInt8):wtS (d9 b)<=wtS b:=by rcases arz b with rfl|⟨d,c,rfl⟩;simp[d9];rw[ar9,jR];split;rw[agb];omega;omega
theorem WJ:∀(s:List UInt8) (x:UInt8) (b:List UInt8),∃t,s.foldl bh (x::b)=x::t
 |[],x,b=>⟨b,rfl⟩
 | c::s,x,b=>by
   rw[aqt,bh];split
   .exact WJ s x b
   .exact WJ s x (b++[c])
theorem ak0(c:UInt8):1<=wtB c:=by
 unfold wtB
 grind
theorem afr(s:List UInt8):(cg s).getLast?≠some 32:=by
 have h:=Wv (Wy (ak s));have e:d9 (cg s)=cg s:=h.2;intro a;rcases arz (cg s)with q|⟨d,c,q⟩;simp_all;rw[q,ar9]at e a;rw[jR,if_pos (by simpa using a)]at e
 grind
theorem afx(h:cg s=c::t):c≠32:=by
 have e:cO (cg s)=cg s:=(Wv (Wy (ak s))).1;rw[h]at e;rintro rfl;have:=Zv t;have a:cO (32::t)=t.foldl bh []:=rfl;rw[a]at e;have:=congrArg List.length e;have b:(t.foldl bh []).length<=t.length:=Zv t
 grind
theorem agV(s:List UInt8):(gS (cg s)).length<=(gS s).length:=by
 have w:=aiu s;have p:wtS (cg s)<=wtS s:=by have k:=aga (cO (ak s));have r:=acf (ak s) [];have n:=adg s;have h4:wtS (cO (ak s))=wtS ((ak s).foldl bh []):=rfl;have z:wtS ([]:List UInt8)=0:=rfl;show wtS (d9 (cO (ak s)))<=_;omega
 rcases hp:cg s with _|⟨c,t⟩;simp[gS,wrL];have i:=afr s;rw[hp]at i p;rw[ait (afx hp) i];split;rename_i f;subst f;rcases s with _|⟨x,s⟩;have:cg []=[]:=rfl;simp_all;by_cases g:x=35;subst g;have:=aeV s;omega;by_cases a:x=32;subst a;have e:cg (32::s)=cg s:=rfl;have k:=aga (cO (ak s));have r:=acf (ak s) [];have n:=adg s;have h4:wtS (cO (ak s))=wtS ((ak s).foldl bh []):=rfl;have z:wtS ([]:List UInt8)=0:=rfl;have j:wtS (cg s)=wtS (d9 (cO (ak s))):=rfl;rw[e]at hp;rw[hp]at j;have A:wtS (32::s)=wtB 32+wtS s:=by simp[wtS]
 have B:=ak0 32;omega;exfalso;have b:¬(ga x=32):=by
  intro q;have:=jI x;rw[q]at this;apply a;have:x.toNat=32:=by grind
  exact UInt8.toNat.inj this
 have h:¬(ga x=35):=by
  intro q;have:=jI x;rw[q]at this;apply g;have:x.toNat=35:=by grind
  exact UInt8.toNat.inj this
 have l:ak (x::s)=ga x::ak s:=rfl;obtain⟨u,v⟩:=WJ (ak s) (ga x) [];have m:cO (ak (x::s))=ga x::u:=by rw[l,<- v];show(ak s).foldl bh (bh [] (ga x))=_;rw[bh,if_neg (λq=>b q.1)];rfl
 have o:d9 (ga x::u)=35::t:=by rw[<- m];exact hp
 rcases arz u with rfl|⟨d,y,rfl⟩;have:d9 ([]++[ga x])=[]++[ga x]:=by rw[jR,if_neg b]
 simp_all;rw[ar9,<- aqa,jR]at o
 grind
 omega
theorem o5(xs:List (List UInt8))(c:UInt8):(Lib.join xs [c]).length+1=(xs.map List.length).sum+xs.length+(if xs=[]then 1 else 0):=by
 rcases xs with _|⟨x,xs⟩;rfl;rw[ZS,if_neg asQ];have:(xs.flatMap λy=>[c]++y).length=(xs.map List.length).sum+xs.length:=by
  induction xs with
  |nil=>rfl
  |cons y l ih=>simp only[ap5,apB,ih,apX,arb,apC,ap9];omega
 grind
theorem ae3{α:Type}{f g:α->Nat}:∀l:List α,(∀a∈l,f a<=g a)->(l.map f).sum<=(l.map g).sum
 |[],_=>apt _
 | a::l,h=>by
   have c:=ae3 l λx b=>h x (by simp[b])
   grind
theorem ajj{l m:List Nat}(h:l.Perm m):l.sum=m.sum:=by grind
theorem ady(r:Rdn):(dy true r).length<=(dy false r).length:=by
 have b:(fE (r.map (avT true))).Perm (r.map (avT true)):=aq8 _ _;have g:=o5 (fE (r.map (avT true))) 43;have f:=o5 (r.map (avT false)) 43;have c:((fE (r.map (avT true))).map List.length).sum=((r.map (avT true)).map List.length).sum:=ajj (b.map _);have h4:(fE (r.map (avT true))).length=r.length:=by rw[b.length_eq];simp
 have d:((r.map (avT true)).map List.length).sum<=((r.map (avT false)).map List.length).sum:=by
  rw[apS,apS];refine ae3 r λa _=>?_
  have:=agV a.2;simp only[arQ,avT,if_true,apL,if_false,apB,apC,ap9];simp only[ak,apQ];omega
 have e:(if fE (r.map (avT true))=[]then 1 else 0)=(if r.map (avT false)=[]then 1 else 0):=by grind
 simp only[dy,if_true,apL,if_false]
 grind
theorem adp(d:List Rdn):(bp true d).length<=(bp false d).length:=by
 have a:=o5 (d.map (dy true)) 44;have c:=o5 (d.map (dy false)) 44;have e:((d.map (dy true)).map List.length).sum<=((d.map (dy false)).map List.length).sum:=by rw[apS,apS];exact ae3 d λr _=>ady r
 have b:(if d.map (dy true)=[]then 1 else 0)=(if d.map (dy false)=[]then 1 else 0):=by simp
 rw[b]at a;simp only[apQ]at a c;unfold bp;omega
theorem ag9{xs d:List (List UInt8)}(h:xs.Perm d):fE xs=fE d:=by
 have e:∀zs:List (List UInt8),(fE zs).Pairwise λx y=>x<=y:=λzs=>by
  have:=ass (le:=λx y:List UInt8=>decide (x<=y)) (λa b c g f=>by
   simp only[decide_eq_true_eq]at *;exact List.le_trans g f) (λa b=>by
   simp only[aqf,decide_eq_true_eq];exact List.le_total a b) zs
  exact this.imp λh=>by simpa using h
 refine asH (le:=λx y=>x<=y) (λa b _ _=>asq) (e xs) (e d) ?_;exact(aq8 _ _).trans (h.trans (aq8 _ _).symm)
theorem ae5(r:Rdn):dy true (iM r)=dy true r:=by simp only[dy,if_true];congr 1;refine ag9 ?_;refine((Zx r).map _).trans ?_;rw[apS];rw[show(avT true∘Ed)=avT true from funext λa=>by simp only[arQ,amq,ahw]]
abbrev Pth:=List (List UInt8)
variable {p:Pth}
abbrev INm:=Int×Pth
def bF(l:List INm)(p:Pth):Nat:=(l.filter λm=>decide (m.2≠[]/\m.2.tail=p)).length
structure tL(suf:Pth)(l:List INm):Prop where
 sne:suf≠[]
 nd:(l.map (·.2)).Nodup
 ids:(l.map (·.1)).Nodup
 un:∀m∈l,suf <:+ m.2
 par:∀m∈l,m.2=suf\/∃k∈l,k.2=m.2.tail
theorem tL.nil{suf:Pth}(h:suf≠[]):tL suf []:=⟨h,asQ,asQ,λ_ h=>absurd h aqq,λ_ h=>absurd h aqq⟩
theorem f9{α β:Type}{f:α->β}:∀{l:List α},(l.map f).Nodup->∀{a b:α},a∈l->b∈l->f a=f b->a=b
 |[],_,a,_,h,_,_=>by cases h
 | x::l,h,a,b,ha,hb,e=>by
   rw[apX,aqI]at h;rcases apP.1 ha with g|d<;>rcases apP.1 hb with i|c
   .simp[*]
   .grind
   .simp_all
   .exact f9 h.2 d c e
theorem EL{α β:Type}{f:α->β}:∀{l:List α},(l.map f).Nodup->l.Nodup
 |[],_=>List.nodup_nil
 |x::l,h=>by rw[apX,aqI]at h;exact aqI.2 ⟨λa=>h.1 (apz.2 ⟨x,a,rfl⟩),EL h.2⟩
theorem tL.byP{suf:Pth}{l:List INm}(h:tL suf l){a b:INm}(d:a∈l)(c:b∈l)(e:a.2=b.2):a=b:=f9 h.nd d c e
theorem tL.byI{suf:Pth}{l:List INm}(h:tL suf l){a b:INm}(d:a∈l)(c:b∈l)(e:a.1=b.1):a=b:=f9 h.ids d c e
theorem tL.ne{suf:Pth}{l:List INm}(h:tL suf l){m:INm}(a:m∈l):m.2≠[]:=λe=>h.sne (by have:=h.un m a;rw[e]at this;exact List.suffix_nil.1 this)
theorem tL.anc{suf:Pth}{l:List INm}(h:tL suf l):∀(n:Nat) (k:INm) (y x:Pth),y.length=n->k∈l->k.2=y++x->suf <:+ x->∃m∈l,m.2=x
 |0,k,y,x,hy,hk,e,_=>⟨k,hk,by rw[e,List.eq_nil_of_length_eq_zero hy];rfl⟩
 | n+1,k,y,x,hy,hk,e,hs=>by
   obtain⟨a,b,rfl⟩:∃a b,y=a::b:=by
    cases y with
    |nil=>simp at hy
    |cons a b=>exact⟨a,b,rfl⟩
   rcases h.par k hk with c|⟨p,d,c⟩
   .have h1:=hs.length_le
    grind
   .rw[e]at c;exact h.anc n p b x (by simpa using hy) d c hs
theorem tL.ancS{suf:Pth}{l:List INm}(h:tL suf l){k:INm}{x:Pth}(a:k∈l)(b:x <:+ k.2)(c:suf <:+ x):∃m∈l,m.2=x:=by obtain⟨y,e⟩:=b;exact h.anc y.length k y x rfl a e.symm c
theorem tL.added{suf:Pth}{l:List INm}(h:tL suf l)(hid:∀m∈l,m.1≠id)(i:∀m∈l,m.2≠p)(f:p=suf\/∃k∈l,k.2=p.tail):
  tL suf (l++[(id,p)])/\bF (l++[(id,p)]) p=0/\∀q,bF (l++[(id,p)]) q=bF l q+if p.tail=q then 1 else 0:=by
 have b:suf <:+ p:=by rcases f with rfl|⟨k,c,e⟩;simp;have:=h.un k c;rw[e]at this;exact this.trans (arD p)
 have g:p≠[]:=λe=>h.sne (by rw[e]at b;exact List.suffix_nil.1 b)
 have c:∀q,bF (l++[(id,p)]) q=bF l q+if p.tail=q then 1 else 0:=λq=>by
  unfold bF
  grind
 refine⟨⟨h.sne,?_,?_,?_,?_⟩,?_,c⟩;rw[ap1,arR];refine⟨h.nd,asQ,?_⟩
 grind
 rw[ap1,arR];refine⟨h.ids,asQ,?_⟩
 grind
 intro m a;rcases apy.1 a with a|a;exact h.un m a;simp_all;intro m a;rcases apy.1 a with a|a;rcases h.par m a with e|⟨k,c,e⟩;simp[*]
 grind
 rw[apT.1 a];rcases f with e|⟨k,c,e⟩;simp[*]
 grind
 rw[c p];have j:¬p.tail=p:=λe=>by
  have:=congrArg List.length e
  grind
 rw[if_neg j];have:bF l p=0:=by
  unfold bF;rw[aqc,List.filter_eq_nil_iff];intro m a d;simp only[decide_eq_true_eq]at d;rcases h.par m a with e|⟨k,c,e⟩;have:=b.length_le;rw[<- d.2,e,arc]at this;have:=aqi.2 h.sne;omega
  grind
 omega
theorem tL.deleted{suf:Pth}{l:List INm}(h:tL suf l)(b:(id,p)∈l)(g:bF l p=0):
  tL suf (l.filter λm=>decide (m.1≠id))/\∀q,bF (l.filter λm=>decide (m.1≠id)) q+(if p.tail=q then 1 else 0)=bF l q:=by
 have sub:∀m∈l.filter (λm=>decide (m.1≠id)),m∈l/\m.1≠id:=λm b=>by simpa using ap8.1 b
 refine⟨⟨h.sne,(List.filter_sublist.map _).nodup h.nd,(List.filter_sublist.map _).nodup h.ids,λm b=>h.un m (sub m b).1,λm f=>?_⟩,λq=>?_⟩;obtain⟨c,n⟩:=sub m f;rcases h.par m c with e|⟨k,i,e⟩;simp[*];refine .inr ⟨k,?_,e⟩;simp only[ap8,decide_eq_true_eq];refine⟨i,λo=>?_⟩;have:k=(id,p):=h.byI i b o;subst this;unfold bF at g;rw[aqc,List.filter_eq_nil_iff]at g;exact g m c (by simp only[decide_eq_true_eq];exact⟨h.ne c,e.symm⟩);have key:∀l:List INm,(l.map (·.1)).Nodup->(id,p)∈l->p≠[]->bF (l.filter λm=>decide (m.1≠id)) q+(if p.tail=q then 1 else 0)=bF l q:=by
  intro l;induction l with
  |nil=>intro _ h;cases h
  | cons a l ih =>
    intro j b d;rw[apX,aqI]at j;rcases apP.1 b with rfl|b
    .have:l.filter (λm=>decide (m.1≠id))=l:=List.filter_eq_self.2 λm b=>by grind
     unfold bF
     grind
    .have:=ih j.2 b d;unfold bF at this⊢
     grind
 exact key l h.ids b (h.ne b)
def ren(p q x:Pth):Pth:=if p <:+ x then x.take (x.length-p.length)++q else x
theorem iO(p q y:Pth):ren p q (y++p)=y++q:=by unfold ren;simp
theorem gW{q x:Pth}(h:¬p <:+ x):ren p q x=x:=by unfold ren;rw[if_neg h]
theorem aaf{α:Type}{f g:α->Bool}{a:α}:∀{l:List α},l.Nodup->a∈l->(∀k∈l,k≠a->f k=g k)->(l.filter f).length+(if g a=true then 1 else 0)=(l.filter g).length+(if f a=true then 1 else 0)
 |[],_,h,_=>by cases h
 | x::l,hn,hm,he=>by
   obtain⟨i,c⟩:=aqI.1 hn;by_cases d:x=a
   .subst d;have:l.filter f=l.filter g:=List.filter_congr λk b=>he k (by simp[b]) λe=>i (e▸b)
    grind
   .have hm':a∈l:=by grind
    have j:=aaf c hm' λk b=>he k (by simp[b])
    grind
theorem tL.moved{suf:Pth}{l:List INm}(h:tL suf l){q:Pth}(F:(id,p)∈l)(Q:p≠suf)(V:q≠[])(G:¬p <:+ q.tail)(I:∃k∈l,k.2=q.tail)(P:∀m∈l,m.2=q->m.1=id):
  tL suf (l.map λm=>(m.1,ren p q m.2))/\∀m∈l,(bF (l.map λm=>(m.1,ren p q m.2)) (ren p q m.2):Int)=bF l m.2+(if m.2=q.tail then 1 else 0)-(if m.2=p.tail then 1 else 0):=by
 have J:suf <:+ q:=by obtain⟨k,i,e⟩:=I;have:=h.un k i;rw[e]at this;exact this.trans (arD q)
 have O:=h.un _ F;have u:=h.ne F;have R:∀k∈l,q <:+ k.2->p <:+ k.2:=λk i c=>by obtain⟨m,n,e⟩:=h.ancS i c J;have:m=(id,p):=h.byI n F (P m n e);simp_all
 have inj:∀a∈l,∀b∈l,ren p q a.2=ren p q b.2->a=b:=λa W b D e=>by
  by_cases L:p <:+ a.2<;>by_cases N:p <:+ b.2;obtain⟨y,w⟩:=L;obtain⟨z,t⟩:=N;rw[<- w,<- t,iO,iO]at e;exact h.byP W D (by rw[<- w,<- t,List.append_cancel_right e]);obtain⟨y,w⟩:=L;rw[<- w,iO,gW N]at e
  grind
  obtain⟨z,t⟩:=N;rw[<- t,iO,gW L]at e
  grind
  rw[gW L,gW N]at e;exact h.byP W D e
 have r:∀k∈l,p <:+ k.2->∃j∈l,j.2=k.2.tail:=λk i c=>by rcases h.par k i with e|e;rw[e]at c;exact absurd (c.eq_of_length_le O.length_le) Q;omega
 have C:∀y:Pth,y≠[]->(y++q).tail=y.tail++q/\(y++p).tail=y.tail++p:=λy s=>by simp[*]
 have B:l.Nodup:=EL h.ids;refine⟨⟨h.sne,?_,by rw[apS];exact h.ids,?_,?_⟩,?_⟩;rw[apS];have:∀A:List INm,(∀x∈A,x∈l)->A.Nodup->(A.map ((·.2)∘λm:INm=>(m.1,ren p q m.2))).Nodup:=by
  intro A;induction A with
  |nil=>intro _ _;simp
  | cons a A ih =>
    intro c Z;obtain⟨n1,n2⟩:=aqI.1 Z;rw[apX,aqI];refine⟨λS=>?_,ih (λx X=>c x (by simp[X])) n2⟩;obtain⟨b,D,e⟩:=apz.1 S;exact n1 (inj b (c b (by simp[D])) a (c a asQ) e▸D)
 exact this l (λ_ h=>h) B;intro m n;obtain⟨k,i,rfl⟩:=apz.1 n;simp only;by_cases c:p <:+ k.2;obtain⟨y,e⟩:=c;rw[<- e,iO];exact J.trans (List.suffix_append ..);rw[gW c];exact h.un k i;intro m n;obtain⟨k,i,rfl⟩:=apz.1 n;simp only;by_cases c:p <:+ k.2;obtain⟨y,e⟩:=c;rw[<- e,iO];right;by_cases s:y=[];subst s;obtain⟨j,v,o⟩:=I;exact⟨_,ar7 v,by simp only;rw[o,gW G];rfl⟩;obtain⟨j,v,o⟩:=r k i ⟨y,e⟩;rw[<- e,(C y s).2]at o;exact⟨_,ar7 v,by simp only;rw[o,iO,(C y s).1]⟩;rw[gW c];rcases h.par k i with e|⟨j,v,o⟩;exact .inl e;refine .inr ⟨_,ar7 v,?_⟩;simp only;rw[o,gW (λS=>c (S.trans (arD _)))];intro m U;have H:∀y:Pth,y++q≠[]:=λy e=>V (List.append_eq_nil_iff.1 e).2
 have w:bF (l.map λm=>(m.1,ren p q m.2)) (ren p q m.2)=(l.filter λk=>decide (ren p q k.2≠[]/\(ren p q k.2).tail=ren p q m.2)).length:=by unfold bF;rw[List.filter_map,apQ];rfl
 have M:=aaf (f:=λk:INm=>decide (ren p q k.2≠[]/\(ren p q k.2).tail=ren p q m.2)) (g:=λk:INm=>decide (k.2≠[]/\k.2.tail=m.2)) B F λk i T=>by
  congr 1;apply propext;by_cases c:p <:+ k.2;obtain⟨j,v,o⟩:=r k i c;obtain⟨y,e⟩:=c;have s:y≠[]:=λt=>by subst t;exact T (h.byP i F e.symm)
  rw[<- e]at o⊢;rw[iO,(C y s).1,(C y s).2];rw[(C y s).2]at o;constructor;rintro⟨_,d⟩;refine⟨λe4=>u (List.append_eq_nil_iff.1 e4).2,?_⟩;have:j=m:=inj j v m U (by rw[o,iO,d]);rw[<- this,o];rintro⟨_,d⟩;exact⟨H _,by rw[<- d,iO]⟩;rw[gW c];by_cases K:p <:+ m.2;obtain⟨y,e⟩:=K;rw[<- e,iO];constructor;rintro⟨_,d⟩;exact absurd (R k i (List.IsSuffix.trans (⟨y,d.symm⟩:q <:+ k.2.tail) (arD _))) c;rintro⟨_,d⟩;exact absurd (List.IsSuffix.trans (⟨y,d.symm⟩:p <:+ k.2.tail) (arD _)) c;rw[gW K]
 rw[<- w]at M;have Y:decide (ren p q (id,p).2≠[]/\(ren p q (id,p).2).tail=ren p q m.2)=decide (m.2=q.tail):=by have t:ren p q p=q:=(by have:=iO p q [];simpa using this);simp only[t];congr 1;apply propext;by_cases K:p <:+ m.2;obtain⟨y,e⟩:=K;rw[<- e,iO];constructor;rintro⟨_,d⟩;have:=congrArg List.length d;rw[arc,apB]at this;have:=aqi.2 V;omega;intro d;exact absurd ⟨y,d⟩ G;rw[gW K];exact⟨λd=>d.2.symm,λd=>⟨V,d.symm⟩⟩
 have g1:decide ((id,p).2≠[]/\(id,p).2.tail=m.2)=decide (m.2=p.tail):=by congr 1;apply propext;exact⟨λd=>d.2.symm,λd=>⟨u,d.symm⟩⟩
 simp only[Y,g1,decide_eq_true_eq]at M;have E:bF (l.map λm=>(m.1,ren p q m.2)) (ren p q m.2)+(if m.2=p.tail then 1 else 0)=bF l m.2+(if m.2=q.tail then 1 else 0):=M;clear M;revert E;split<;>split<;>intro E<;>omega
def NK(d:List Rdn):Pth:=d.map (dy true)
def OkD(d:List Rdn):Prop:=(prS d).2=0
instance (d:List Rdn):Decidable (OkD d):=inferInstanceAs (Decidable (_=_))
theorem aaj:∀(d:List Rdn) (i:Nat),i<=32->(jK i d=0↔i+d.length<=32/\∀r∈d,r≠[]/\dX [] r=0)
 |[],i,h=>by simp[jK,h]
 | r::d,i,h=>by
   unfold jK;by_cases c:i=32
   .grind
   rw[if_neg c];by_cases b:r=[]
   .simp[*]
   rw[if_neg b];by_cases a:dX [] r=0
   .rw[if_neg (by simpa using a),aaj d (i+1) asP]
    grind
   simp[*]
theorem VW(d:List Rdn):OkD d↔d.length<=32/\(∀r∈d,r≠[]/\dX [] r=0)/\JV d=false/\(bp false d).length<=4096:=by
 have a:=aaj d 0 asP;unfold OkD prS
 grind
theorem OkD.nil:OkD []:=(VW []).2 ⟨asQ,asQ,by rfl,by decide⟩
theorem aiH(k:Bool)(c d:List Rdn):(bp k d).length<=(bp k (c++d)).length:=by
 have b:=o5 (d.map (dy k)) 44;have a:=o5 ((c++d).map (dy k)) 44;unfold bp
 grind
theorem OkD.app{c:List Rdn}(h:OkD (c++d)):OkD d:=by rw[VW]at h⊢;obtain⟨e,b,a,h4⟩:=h;refine⟨by simp at e;omega,λr f=>b r (by simp[f]),?_,apR (aiH _ _ _) h4⟩;unfold JV at a⊢;simp_all
theorem OkD.drop(h:OkD d)(n:Nat):OkD (d.drop n):=OkD.app (c:=d.take n) (by rw[aq5];exact h)
theorem OkD.tail(h:OkD d):OkD d.tail:=by rw[<- asa];exact h.drop 1
theorem OkD.len(h:OkD d):d.length<=32:=((VW d).1 h).1
theorem iP(h:OkD d):SF d=(bp true d,0):=by unfold SF;rw[if_neg (by simpa[OkD]using h)]
theorem VY(h:¬OkD d):(SF d).2≠0:=by unfold SF;rw[if_pos (show(prS d).2≠0 from h)];exact h
theorem OkD.plain(h:OkD d):dW (bp true d)=(gX d,0):=by obtain⟨e,a,c,h4⟩:=(VW d).1 h;have b:jK 0 d=0:=(aaj d 0 asP).2 ⟨asP,a⟩;have:=adp d;rw[<- EK d];exact ajo (aai d 0 b) (by rw[EK];omega)
theorem aeO(d:List Rdn):NK (gX d)=NK d:=by unfold NK gX;rw[apS];rw[show(dy true∘iM)=dy true from funext ae5]
theorem kD{e:List Rdn}(b:OkD d)(c:OkD e):bp true d=bp true e↔NK d=NK e:=by
 constructor;intro h;have a:=b.plain;rw[h,c.plain]at a;have:gX e=gX d:=by injection a
 rw[<- aeO d,<- this,aeO];intro h;unfold NK at h;unfold bp;rw[h]
theorem bD(d:List Rdn):(NK d).length=d.length:=by simp[NK]
theorem Tl :NK d=[]↔d=[]:=by simp[NK]
theorem agT(d:List Rdn)(n:Nat):NK (d.drop n)=(NK d).drop n:=by simp[NK]
theorem Ws(d:List Rdn):NK d.tail=(NK d).tail:=by simp[NK]
def cC(d b:List Rdn):Bool:=decide (OkD d)&&decide (OkD b)&&decide (b.length<=d.length)&&decide (bp true (d.drop (d.length-b.length))=bp true b)
theorem cD{b:List Rdn}:cC d b=true↔OkD d/\OkD b/\NK b <:+ NK d:=by
 unfold cC;simp only[apw,decide_eq_true_eq];constructor;rintro⟨⟨⟨c,a⟩,f⟩,h4⟩;refine⟨c,a,?_⟩;rw[kD (c.drop _) a,agT]at h4;rw[<- h4];exact List.drop_suffix _ _;rintro⟨c,a,f⟩;have g:=f.length_le;rw[bD,bD]at g;rw[kD (c.drop _) a,agT];obtain⟨y,e⟩:=f;have:y.length=d.length-b.length:=by have:=congrArg List.length e;rw[apB,bD,bD]at this;omega
 grind
def kH(a b:List Rdn):Bool:=decide (a.length=b.length)&&cC a b
theorem adv{a b:List Rdn}:kH a b=true↔OkD a/\OkD b/\NK a=NK b:=by unfold kH;rw[apw,decide_eq_true_eq,cD];constructor;rintro⟨e,d,c,h4⟩;exact⟨d,c,(h4.eq_of_length (by rw[bD,bD,e])).symm⟩;rintro⟨e,d,c⟩;exact⟨by rw[<- bD,c,bD],e,d,by rw[c];exact arB _⟩
structure Ent(α:Type)where
 id:Int
 nm:List Rdn
 av:α
variable {α:Type}
def d8(l:List (Ent α)):List INm:=l.map λx=>(x.id,NK x.nm)
structure TOk(suf:List Rdn)(last:Int)(l:List (Ent α)):Prop where
 sok:OkD suf
 ok:∀x∈l,OkD x.nm
 inv:tL (NK suf) (d8 l)
 ids:∀x∈l,1<=x.id/\x.id<=last
theorem gM{l:List (Ent α)}{x:Ent α}(h:x∈l):(x.id,NK x.nm)∈d8 l:=apz.2 ⟨x,h,rfl⟩
theorem TOk.byN{last:Int}{l:List (Ent α)}(h:TOk suf last l){a b:Ent α}(f:a∈l)(d:b∈l)(e:NK a.nm=NK b.nm):a=b:=by have c:=h.inv.nd;unfold d8 at c;rw[apS]at c;exact f9 c f d e
theorem TOk.byI{last:Int}{l:List (Ent α)}(h:TOk suf last l){a b:Ent α}(f:a∈l)(d:b∈l)(e:a.id=b.id):a=b:=by have c:=h.inv.ids;unfold d8 at c;rw[apS]at c;exact f9 c f d e
def atE(l:List (Ent α))(d:List Rdn):Option (Ent α):=if OkD d then l.find? (λx=>decide (NK x.nm=NK d))else none
def bC(l:List (Ent α))(d:List Rdn):Int:=match atE l d with|some x=>x.id|none=>0
def o7(l:List (Ent α))(id:Int):Option (Ent α):=l.find? (λx=>decide (x.id=id))
def iQ(l:List (Ent α))(id:Int):Nat:=match o7 l id with|some x=>bF (d8 l) (NK x.nm)|none=>0
theorem cQ{l:List (Ent α)}{x:Ent α}(h:atE l d=some x):OkD d/\x∈l/\NK x.nm=NK d:=by
 unfold atE at h
 grind
theorem TOk.at{last:Int}{l:List (Ent α)}(h:TOk suf last l){x:Ent α}(a:x∈l)(b:OkD d)(e:NK d=NK x.nm):atE l d=some x:=by
 unfold atE;rw[if_pos b];cases hf:l.find? (λx=>decide (NK x.nm=NK d))with
 |none=>exact absurd e.symm (by simpa using aq2.1 hf x a)
 |some y=>rw[h.byN (arl hf) a (by rw[<- e];simpa using arm hf)]
theorem tJ{l:List (Ent α)}:atE l d=none↔(OkD d->∀x∈l,NK x.nm≠NK d):=by unfold atE;simp
theorem TOk.ent{last:Int}{l:List (Ent α)}(h:TOk suf last l){x:Ent α}(a:x∈l):o7 l x.id=some x:=by
 unfold o7;cases hf:l.find? (λy=>decide (y.id=x.id))with
 |none=>exact absurd (aq2.1 hf x a) asQ
 |some y=>rw[h.byI (arl hf) a (by simpa using arm hf)]
theorem TOk.find0{last:Int}{l:List (Ent α)}(h:TOk suf last l):bC l d=0↔atE l d=none:=by
 unfold bC;cases hf:atE l d with
 |none=>simp
 | some x =>
   have:=h.ids x (cQ hf).2.1
   grind
theorem TOk.kids{last:Int}{l:List (Ent α)}(h:TOk suf last l){x:Ent α}(i:x∈l):bF (d8 l) (NK x.nm)=(l.filter λk=>decide (k.nm.length=x.nm.length+1)&&cC k.nm x.nm).length:=by
 unfold bF d8;rw[List.filter_map,apQ];congr 1;refine List.filter_congr λk g=>?_
 rw[arS];simp only[arQ,apw,decide_eq_true_eq,cD];constructor;rintro⟨c,b⟩;have f:=congrArg List.length b;have d:=aqi.2 c;rw[arc,bD,bD]at f;rw[bD]at d;exact⟨asP,h.ok k g,h.ok x i,by rw[<- b];exact arD _⟩;rintro⟨c,_,_,b⟩;obtain⟨y,e⟩:=b;have j:=congrArg List.length e;rw[apB,bD,bD]at j;obtain⟨a,rfl⟩:∃a,y=[a]:=List.length_eq_one_iff.1 asP
 grind
theorem Ww{β:Type}{x y z:List β}(b:x <:+ z)(a:y <:+ z)(h:x.length<=y.length):x <:+ y:=List.suffix_of_suffix_length_le b a h
open Go Go.Sort
def cpS(a b:List UInt8):Int:=if a<b then -1 else if b<a then 1 else 0
def cpP:Pth->Pth->Int
 |[],[]=>0
 |[],_::_=>-1
 |_::_,[]=>1
 |x::a,y::b=>if cpS x y≠0 then cpS x y else cpP a b
theorem akx(a:List UInt8):¬a<a:=aq9 a
theorem amh(h:a<b):¬b<a:=List.lt_asymm h
theorem akw{c:List UInt8}(d:a<b)(e:b<c):a<c:=List.lt_trans d e
theorem anL(c:¬a<b)(d:¬b<a):a=b:=asq (arA.1 d) (arA.1 c)
theorem Et(a b:List UInt8):(a<b/\cpS a b=-1)\/(a=b/\cpS a b=0)\/(b<a/\cpS a b=1):=by
 unfold cpS
 grind
theorem akp(a:List UInt8):cpS a a=0:=by unfold cpS;rw[if_neg (akx a),if_neg (akx a)]
theorem akq(h:a<b):cpS a b=-1:=if_pos h
theorem anJ(h:b<a):cpS a b=1:=by unfold cpS;rw[if_neg (amh h),if_pos h]
theorem aex:∀(a b:Pth),cpP b a=- cpP a b
 |[],[]=>rfl
 |[],_::_=>rfl
 |_::_,[]=>rfl
 | x::a,y::b=>by
   unfold cpP;rcases Et x y with⟨h,e⟩|⟨h,e⟩|⟨h,e⟩
   .rw[e,anJ h];rfl
   .subst h;rw[e];exact aex a b
   .rw[e,akq h];rfl
theorem aev:∀{a b:Pth},cpP a b=0->a=b
 |[],[],_=>rfl
 |[],_::_,h=>by simp[cpP]at h
 |_::_,[],h=>by simp[cpP]at h
 | x::a,y::b,h=>by
   unfold cpP at h;rcases Et x y with⟨c,e⟩|⟨c,e⟩|⟨c,e⟩
   .omega
   .subst c;rw[e]at h;rw[aev h]
   omega
theorem aew:∀a:Pth,cpP a a=0
 |[]=>rfl
 |x::a=>by unfold cpP;rw[akp];simpa using aew a
theorem abX:∀{a b c:Pth},cpP a b<0->cpP b c<0->cpP a c<0
 |[],[],_,h,_=>by exact absurd h (by decide)
 |[],_::_,[],_,h=>by exact absurd h (by show ¬(1:Int)<0;decide)
 |[],_::_,_::_,_,_=>by show(-1:Int)<0;decide
 |_::_,[],_,h,_=>by exact absurd h (by show ¬(1:Int)<0;decide)
 |_::_,_::_,[],_,h=>by exact absurd h (by show ¬(1:Int)<0;decide)
 | x::a,y::b,z::c,h1,h2=>by
   unfold cpP at h1 h2⊢;rcases Et x y with⟨f,g⟩|⟨f,g⟩|⟨f,g⟩
   .rcases Et y z with⟨d,e⟩|⟨d,e⟩|⟨d,e⟩
    .rw[akq (akw f d)];simp
    .simp_all
    omega
   .subst f;rcases Et x z with⟨d,e⟩|⟨d,e⟩|⟨d,e⟩
    .omega
    .subst d;rw[g]at h1 h2;rw[g];exact abX h1 h2
    omega
   omega
def pLt(a b:Pth):Bool:=decide (cpP a b<0)
theorem agy(a:Pth):pLt a a=false:=by unfold pLt;rw[aew];rfl
theorem WA{a b c:Pth}(e:pLt a b=true)(d:pLt b c=true):pLt a c=true:=by unfold pLt at *;rw[decide_eq_true_eq]at *;exact abX e d
theorem acv{a b:Pth}(d:pLt a b=false)(c:pLt b a=false):a=b:=by unfold pLt at *;rw[decide_eq_false_iff_not]at *;rw[aex a b]at c;exact aev asP
theorem adK{a b:Pth}(h:pLt a b=true):pLt b a=false:=by
 cases h2:pLt b a with
 |false=>rfl
 |true=>have:=WA h h2;rw[agy]at this;cases this
theorem SD{a b c:Pth}(e:pLt a b=false)(d:pLt b c=false):pLt a c=false:=by
 cases h3:pLt a c with
 |false=>rfl
 | true =>
   cases h4:pLt b a with
   |true=>have:=WA h4 h3;rw[d]at this;cases this
   |false=>have:=acv e h4;subst this;rw[d]at h3;cases h3
theorem alL{β:Type}(f:β->Pth):SWO (λx y=>pLt (f x) (f y)):=
 ⟨λx=>agy _,λx y z=>WA,λx y z=>SD⟩
variable {α:Type}
def pth(x:Ent α):Pth:=(NK x.nm).reverse
def leE(x y:Ent α):Bool := !pLt (pth y) (pth x)
def iE(a:Ent α)(s:Int)(x:Ent α):Bool:=cC x.nm a.nm&&(decide (s=2) ||decide ((x.nm.length:Int)-a.nm.length=s))
def scL(l:List (Ent α))(a:Ent α)(s:Int):List (Ent α):=(l.filter (iE a s)).mergeSort leE
def scT(l:List (Ent α))(id s:Int):List Int:=match o7 l id with|none=>[]|some a=>if s<0\/2<s then[]else(scL l a s).map (·.id)
theorem acq{x y:Ent α}(h:pth x=pth y):NK x.nm=NK y.nm:=by have:=congrArg List.reverse h;simpa[pth]using this
theorem abI(a b c:Ent α)(e:leE a b=true)(d:leE b c=true):leE a c=true:=by unfold leE at *;simp only[aqd]at *;exact SD d e
theorem abJ(a b:Ent α):(leE a b ||leE b a)=true:=by
 unfold leE;cases h:pLt (pth b) (pth a)with
 |false=>rfl
 |true=>rw[adK h];rfl
theorem TOk.one{last:Int}{l:List (Ent α)}(h:TOk suf last l){a:Ent α}{s:Int}{m:List (Ent α)}(g:m.Perm (l.filter (iE a s)))(p:m.Pairwise λx y=>leE x y=true):m=scL l a s:=by have n:=ass (le:=leE) (λa b c=>abI a b c) abJ (l.filter (iE a s));have f:(scL l a s).Perm (l.filter (iE a s)):=aq8 _ _;refine asH (le:=λx y=>leE x y=true) (λx y j k d e=>?_) p n (g.trans f.symm);have o:x∈l:=(ap8.1 (g.mem_iff.1 j)).1;have i:y∈l:=(ap8.1 (f.mem_iff.1 k)).1;unfold leE at d e;simp only[aqd]at d e;exact h.byN o i (acq (acv e d))
def acH(x:Ent α)(l:List (Ent α)):Nat->Nat
 |0=>0
 |k+1=>match l[k]? with|some y=>if pLt (pth x) (pth y)then acH x l k else k+1|none=>k+1
def ahL(x:Ent α)(l:List (Ent α)):List (Ent α):=l.take (acH x l l.length)++[x]++l.drop (acH x l l.length)
theorem abL(x:Ent α)(l:List (Ent α)):∀k,k<=l.length->acH x l k<=k/\(∀j y,acH x l k<=j->j<k->l[j]?=some y->pLt (pth x) (pth y)=true)/\(∀y,acH x l k≠0->l[acH x l k-1]?=some y->pLt (pth x) (pth y)=false)
 |0,_=>⟨apt _,λj _ _ h=>absurd h (arE _),λy h=>absurd rfl h⟩
 | k+1,h=>by
   unfold acH;by_cases a:pLt (pth x) (pth l[k])=true
   .obtain⟨h1,h2,h3⟩:=abL x l k asP
    grind
   grind
theorem ahK(x:Ent α)(l:List (Ent α)):(ahL x l).Perm (l++[x]):=by unfold ahL;rw[apG];refine(List.perm_append_comm_assoc _ _ _).trans ?_;rw[aq5];exact List.perm_append_comm
theorem aeb{x:Ent α}{l:List (Ent α)}(h:l.Pairwise λx y=>leE x y=true):(ahL x l).Pairwise λx y=>leE x y=true:=by
 obtain⟨v,t,p⟩:=abL x l l.length (apt _);unfold ahL;obtain⟨k,u⟩:=apl (acH x l l.length);rw[u]at v t p⊢;have m:∀y∈l.drop k,pLt (pth x) (pth y)=true:=λy c=>by obtain⟨j,d,e⟩:=aqn.1 c;rw[asr]at e;rw[aqT]at d;exact t (k+j) y asP asP (by rw[apD asP,e])
 have n:∀y∈l.take k,pLt (pth x) (pth y)=false:=λy c=>by obtain⟨j,d,e⟩:=aqn.1 c;rw[ar8]at e;rw[aqK]at d;have o:k≠0:=asP;have z:l[k-1]?=some (l[k-1]'asP):=apD asP;have h4:=p _ o z;by_cases A:j=k-1;simp_all;have f:=aqC.1 h j (k-1) asP asP asP;rw[e]at f;unfold leE at f;rw[aqd]at f;exact SD h4 f
 rw[apG,asG];refine⟨h.sublist (List.take_sublist _ _),?_,?_⟩;rw[arX,aq1];refine⟨λy c=>?_,h.sublist (List.drop_sublist _ _)⟩;unfold leE;rw[adK (m y c)];rfl;intro a s b g;rw[arX]at g;rcases apP.1 g with rfl|g;unfold leE;rw[n a s];rfl;obtain⟨i,w,r⟩:=aqn.1 s;obtain⟨j,d,q⟩:=aqn.1 g;rw[ar8]at r;rw[asr]at q;rw[aqK]at w;rw[aqT]at d;rw[<- r,<- q];exact aqC.1 h i (k+j) asP asP asP
def ajP(m l:List (Ent α)):List (Ent α):=l.foldl (λm x=>ahL x m) m
theorem abM:∀(l m:List (Ent α)),(ajP m l).Perm (m++l)
 |[],m=>by simp[ajP]
 |x::l,m=>by refine(abM l (ahL x m)).trans ?_;refine((ahK x m).append_right l).trans ?_;simp
theorem Ye:∀(l m:List (Ent α)),(m.Pairwise λx y=>leE x y=true)->(ajP m l).Pairwise λx y=>leE x y=true
 |[],m,h=>h
 |x::l,m,h=>by exact Ye l _ (aeb h)
theorem TOk.ins{last:Int}{l:List (Ent α)}(h:TOk suf last l)(a:Ent α)(s:Int):ajP [] (l.filter (iE a s))=scL l a s :=
 h.one (by simpa using abM (l.filter (iE a s)) []) (Ye _ _ List.Pairwise.nil)
theorem TOk.srt{last:Int}{l:List (Ent α)}(h:TOk suf last l)(a:Ent α)(s:Int){m:List (Ent α)}(d:m.Perm (l.filter (iE a s))):m.mergeSort leE=scL l a s :=
 h.one ((aq8 _ _).trans d) (ass (le:=leE) (λa b c=>abI a b c) abJ m)
theorem ajT{last:Int}{l:List (Ent α)}(h:TOk suf last l){a x:Ent α}(d:a∈l)(f:x∈l)(s:Int):iE a s x=(decide (0<=((pth x).length:Int)-(pth a).length)&&decide ((pth x).take (pth a).length=pth a)&&(decide (s=2) ||decide (((pth x).length:Int)-(pth a).length=s))):=by
 have b:∀x:Ent α,(pth x).length=x.nm.length:=λx=>by simp[pth,bD]
 unfold iE;rw[b,b];congr 1;rw[arS,apw,decide_eq_true_eq,decide_eq_true_eq,cD];constructor;rintro⟨_,_,y,e⟩;have i:=congrArg List.length e;rw[apB,bD,bD]at i;refine⟨asP,?_⟩;have:pth x=pth a++y.reverse:=by unfold pth;rw[<- e,List.reverse_append]
 simp[*];rintro⟨j,g⟩;refine⟨h.ok x f,h.ok a d,?_⟩;have c:pth a <+: pth x:=by rw[<- g];exact List.take_prefix _ _
 unfold pth at c;simp_all
variable {α:Type}
def iB(n:List Rdn)(k:Nat)(tn:List Rdn):List Rdn:=n.take (n.length-k)++tn
def afg(l:List (Ent α))(id:Int)(tn:List Rdn):Bool:=match atE l tn with|some y=>decide (y.id≠id)|none=>false
def afW(l:List (Ent α))(dn tn:List Rdn):Bool:=l.any λy=>cC y.nm dn && !decide (OkD (iB y.nm dn.length tn))
def acz(suf:List Rdn)(l:List (Ent α))(id:Int)(dn tn:List Rdn):Int :=
 if kH dn suf=true then 53 else if ¬OkD tn\/tn=[]then 34 else if cC tn.tail dn=true then 53 else if atE l tn.tail=none then 32 else if afg l id tn=true then 68 else if afW l dn tn=true then 34 else 0
def fY(suf:List Rdn)(l:List (Ent α))(k:Int)(dn tn:List Rdn):Int :=
 if k<1\/4<k then 1
 else if k=1 then(if ¬OkD dn then 34 else if atE l dn≠none then 68 else if kH dn suf=false/\(dn=[]\/atE l dn.tail=none)then 32 else if 4096<=l.length then 80 else 0)
 else match atE l dn with
  |none=>32
  |some x=>if k=2 then(if bF (d8 l) (NK x.nm)≠0 then 66 else 0)else if k=3 then 0 else acz suf l x.id dn tn
def tK(l:List (Ent α))(last:Int)(dn:List Rdn)(v:α):List (Ent α):=l++[⟨last+1,dn,v⟩]
def Wf(l:List (Ent α))(id:Int):List (Ent α):=l.filter λx=>decide (x.id≠id)
def rD(l:List (Ent α))(id:Int)(v:α):List (Ent α):=l.map λx=>if x.id=id then{x with av:=v}else x
def nu(l:List (Ent α))(dn tn:List Rdn):List (Ent α):=l.map λx=>if cC x.nm dn=true then{x with nm:=iB x.nm dn.length tn}else x
def doT(suf:List Rdn)(l:List (Ent α))(last:Int)(k:Int)(dn tn:List Rdn)(v:α):List (Ent α)×Int :=
 if fY suf l k dn tn≠0 then(l,last)
 else if k=1 then(tK l last dn v,last+1)
 else if k=2 then(Wf l (bC l dn),last)
 else if k=3 then(rD l (bC l dn) v,last)
 else(rD (nu l dn tn) (bC l dn) v,last)
theorem adV(l:List (Ent α))(last:Int)(dn:List Rdn)(v:α):d8 (tK l last dn v)=d8 l++[(last+1,NK dn)]:=by simp[d8,tK]
theorem adU(l:List (Ent α))(id:Int):d8 (Wf l id)=(d8 l).filter λm=>decide (m.1≠id):=by unfold d8 Wf;rw[List.filter_map];rfl
theorem ZI(l:List (Ent α))(id:Int)(v:α):d8 (rD l id v)=d8 l:=by
 unfold d8 rD;rw[apS];refine aqJ λx _=>?_
 grind
theorem agB{n:List Rdn}(h:cC n dn=true):NK (iB n dn.length tn)=ren (NK dn) (NK tn) (NK n):=by obtain⟨_,_,a⟩:=cD.1 h;unfold ren;rw[if_pos a,bD,bD];unfold iB;congr 1;simp[NK,asb]
theorem TOk.ndOf_ren{last:Int}{l:List (Ent α)}(h:TOk suf last l)(b:OkD dn)(tn:List Rdn):d8 (nu l dn tn)=(d8 l).map λm=>(m.1,ren (NK dn) (NK tn) m.2):=by
 unfold d8 nu;rw[apS,apS];refine aqJ λx c=>?_
 simp only[arQ];by_cases a:cC x.nm dn=true;rw[if_pos a,agB a];rw[if_neg a];rw[gW λd=>a (cD.2 ⟨h.ok x c,b,d⟩)]
theorem TOk.nil{last:Int}(h:OkD suf)(a:suf≠[]):TOk (α:=α) suf last []:=
 ⟨h,λ_ h=>absurd h aqq,tL.nil λe=>a (Tl.1 e),λ_ h=>absurd h aqq⟩
theorem TOk.cha{last:Int}{l:List (Ent α)}(h:TOk suf last l)(id:Int)(v:α):TOk suf last (rD l id v):=by
 refine⟨h.sok,λx b=>?_,by rw[ZI];exact h.inv,λx b=>?_⟩
 all_goals
  obtain⟨y,a,rfl⟩:=apz.1 b;split
  .first|exact h.ok y a|exact h.ids y a
  .first|exact h.ok y a|exact h.ids y a
structure ao5(suf:List Rdn)(l:List (Ent α))(dn:List Rdn):Prop where
 ok:OkD dn
 no:∀x∈l,NK x.nm≠NK dn
 par:NK dn=NK suf\/∃x∈l,NK x.nm=(NK dn).tail
theorem TOk.canA{last:Int}{l:List (Ent α)}(h:TOk suf last l)(d:fY suf l 1 dn tn=0):ao5 suf l dn/\l.length<4096:=by
 unfold fY at d;by_cases a:OkD dn;rotate_left;simp_all;by_cases f:atE l dn=none;rotate_left;simp_all;by_cases b:kH dn suf=false/\(dn=[]\/atE l dn.tail=none);simp_all;by_cases h4:4096<=l.length;omega;refine⟨⟨a,tJ.1 f a,?_⟩,asP⟩;cases hs:kH dn suf with
 |true=>exact .inl (adv.1 hs).2.2
 | false =>
   right;have g:¬(dn=[]\/atE l dn.tail=none):=λe=>b ⟨hs,e⟩
   cases ht:atE l dn.tail with
   |none=>exact absurd (.inr ht) g
   | some x =>
     obtain⟨_,c,e⟩:=cQ ht;exact⟨x,c,by rw[e,Ws]⟩
theorem TOk.add{last:Int}{l:List (Ent α)}(h:TOk suf last l)(i:0<=last)(b:ao5 suf l dn)(v:α):
  TOk suf (last+1) (tK l last dn v)/\bF (d8 (tK l last dn v)) (NK dn)=0/\∀q,bF (d8 (tK l last dn v)) q=bF (d8 l) q+if(NK dn).tail=q then 1 else 0:=by
 obtain⟨g,f,d⟩:=h.inv.added (id:=last+1) (p:=NK dn) (λm c=>by
  obtain⟨x,a,rfl⟩:=apz.1 c;have:=h.ids x a;simp only;omega) (λm c=>by
  obtain⟨x,a,rfl⟩:=apz.1 c;exact b.no x a) (by
  rcases b.par with e|⟨x,a,e⟩;exact .inl e;exact .inr ⟨_,gM a,e⟩)
 rw[adV];refine⟨⟨h.sok,λx a=>?_,by rw[adV];exact g,λx a=>?_⟩,f,d⟩;rcases apy.1 a with a|a;exact h.ok x a;rw[apT.1 a];exact b.ok;rcases apy.1 a with a|a;have:=h.ids x a;omega
 grind
theorem TOk.del{last:Int}{l:List (Ent α)}(h:TOk suf last l){x:Ent α}(b:x∈l)(e:bF (d8 l) (NK x.nm)=0):
  TOk suf last (Wf l x.id)/\∀q,bF (d8 (Wf l x.id)) q+(if(NK x.nm).tail=q then 1 else 0)=bF (d8 l) q:=by
 obtain⟨c,d⟩:=h.inv.deleted (gM b) e;rw[adU];refine⟨⟨h.sok,λy a=>h.ok y (ap8.1 a).1,by rw[adU];exact c,λy a=>h.ids y (ap8.1 a).1⟩,d⟩
structure an5(suf:List Rdn)(l:List (Ent α))(x:Ent α)(dn tn:List Rdn):Prop where
 mem:x∈l
 ok:OkD dn
 nk:NK x.nm=NK dn
 tok:OkD tn
 tne:tn≠[]
 nos:NK dn≠NK suf
 nun:¬NK dn <:+ (NK tn).tail
 par:∃y∈l,NK y.nm=(NK tn).tail
 oth:∀y∈l,NK y.nm=NK tn->y=x
 all:∀y∈l,cC y.nm dn=true->OkD (iB y.nm dn.length tn)
theorem TOk.canM{last:Int}{l:List (Ent α)}(h:TOk suf last l){x:Ent α}(k:atE l dn=some x)(n:acz suf l x.id dn tn=0):an5 suf l x dn tn:=by
 obtain⟨f,i,e⟩:=cQ k;unfold acz at n;by_cases m:kH dn suf=true;simp_all;by_cases q:¬OkD tn\/tn=[];simp_all;have g:OkD tn:=by simp_all
 by_cases p:cC tn.tail dn=true;simp_all;by_cases h4:atE l tn.tail=none;simp_all;by_cases b:afg l x.id tn=true;simp_all;by_cases j:afW l dn tn=true;simp_all;refine⟨i,f,e,g,λc=>q (.inr c),λc=>m (adv.2 ⟨f,h.sok,c⟩),λc=>p (cD.2 ⟨g.tail,f,by rw[Ws];exact c⟩),?_,λy a c=>?_,λy a r=>?_⟩;cases d:atE l tn.tail with
 |none=>exact absurd d h4
 | some y =>
   obtain⟨_,a,o⟩:=cQ d;exact⟨y,a,by rw[o,Ws]⟩
 have:=h.at a g c.symm;unfold afg at b;rw[this]at b;simp only[decide_eq_true_eq,ne_eq,ar6]at b;exact h.byI a i b;have d:=aq0.1 (by simpa[afW]using j:(l.any λy=>cC y.nm dn && !decide (OkD (iB y.nm dn.length tn)))=false) y a;simp_all
theorem TOk.mov{last:Int}{l:List (Ent α)}(h:TOk suf last l){x:Ent α}(a:an5 suf l x dn tn):
  TOk suf last (nu l dn tn)/\∀y∈l,(bF (d8 (nu l dn tn)) (ren (NK dn) (NK tn) (NK y.nm)):Int)=bF (d8 l) (NK y.nm)+(if NK y.nm=(NK tn).tail then 1 else 0)-(if NK y.nm=(NK dn).tail then 1 else 0):=by
 have d:(x.id,NK dn)∈d8 l:=by rw[<- a.nk];exact gM a.mem
 obtain⟨f,g⟩:=h.inv.moved d a.nos (λe=>a.tne (Tl.1 e)) a.nun (by
  obtain⟨y,b,e⟩:=a.par;exact⟨_,gM b,e⟩) (λm d e=>by
  obtain⟨y,b,rfl⟩:=apz.1 d;rw[a.oth y b e])
 rw[h.ndOf_ren a.ok];refine⟨⟨h.sok,λy b=>?_,by rw[h.ndOf_ren a.ok];exact f,λy b=>?_⟩,λy b=>g _ (gM b)⟩;obtain⟨z,c,rfl⟩:=apz.1 b;split;rename_i i;exact a.all z c i;exact h.ok z c;obtain⟨z,c,rfl⟩:=apz.1 b;split;exact h.ids z c;exact h.ids z c
theorem TOk.done{last:Int}{l:List (Ent α)}(h:TOk suf last l)(f:0<=last)(k:Int)(dn tn:List Rdn)(v:α):TOk suf (doT suf l last k dn tn v).2 (doT suf l last k dn tn v).1/\last<=(doT suf l last k dn tn v).2/\(doT suf l last k dn tn v).2<=last+1/\(doT suf l last k dn tn v).1.length<=l.length+1:=by
 unfold doT;by_cases a:fY suf l k dn tn=0;rotate_left
 grind
 rw[if_neg (by simpa using a)];by_cases c:k=1;subst c;rw[if_pos rfl];exact⟨(h.add f (h.canA a).1 v).1,by simp only;omega,by simp only;omega,by simp[tK]⟩;rw[if_neg c];unfold fY at a;by_cases e:k<1\/4<k;omega;rw[if_neg e,if_neg c]at a;cases hx:atE l dn with
 |none=>rw[hx]at a;simp at a
 | some x =>
   rw[hx]at a;simp only at a;have g:bC l dn=x.id:=(by unfold bC;rw[hx]);rw[g];by_cases d:k=2
   .rw[if_pos d]at a⊢;by_cases b:bF (d8 l) (NK x.nm)=0
    .exact⟨(h.del (cQ hx).2.1 b).1,asc _,by simp only;omega,Nat.le_succ_of_le (aqL _ _)⟩
    omega
   rw[if_neg d]at a⊢;by_cases b:k=3
   .rw[if_pos b];exact⟨h.cha _ _,asc _,by simp only;omega,by simp[rD]⟩
   rw[if_neg b]at a⊢;exact⟨(h.mov (h.canM hx a)).1.cha _ _,asc _,by simp only;omega,by simp[rD,nu]⟩
structure Rul where
 who:Int
 dn:List UInt8
 wh:List UInt8
 at_:List UInt8
 rg:Int
 al:Bool
deriving Inhabited
def Yp(r:Rul):List AV:=[.int .i64 r.who,.str r.dn,.str r.wh,.str r.at_,.int .i64 r.rg,.bool r.al]
def rlC(r:Rul):List AV:=Yp r++[.sl ((dW r.dn).1.map aq) (dW r.dn).1.length none,.sl ((dW r.wh).1.map aq) (dW r.wh).1.length none]
def ii(l:List Rul):List AV:=l.flatMap Yp
def kr(l:List Rul):List AV:=l.flatMap rlC
theorem ahl(l:List Rul):(ii l).length=l.length*6:=by
 induction l with
 |nil=>rfl
 |cons a l ih=>simp only[ii,ap5,apB,apC]at *;rw[ih];simp[Yp];omega
theorem ai4(l:List Rul):(kr l).length=l.length*8:=by
 induction l with
 |nil=>rfl
 |cons a l ih=>simp only[kr,ap5,apB,apC]at *;rw[ih];simp[rlC,Yp];omega
theorem ai5(l m:List Rul):kr (l++m)=kr l++kr m:=by simp[kr]
theorem acQ{α:Type}[Inhabited α]{f:α->List AV}{n:Nat}(b:∀a,(f a).length=n):∀{l:List α}{k:Nat},k<l.length->((l.flatMap f).drop (k*n)).take n=f (l.getD k default)
 |a::l,0,_=>by simp[asE (Nat.le_of_eq (b a).symm),<- b a]
 |a::l,k+1,h=>by rw[ap5,arG,Nat.add_comm,<- ash,List.drop_left' (b a),arM];exact acQ b (by simpa using h)
theorem ai1{l:List Rul}{k:Nat}(h:k<l.length):((ii l).drop (k*6)).take 6=Yp (l.getD k default):=acQ (f:=Yp) (n:=6) (λ_=>rfl) h
theorem alz{l:List Rul}{k:Nat}(h:k<l.length):((kr l).drop (k*8)).take 8=rlC (l.getD k default):=acQ (f:=rlC) (n:=8) (λ_=>rfl) h
def bkE(ts:List Typ)(r:Rul):Int :=
 if r.who<0\/4<r.who then 24
 else if(dW r.dn).2≠0 then(dW r.dn).2
 else if r.who<3/\(dW r.dn).1≠[]then 2
 else if(dW r.wh).2≠0 then(dW r.wh).2
 else if r.at_≠[]/\gV ts r.at_=none then 20
 else if r.rg<1\/15<r.rg then 23
 else 0
def Tj(ts:List Typ):List Rul->Int
 |[]=>0
 |r::l=>if bkE ts r≠0 then bkE ts r else Tj ts l
theorem ab9{ts:List Typ}:∀{l:List Rul},Tj ts l=0↔∀r∈l,bkE ts r=0
 |[]=>by simp[Tj]
 | r::l=>by
   unfold Tj;by_cases h:bkE ts r=0
   .rw[if_neg (by simpa using h),ab9];simp[h]
   simp[*]
theorem anM{ts:List Typ}{r:Rul}(h:bkE ts r=0):0<=r.who/\r.who<=4/\(dW r.dn).2=0/\(dW r.wh).2=0/\1<=r.rg/\r.rg<=15:=by unfold bkE at h;omega
def ami(g right:Int):Bool:=decide ((g/right)%2=1)
def Y5(r:Int):Prop:=r=1\/r=2\/r=4\/r=8
theorem Y3:∀n:Nat,n<16->∀m:Nat,m<4->(!decide (IntKind.i64.wrap ((BitVec.ofInt 64 (n:Int) &&& BitVec.ofInt 64 ((2^m:Nat):Int)).toNat:Int)=0))=ami (n:Int) ((2^m:Nat):Int)/\((n:Int).tdiv ((2^m:Nat):Int)).tmod 2=((n:Int)/((2^m:Nat):Int))%2:=by decide
theorem akz{g r:Int}(d:1<=g)(c:g<=15)(b:Y5 r):(!decide (IntKind.i64.wrap ((BitVec.ofInt 64 g &&& BitVec.ofInt 64 r).toNat:Int)=0))=ami g r/\(g.tdiv r).tmod 2=(g/r)%2:=by obtain⟨n,rfl⟩:∃n:Nat,g=n:=⟨g.toNat,asP⟩;have a:n<16:=asP;rcases b with rfl|rfl|rfl|rfl;exact Y3 n a 0 asP;exact Y3 n a 1 asP;exact Y3 n a 2 asP;exact Y3 n a 3 asP
def aiQ(r:Rul)(who ent:List Rdn):Bool :=
 if r.who=1 then !decide (who=[])else if r.who=2 then kH who ent else if r.who=3 then kH who (dW r.dn).1 else if r.who=4 then !decide (who=[])&&cC who (dW r.dn).1 else true
def am6(who ent:List Rdn)(n:List UInt8)(right:Int)(r:Rul):Bool :=
 ami r.rg right&&(decide (r.at_=[]) ||decide (ak r.at_=ak n))&&cC ent (dW r.wh).1&&aiQ r who ent
def ahD(rs:List Rul)(who ent:List Rdn)(n:List UInt8)(right:Int):Bool:=match rs.find? (am6 who ent n right)with|some r=>r.al|none=>false
def ajB(adm:List Rdn)(rs:List Rul)(who ent:List Rdn)(n:List UInt8)(right:Int):Bool :=
 decide (OkD who)&&decide (OkD ent)&&((!decide (who=[])&&kH who adm) ||ahD rs who ent n right)
theorem ahC(r:Rul)(rs:List Rul)(who ent:List Rdn)(n:List UInt8)(a:Int):ahD (r::rs) who ent n a=if am6 who ent n a r=true then r.al else ahD rs who ent n a:=by
 unfold ahD
 grind
end Go.Proofs.YtdnfjhflkkpokaaGreatDoor.Av
set_option maxRecDepth 100000
namespace Go.Proofs.YtdnfjhflkkpokaaGreatDoor.Av
open Go
def X7:LSO:=[Az 3 0,AU 6,Ac 7 0]
def X6:LSO:=[Aa 19 1,Aj 20 36 19,Aa 18 20,Ao 21 18,Aq 22 18,Aa 8 21,Aa 9 22]
def X5:LSO:=[Aa 23 9,AB 24 23 0]
def X4:LSO:=[Aa 25 9,AU 6,Aa 7 25]
def X3:LSO:=[Aa 26 1,BW 27 59 26,o1 28 (.build [(.sl [] 0 (some 0)),(.sl [] 0 (some 0))] [(0,(1,(tm 27)))]),Az 29 28,Aa 10 29]
def X2:LSO:=[Aa 30 2,Ah 31 30,Ac 32 0]
def X0:LSO:=[Al 33 32 31]
def XZ:LSO:=[Am 34 6 30 32,Ar 35 6 34,o1 12 (.alloc [(.int .i64 0),(.str []),(.str []),(.str []),(.int .i64 0),(.bool false)]),Ap 6 12 35]
def XY:LSO:=[Ad 36 0 12,Ab 37 1 36,AJ 38 37 0,Aa 39 38,.grp none 39 false
 [A3 40 39 0 12,Ay 41 39 1 40,AC 42 39 41 4]
 43 (tm 42)]
def XX:LSO:=[AU 6,Ac 7 24]
def VQ:LSO:=[Ad 45 1 12,Ab 46 1 45,Aj 47 77 46,Aa 44 47,Ao 48 44,Aq 49 44,Aa 13 48,Aa 14 49]
def VP:LSO:=[Aa 50 14,AB 51 50 0]
def VO:LSO:=[Aa 52 14,AU 6,Aa 7 52]
def VN:LSO:=[Ad 53 0 12,Ab 54 1 53,AJ 55 54 3,Aa 56 55,.grp none 56 true
 [Ae 57 56 13,AE 58 56 57,BD 59 56 58 0]
 60 (tm 59)]
def VM:LSO:=[AU 6,Ac 7 2]
def VL:LSO:=[Ad 62 2 12,Ab 63 1 62,Aj 64 77 63,Aa 61 64,Ao 65 61,Aq 66 61,Aa 15 65,Aa 14 66]
def VK:LSO:=[Aa 67 14,AB 68 67 0]
def VJ:LSO:=[Aa 69 14,AU 6,Aa 7 69]
def VI:LSO:=[Ar 71 2 3,Ad 72 3 12,Ab 73 1 72,As 74 45 71 73,Aa 70 74,Ao 75 70,Aq 76 70,By 16,Ap 4 16 75,Aa 17 76]
def VH:LSO:=[Ad 77 3 12,Ab 78 1 77,Ci 79 78,Aa 80 79,.grp none 80 true
 [Ae 81 80 17,Bu 82 80 81]
 83 (tm 82)]
def VG:LSO:=[AU 6,Ac 7 20]
def VF:LSO:=[Ad 84 4 12,Ab 85 1 84,AJ 86 85 1,Aa 87 86,.grp none 87 false
 [A3 88 87 4 12,Ay 89 87 1 88,AC 90 87 89 15]
 91 (tm 90)]
def VE:LSO:=[AU 6,Ac 7 23]
def VD:List (aw×Kd):=
 [AD 92 10,AD 93 10,AT 94 93 0 0,A9 95 1 94,AA 96 1 95 0 0,od 97 (.load true 6 (tm 12)) (.read 0 0),AD 98 13,AD 99 15,
 od 100 (.build [(.int .i64 0),(.str []),(.str []),(.str []),(.int .i64 0),(.bool false),(.sl [] 0 (some 0)),(.sl [] 0 (some 0))] [(0,(6,(tm 97))),(6,(1,(tm 98))),(7,(1,(tm 99)))]) .pure,
 od 101 (.bslice false 8 1 [(.int .i64 0),(.str []),(.str []),(.str []),(.int .i64 0),(.bool false),(.sl [] 0 (some 0)),(.sl [] 0 (some 0))] [(0,(8,(tm 100)))]) (.read 0 0),
 od 102 (.app 1 8 120 [(.int .i64 0),(.str []),(.str []),(.str []),(.int .i64 0),(.bool false),(.sl [] 0 (some 0)),(.sl [] 0 (some 0))] (tm 96) (tm 101)) .eff]
def Sq:List aw :=
 [⟨(some 103),(.nilchk (tm 92)),none⟩,⟨(some 104),(.faddr 1 (tm 103)),none⟩,⟨none,(.store 1 (tm 104) (tm 102)),none⟩]
def VC:LSO:=[Ai 105 32 1,Aa 32 105]
def VB:LSO:=[Aa 106 10,Aa 6 106,Ac 7 0]
def EB:aK:=⟨107,(asI X7 [] (.seq (asI X6 CC (asI X5 C4 (asK 24 (.sreg X4 CD)))) (asI X3 CA (.seq (asI X2 [] (asL 0 (asI X0 [] (.seq (asM 33 0) (.seq (.block 1 (asI XZ C6 (.seq (asI XY CA (asK 43 (.sreg XX []))) (asI VQ CI (.seq (asI VP C4 (asK 51 (.sreg VO CD))) (.seq (asI VN CA (asK 60 (.sreg VM []))) (asI VL CI (.seq (asI VK C4 (asK 68 (.sreg VJ CD))) (.seq (asI VI CM (asI VH CA (asK 83 (.sreg VG [])))) (.seq (asI VF CA (asK 91 (.sreg VE []))) (.dregM VD Sq [false,false,false,false,false,false,false,false,false,false,false,false,false]))))))))))) (.sreg VC C4)))))) (asI VB CD .ret))))),[(.tmp 6),(.tmp 7)]⟩
attribute [push_cast] X7 X6 X5 X4 X3 X2 X0 XZ XY XX VQ VP VO VN VM VL VK VJ VI VH VG VF VE VD Sq VC VB
theorem Wp:asN 33=asO EB:=asR
def VA:LSO:=[Af 4]
def Vz:LSO:=[Aa 5 0,Ah 6 5,Aa 7 1,Ah 8 7,AF 9 6 8,Aa 10 9,.grp none 10 true
 [Ae 11 10 0,Ae 12 10 1,AS 13 10 62 11 12]
 14 (tm 13),Aa 4 14]
def Th:aK:=⟨15,(asI VA [] (asI Vz CE .ret)),[(.tmp 4)]⟩
attribute [push_cast] VA Vz
theorem abe:asN 61=asO Th:=asR
def ry:LSO:=[Az 3 0,Af 6]
def rx:LSO:=[Ad 7 0 3,Ad 8 0 7,Ab 9 1 8]
def ru:LSO:=[An 11 9 1,Aa 10 11]
def rr:LSO:=[Aa 12 1,Ah 13 12,A8 14 13 0,Aa 6 14]
def rq:LSO:=[An 16 9 2,Aa 15 16]
def rp:LSO:=[Aa 17 1,Aa 18 2,As 19 61 17 18,Aa 6 19]
def rm:LSO:=[An 21 9 3,Aa 20 21]
def rl:LSO:=[Aa 22 1,Ad 23 6 3,Ab 24 1 23,As 25 61 22 24,Aa 6 25]
def rk:LSO:=[An 27 9 4,Aa 26 27]
def rj:LSO:=[Aa 28 1,Ah 29 28,A8 30 29 0,Aa 31 30,.grp none 31 true
 [Ae 32 31 1,A6 33 31 6 3,A5 34 31 1 33,AS 35 31 62 32 34]
 36 (tm 35),Aa 6 36]
def oW:LSO:=[A0 6]
def lX:aK:=⟨37,(asI ry [] (.seq (asI rx C6 (.block 0 (asI ru C4 (asJ 10 (asI rr C7 .ret) (asI rq C4 (asJ 15 (asI rp C7 .ret) (asI rm C4 (asJ 20 (asI rl CA .ret) (asI rk C4 (asK 26 (.sreg rj CB))))))))))) (asI oW [] .ret))),[(.tmp 6)]⟩
attribute [push_cast] ry rx ru rr rq rp rm rl rk rj oW
theorem Oz:asN 63=asO lX:=asR
def Eb:LSO:=[Af 10]
def Ea:LSO:=[Aa 18 1,Aj 19 36 18,Aa 17 19,Ao 20 17,Aq 21 17,Aa 11 20,Aa 12 21]
def D9:LSO:=[Aa 23 2,Aj 24 36 23,Aa 22 24,Ao 25 22,Aq 26 22,Aa 13 25,Aa 14 26]
def D8:LSO:=[Aa 27 0,B6 28 27,Aa 29 28,.grp none 29 false
 [Ag 30 29 12,Bk 31 29 30 0]
 32 (tm 31),Aa 33 32,.grp none 33 false
 [Ag 34 33 14,Bk 35 33 34 0]
 36 (tm 35),Aa 37 36,.grp none 37 false
 [Ag 38 37 4,Bk 39 37 38 1,Ag 40 37 39,.grp (some (37,false)) 40 true
 [Ae 41 40 4,Br 42 40 41 2]
 43 (tm 42),Ag 44 37 43,.grp (some (37,false)) 44 true
 [Ae 45 44 4,Br 46 44 45 4]
 47 (tm 46),Ag 48 37 47,.grp (some (37,false)) 48 true
 [Ae 49 48 4,Br 50 48 49 8]
 51 (tm 50)]
 52 (tm 51)]
def D7:LSO:=[Af 10]
def D6:LSO:=[Aa 53 1,Ah 54 53,A8 55 54 0,Aa 56 55,.grp none 56 true
 [Ae 57 56 1,Ae 58 56 0,Bx 59 56 58,A6 60 56 0 59,A5 61 56 1 60,AS 62 56 61 57 61]
 63 (tm 62)]
def D5:LSO:=[A0 10]
def D4:LSO:=[Aa 64 0,Au 65 64,Ad 66 1 65,Ab 67 1 66,Ah 68 67,Ac 69 0]
def D0:LSO:=[Al 70 69 68]
def DZ:LSO:=[Am 71 8 67 69,Ar 72 8 71,
 o1 16 (.alloc [(.int .i64 0),(.str []),(.str []),(.str []),(.int .i64 0),(.bool false),(.sl [] 0 (some 0)),(.sl [] 0 (some 0))]),Ap 8 16 72]
def v8:LSO:=[Ad 73 0 16,Ad 74 4 73,Ab 75 1 74,Aa 76 4,o1 77 (.bin .and (tm 75) (tm 76)),AB 78 77 0,Aa 79 78,.grp none 79 true
 [A6 80 79 0 16,A6 81 79 3 80,A5 82 79 1 81,og 83 79 true (.bin .eql (tm 82) (.av (.str []))),Ae 84 79 83,.grp (some (79,true)) 84 false
 [A3 85 84 0 16,A3 86 84 3 85,Ay 87 84 1 86,AN 88 84 46 87,Ag 89 84 3,AN 90 84 46 89,BB 91 84 88 90]
 92 (tm 91)]
 93 (tm 92),Aa 94 93,.grp none 94 true
 [Ae 95 94 2,A6 96 94 7 16,A5 97 94 1 96,AS 98 94 62 95 97]
 99 (tm 98),Aa 100 99,.grp none 100 true
 [og 101 100 true (.load true 8 (tm 16)),Ae 102 100 1,Ae 103 100 2,og 104 100 true (.call 63 [(tm 101),(tm 102),(tm 103)])]
 105 (tm 104)]
def v7:LSO:=[Ad 106 0 16,Ad 107 5 106,Ab 108 1 107,Aa 10 108]
def v6:LSO:=[Ai 109 69 1,Aa 69 109]
def vZ:LSO:=[Af 10]
def fh:aK:=⟨110,(asI Eb [] (asI Ea CC (asI D9 CC (.seq (asI D8 CE (asK 52 (.sreg D7 []))) (.seq (asI D6 CA (asK 63 (.sreg D5 []))) (.seq (asI D4 CV (asL 0 (asI D0 [] (.seq (asM 70 0) (.seq (.block 1 (asI DZ C6 (asI v8 CK (asK 105 (.sreg v7 C7))))) (.sreg v6 C4)))))) (asI vZ [] .ret))))))),[(.tmp 10)]⟩
attribute [push_cast] Eb Ea D9 D8 D7 D6 D5 D4 D0 DZ v8 v7 v6 vZ
theorem lY:asN 26=asO fh:=asR
def vY:LSO:=[Ak 10]
def vX:LSO:=[Ak 11]
def vW:LSO:=[Aa 14 3,Ah 15 14,Ac 16 0]
def vV:LSO:=[Al 17 16 15]
def vU:LSO:=[Am 18 2 14 16,Ar 19 2 18,Bo 13,Ap 2 13 19]
def vT:LSO:=[Aa 20 0,Aa 21 1,Aa 22 2,Ad 23 0 13,Ab 24 1 23,Aa 25 4,o1 26 (.call 26 [(tm 20),(tm 21),(tm 22),(tm 24),(tm 25)])]
def vS:List (aw×Kd):=
 [AD 27 11,A9 28 0 13,AA 29 1 28 0 1,A9 30 1 13,AA 31 1 30 0 0,od 32 (.app 0 1 16 [(.str [])] (.av (.sl [] 0 (some 0))) (tm 31)) .eff,Cv 33 29 32,Cw 34 33 0 0]
def tc:List aw :=
 [⟨(some 35),(.app 1 2 40 [(.str []),(.sl [] 0 (some 0))] (tm 27) (tm 34)),none⟩,⟨(some 11),(.mv (tm 35)),none⟩]
def vR:LSO:=[Ai 36 16 1,Aa 16 36]
def vQ:LSO:=[Aa 37 11,Aa 10 37]
def pB:aK:=⟨38,(asI vY [] (asI vX [] (.seq (asI vW [] (asL 0 (asI vV [] (.seq (asM 17 0) (.seq (.block 1 (asI vU C6 (asI vT CC (asJ 26 (.dregM vS tc CG) .skip)))) (.sreg vR C4)))))) (asI vQ C4 .ret)))),[(.tmp 10)]⟩
attribute [push_cast] vY vX vW vV vU vT vS tc vR vQ
theorem Ti:aL Tryz.prog (λr i=>if r=6/\i=5 then 0 else 1) 28=some pB.raw:=asR
attribute [push_cast] EB Th lX fh pB
end Go.Proofs.YtdnfjhflkkpokaaGreatDoor.Av
